/-
  Lemmas and walks that the seat's cards rest on, merged: W24, W25, W26. No statement of the set is proved here.
-/
import Derived.Test.YtgppllppddaodaaGreatDoorB7
/-
  The walk of AsmJoins.
-/
namespace Go.Proofs.YtgppllppddaodaaGreatDoor
open Sl Am
open Go

section
variable {P : Program} {N : Nat} {R : Heap} {ops : Array Oper} {rest : List Oper} {e : Env} {L : Heap} {K : Env → Heap → Prop}
variable {d : Nat} {ty : TypeId} {pos : String} {af : Array Edge} {g : Option (Nat × Bool)} {x y : Operand}
/-- Nothing is appended. -/
theorem ow_append0 {t el : TypeId} {size bytes n cap c : Nat} {ad ad2 : Option Addr}
    (hw : wantedE ops e ⟨some d, .call ⟨.builtin .append, #[x, y], #[t, t]⟩, ty, pos, af, g⟩ = some true) (hd : Nat.blt d N = true)
    (hx : ev e x = some (.slice ad n cap)) (hy : ev e y = some (.slice ad2 0 c)) (ht : rowT P t = some (el, size, bytes)) (hn : n ≤ cap)
    (k : OpsW P N R ops rest ((d, .slice ad n cap) :: e) L K) : OpsW P N R ops (⟨some d, .call ⟨.builtin .append, #[x, y], #[t, t]⟩, ty, pos, af, g⟩ :: rest) e L K := by
  refine ow_pure rfl hw hd (fun a w h => ?_) k
  unfold rowT at ht
  split at ht
  · rename_i el' hu
    split at ht
    · rename_i i hi
      have hs : (sizeOf el').run P w = .ok i.size w := by simp [sizeOf, typeInfo, hi]
      have e1 := h.ev hx
      have e2 := h.ev hy
      have hf : (Builtin.firstCells i.size 0 (.slice ad2 0 c)).run P w = .ok #[] w := by
        cases ad2 with
        | none => exact run_firstCells_none w _ _ _ _
        | some b => exact run_firstCells_some w _ _ b _ _ [] (by simp) (by simp)
      simp only [execOp, resolve, invoke, builtin, Sem.run_bind, Sem.run_pure, Result.andThen_ok, List.map_toArray, List.map_cons, List.map_nil, e1, e2]
      have key : (Builtin.append_ #[t, t] ty #[.slice ad n cap, .slice ad2 0 c]).run P w = .ok (.slice ad n cap) w := by
        cases ad with
        | none => simp [Builtin.append_, run_underlying hu, hs, Builtin.lenOf, hf, hn]
        | some b => simp [Builtin.append_, run_underlying hu, hs, Builtin.lenOf, hf, hn, storeCells]
      simp [key]
    · cases ht
  · cases ht
/-- A slice of words that is read alone is appended. -/
theorem ow_append_r {sv wv : Value} {A F : Heap} {n : Nat} {xs : List Value} {ws : List Int}
    (hw : wantedE ops e ⟨some d, .call ⟨.builtin .append, #[x, y], #[22, 22]⟩, ty, pos, af, g⟩ = some true) (hd : Nat.blt d N = true)
    (hx : ev e x = some sv) (hy : ev e y = some wv) (ht : rowT P 22 = some (36, 1, 4)) (hown : OwnS 36 1 sv A n xs) (hsp : Split L A F) (hr : U32R R wv ws) (hb : n + ws.length ≤ 1073741824)
    (k : ∀ sv' A', OwnS 36 1 sv' A' (n + ws.length) (xs ++ u32V ws) → OpsW P N R ops rest ((d, sv') :: e) (A' ++ F) K) : OpsW P N R ops (⟨some d, .call ⟨.builtin .append, #[x, y], #[22, 22]⟩, ty, pos, af, g⟩ :: rest) e L K := by
  obtain ⟨ad, c, hv, hr⟩ := hr
  subst hv
  by_cases hz : ws = []
  · subst hz
    have hk := k sv A (by simpa [u32V] using hown)
    refine ow_perm hsp.perm ?_
    cases hown with
    | nil => exact ow_append0 hw hd hx hy ht (Nat.le_refl _) hk
    | row b cap n cells xs h1 h2 h3 h4 => exact ow_append0 hw hd hx hy ht h1 hk
  · obtain ⟨b, o, cells, T, f, rfl, hm, hc⟩ := hr hz
    have hl : (cells.drop o).take (ws.length * 1) = u32V ws := by
      rw [Nat.mul_one]
      apply List.ext_getElem?
      intro j
      by_cases hj : j < ws.length
      · have h1 := hc j (ws[j]) (List.getElem?_eq_getElem hj)
        rw [List.getElem?_take, if_pos hj, List.getElem?_drop, h1, u32V, List.getElem?_map, List.getElem?_eq_getElem hj]; rfl
      · rw [List.getElem?_take, if_neg hj, u32V, List.getElem?_map, List.getElem?_eq_none (by omega)]; rfl
    refine ow_append hw hd hx hy ht hown hsp (.inr hm) hl (by simp [u32V]) (fun u hu => ?_) (List.length_pos_iff.2 hz) ?_ ?_ k
    · simp only [u32V, List.mem_map] at hu
      obtain ⟨q, _, rfl⟩ := hu
      rfl
    · simp only [maxLen]; omega
    · omega
end
theorem u32_app (a b : List Nat) : (a.map fun (w : Nat) => (w : Int)) ++ (b.map fun (w : Nat) => (w : Int)) = (a ++ b).map fun (w : Nat) => (w : Int) := by simp

set_option maxRecDepth 100000 in
set_option maxHeartbeats 400000 in
theorem joins_w : ∀ (R : Heap) (av bv : Value) (xs ys : List Nat), GlobP R → U32S R av xs → U32S R bv ys → (∀ w ∈ xs, w < 4294967296) → (∀ w ∈ ys, w < 4294967296) → FnW Tryz.prog 5 [av, bv] R [] fun v _ => v = .bool true := by
  intro R av bv xs ys hR ha hb hlx hly
  obtain ⟨ada, ca, hva, _⟩ := id ha
  obtain ⟨adb, cb2, hvb, _⟩ := id hb
  have hxy : ∀ w ∈ xs ++ ys, w < 4294967296 := fun w hw => (List.mem_append.1 hw).elim (hlx w) (hly w)
  refine fn_of_body Tryz.func5 rfl Tryz.ntmps5 Tryz.results5 (by rfl) ?_
  refine cw_regseq ?_
  refine ow_y (y_assign rfl) rfl rfl rfl ?_
  refine ow_nil ?_
  refine cw_regseq ?_
  refine ow_call rfl rfl (by rfl) ct_10 (awake_c R _ hR) ?_
  · rintro _ _ ⟨rfl, rfl⟩
    refine ow_y (y_assign rfl) rfl rfl rfl ?_
    refine ow_nil ?_
    refine cw_seq ?_
    refine cw_regseq ?_
    refine ow_y (y_move rfl) rfl rfl rfl ?_
    refine ow_y (y_lenSl (congrArg some hva) el_22) rfl rfl rfl ?_
    refine ow_cmp rfl rfl rfl rfl rfl (fun h16 => ?_) (fun h16 => ?_)
    · simp only [cmpP] at h16
      refine ow_y (y_move rfl) rfl rfl rfl ?_
      refine ow_skip rfl rfl rfl ?_
      refine ow_skip rfl rfl rfl ?_
      refine ow_skip rfl rfl rfl ?_
      refine ow_y (y_pick_t rfl rfl) rfl rfl rfl ?_
      refine ow_nil ?_
      refine cw_if_t rfl ?_
      refine cw_regseq ?_
      refine ow_y (y_move rfl) rfl rfl rfl ?_
      refine ow_y (y_assign rfl) rfl rfl rfl ?_
      refine ow_nil ?_
      refine cw_ret ?_
      repeat with_reducible first | refine thenQ_ret ?_ | refine thenQ_normal ?_ | refine thenQ_exit ?_ | refine blockQ_ret ?_ | refine blockQ_normal ?_ | refine blockQ_exit_same ?_ | refine blockQ_exit_ne rfl ?_
      refine body_ret (.one (.tmp rfl)) ?_
      rfl
    · simp only [cmpP] at h16
      refine ow_y (y_move rfl) rfl rfl rfl ?_
      refine ow_y (y_move rfl) rfl rfl rfl ?_
      refine ow_y (y_lenSl (congrArg some hvb) el_22) rfl rfl rfl ?_
      refine ow_cmp rfl rfl rfl rfl rfl (fun h20 => ?_) (fun h20 => ?_)
      · simp only [cmpP] at h20
        refine ow_y (y_pick_f rfl rfl) rfl rfl rfl ?_
        refine ow_nil ?_
        refine cw_if_t rfl ?_
        refine cw_regseq ?_
        refine ow_y (y_move rfl) rfl rfl rfl ?_
        refine ow_y (y_assign rfl) rfl rfl rfl ?_
        refine ow_nil ?_
        refine cw_ret ?_
        repeat with_reducible first | refine thenQ_ret ?_ | refine thenQ_normal ?_ | refine thenQ_exit ?_ | refine blockQ_ret ?_ | refine blockQ_normal ?_ | refine blockQ_exit_same ?_ | refine blockQ_exit_ne rfl ?_
        refine body_ret (.one (.tmp rfl)) ?_
        rfl
      · simp only [cmpP] at h20
        refine ow_y (y_pick_f rfl rfl) rfl rfl rfl ?_
        refine ow_nil ?_
        refine cw_if_f rfl ?_
        refine cw_skip ?_
        repeat with_reducible first | refine thenQ_ret ?_ | refine thenQ_normal ?_ | refine thenQ_exit ?_ | refine blockQ_ret ?_ | refine blockQ_normal ?_ | refine blockQ_exit_same ?_ | refine blockQ_exit_ne rfl ?_
        refine cw_regseq ?_
        refine ow_y (y_move rfl) rfl rfl rfl ?_
        refine ow_call rfl rfl (by rfl) ct_11 (FnW.genR (print_w R av xs hR ha hlx (by omega)) (fun p hp => .inl hp)) ?_
        rintro _ _ ⟨rfl, rfl⟩
        refine ow_y (y_assign rfl) rfl rfl rfl ?_
        refine ow_nil ?_
        refine cw_regseq ?_
        refine ow_y (y_move rfl) rfl rfl rfl ?_
        refine ow_call rfl rfl (by rfl) ct_11 (FnW.genR (print_w R bv ys hR hb hly (by omega)) (fun p hp => .inl hp)) ?_
        rintro _ _ ⟨rfl, rfl⟩
        refine ow_y (y_assign rfl) rfl rfl rfl ?_
        refine ow_nil ?_
        refine cw_regseq ?_
        refine ow_y (y_move rfl) rfl rfl rfl ?_
        refine ow_y (y_move rfl) rfl rfl rfl ?_
        have hlx2 := printT_len hlx
        have hly2 := printT_len hly
        refine ow_y (y_concat rfl rfl (by omega)) rfl rfl rfl ?_
        refine ow_call rfl rfl (by rfl) ct_12 (asm_f 0 (printT xs ++ printT ys) hR.base) ?_
        rintro _ _ ⟨A, rfl, hp⟩
        rw [printT_app, AsmPost, assemble_print (by omega) (by omega) (by rw [List.length_append]; omega) hxy] at hp
        obtain ⟨sv, rfl, hown⟩ := hp
        refine ow_y (y_move rfl) rfl rfl rfl ?_
        refine ow_y (y_extract rfl rfl) rfl rfl rfl ?_
        refine ow_y (y_extract rfl rfl) rfl rfl rfl ?_
        refine ow_y (y_extract rfl rfl) rfl rfl rfl ?_
        refine ow_y (y_assign rfl) rfl rfl rfl ?_
        refine ow_y (y_assign rfl) rfl rfl rfl ?_
        refine ow_y (y_assign rfl) rfl rfl rfl ?_
        refine ow_nil ?_
        refine cw_regseq ?_
        refine ow_buildSlice (el := 36) (zs := []) (fun i => some (i * 1, 1)) rfl rfl (by repeat (first | exact EvPs.nil | apply EvPs.cons rfl)) (by repeat (first | exact FillL.nil | (apply FillL.cons rfl rfl rfl; · repeat (first | exact SetLs.nil | (apply SetLs.cons; · repeat (first | exact SetL.here | apply SetL.there)))))) (fun _ => by kernel_rfl) (fun b35 => ?_)
        refine ow_y (y_move rfl) rfl rfl rfl ?_
        have h35 : OwnS 36 1 (.slice (some ⟨b35, 0, none⟩) 0 0) [(b35, cb [] 36)] 0 [] := .row b35 0 0 [] [] (Nat.le_refl _) (Nat.zero_le _) rfl rfl
        refine ow_append_r rfl rfl rfl rfl rw_22 h35 (by repeat (first | exact Split.nil | (apply Split.cons; · repeat (first | exact Pick.here | apply Pick.there)) | exact Split.whole _ | exact Split.front _ _ rfl | exact Split.back _ _ rfl | exact Split.app_nil _ | apply Split.skip)) (u32s_r ha) (by rw [List.length_map]; omega) (fun s37 A37 h37 => ?_)
        refine ow_y (y_move rfl) rfl rfl rfl ?_
        refine ow_append_r rfl rfl rfl rfl rw_22 h37 (Split.front _ _ rfl) (u32s_r hb) (by simp only [List.length_map]; omega) (fun s39 A39 h39 => ?_)
        have h39 : OwnS 36 1 s39 A39 ((xs ++ ys).map fun (w : Nat) => (w : Int)).length (u32V ((xs ++ ys).map fun (w : Nat) => (w : Int))) := by simpa [u32V] using h39
        refine ow_y (y_assign rfl) rfl rfl rfl ?_
        refine ow_nil ?_
        refine cw_regseq ?_
        refine ow_y (y_move rfl) rfl rfl rfl ?_
        refine ow_y (y_move rfl) rfl rfl rfl ?_
        refine ow_call rfl rfl (by rfl) ct_13 (FnW.genR (same_w (R ++ (A ++ A39)) sv s39 ((xs ++ ys).map fun (w : Nat) => (w : Int)) ((xs ++ ys).map fun (w : Nat) => (w : Int)) (by rw [List.length_map, List.length_append]; omega) ((u32r_own (R := R) hown).mono (by intro p hp; simp at hp ⊢; rcases hp with h | h <;> simp [h])) ((u32r_own (R := R) h39).mono (by intro p hp; simp at hp ⊢; rcases hp with h | h <;> simp [h]))) (by intro p hp; simp at hp; rcases hp with h | h | h <;> simp [h])) ?_
        · rintro _ _ ⟨rfl, rfl⟩
          rw [decide_eq_true rfl]
          refine ow_y (y_assign rfl) rfl rfl rfl ?_
          refine ow_nil ?_
          refine cw_regseq ?_
          refine ow_y (y_move rfl) rfl rfl rfl ?_
          refine ow_y (y_move rfl) rfl rfl rfl ?_
          refine ow_y (y_move rfl) rfl rfl rfl ?_
          refine ow_cmp_t rfl rfl rfl rfl rfl (by simp only [cmpP]; try omega) ?_
          refine ow_y (y_pick_t rfl rfl) rfl rfl rfl ?_
          refine ow_y (y_move rfl) rfl rfl rfl ?_
          refine ow_y (y_move rfl) rfl rfl rfl ?_
          refine ow_y (y_pick_t rfl rfl) rfl rfl rfl ?_
          refine ow_y (y_assign rfl) rfl rfl rfl ?_
          refine ow_nil ?_
          refine cw_ret ?_
          repeat with_reducible first | refine thenQ_ret ?_ | refine thenQ_normal ?_ | refine thenQ_exit ?_ | refine blockQ_ret ?_ | refine blockQ_normal ?_ | refine blockQ_exit_same ?_ | refine blockQ_exit_ne rfl ?_
          refine body_ret (.one (.tmp rfl)) ?_
          rfl

end Go.Proofs.YtgppllppddaodaaGreatDoor

/-
  The walk of AsmLabels.
-/
namespace Go.Proofs.YtgppllppddaodaaGreatDoor
open Sl Am
open Go

/-- A word of an owned slice. -/
theorem own_get {sv : Value} {A : Heap} {ws : List Int} (h : OwnS 36 1 sv A ws.length (u32V ws)) (hne : ws ≠ []) : ∃ (b cap : Nat) (cells : List Value), sv = .slice (some ⟨b, 0, none⟩) ws.length cap ∧ A = [(b, cb cells 36)] ∧ ∀ (j : Nat) w, ws[j]? = some w → cells[0 + j * 1]? = some (.int .u32 w) := by
  obtain ⟨b, cap, cells, h1, h2, h3, h4⟩ := own_row h (List.length_pos_iff.2 hne)
  refine ⟨b, cap, cells, h1, h2, fun j w hj => ?_⟩
  have hjl : j < ws.length := by
    rcases Nat.lt_or_ge j ws.length with h' | h'
    · exact h'
    · simp [List.getElem?_eq_none h'] at hj
  rw [Nat.mul_one] at h4
  have := congrArg (fun q => q[j]?) h4
  simp only [List.getElem?_take, hjl, if_true, u32V, List.getElem?_map, hj] at this
  rw [Nat.zero_add, Nat.mul_one]; exact this
set_option maxRecDepth 100000 in
theorem run_eqSelf (a b c d imm : Int) (w : World) : (binOp .eql 33 (.agg #[.int .i64 a, .int .i64 b, .int .i64 c, .int .i64 d, .int .i64 imm]) (.agg #[.int .i64 a, .int .i64 b, .int .i64 c, .int .i64 d, .int .i64 imm])).run Tryz.prog w = .ok (.bool true) w := by
  have u33 : Tryz.prog.underlying 33 = some (.struct (Tryz.prog.fieldsOf 33)) := by kernel_rfl
  have s33 : Tryz.prog.stoodInHeld 33 = false := by kernel_rfl
  rw [run_eql_struct, run_equalIn_agg w _ _ _ _ u33 s33]
  unfold Program.fieldsOf
  rw [Tryz.underlying33]
  have p3 : ∀ w, (isAgg 3).run Tryz.prog w = .ok false w := fun w => Sl.run_isAgg_plain (by kernel_rfl)
  have e3 : ∀ (d : Nat) (x y : Int) (w : World), (Op.equalIn (d + 1) 3 (.int .i64 x) (.int .i64 y)).run Tryz.prog w = .ok (x == y) w := fun d x y w => run_equalIn_int w d 3 .i64 .i64 x y (by kernel_rfl)
  simp [Op.eqFields, part, p3, e3]

set_option maxRecDepth 100000 in
set_option maxHeartbeats 400000 in
theorem labels_w : ∀ (R : Heap) (base many at0 : Int), GlobP R → FnW Tryz.prog 6 [.int .i64 base, .int .i64 many, .int .i64 at0] R [] fun v _ => v = .bool true := by
  intro R base many at0 hR
  refine fn_of_body Tryz.func6 rfl Tryz.ntmps6 Tryz.results6 (by rfl) ?_
  refine cw_regseq ?_
  refine ow_y (y_assign rfl) rfl rfl rfl ?_
  refine ow_nil ?_
  refine cw_regseq ?_
  refine ow_call rfl rfl (by rfl) ct_10 (awake_c R _ hR) ?_
  · rintro _ _ ⟨rfl, rfl⟩
    refine ow_y (y_assign rfl) rfl rfl rfl ?_
    refine ow_nil ?_
    refine cw_seq ?_
    refine cw_regseq ?_
    refine ow_y (y_move rfl) rfl rfl rfl ?_
    refine ow_cmp rfl rfl rfl rfl rfl (fun h19 => ?_) (fun h19 => ?_)
    · simp only [cmpP] at h19
      refine ow_y (y_move rfl) rfl rfl rfl ?_
      refine ow_skip rfl rfl rfl ?_
      refine ow_skip rfl rfl rfl ?_
      refine ow_y (y_pick_t rfl rfl) rfl rfl rfl ?_
      refine ow_y (y_move rfl) rfl rfl rfl ?_
      refine ow_skip rfl rfl rfl ?_
      refine ow_skip rfl rfl rfl ?_
      refine ow_y (y_pick_t rfl rfl) rfl rfl rfl ?_
      refine ow_y (y_move rfl) rfl rfl rfl ?_
      refine ow_skip rfl rfl rfl ?_
      refine ow_skip rfl rfl rfl ?_
      refine ow_y (y_pick_t rfl rfl) rfl rfl rfl ?_
      refine ow_y (y_move rfl) rfl rfl rfl ?_
      refine ow_skip rfl rfl rfl ?_
      refine ow_skip rfl rfl rfl ?_
      refine ow_y (y_pick_t rfl rfl) rfl rfl rfl ?_
      refine ow_y (y_move rfl) rfl rfl rfl ?_
      refine ow_skip rfl rfl rfl ?_
      refine ow_skip rfl rfl rfl ?_
      refine ow_skip rfl rfl rfl ?_
      refine ow_y (y_pick_t rfl rfl) rfl rfl rfl ?_
      refine ow_nil ?_
      refine cw_if_t rfl ?_
      refine cw_regseq ?_
      refine ow_y (y_move rfl) rfl rfl rfl ?_
      refine ow_y (y_assign rfl) rfl rfl rfl ?_
      refine ow_nil ?_
      refine cw_ret ?_
      repeat with_reducible first | refine thenQ_ret ?_ | refine thenQ_normal ?_ | refine thenQ_exit ?_ | refine blockQ_ret ?_ | refine blockQ_normal ?_ | refine blockQ_exit_same ?_ | refine blockQ_exit_ne rfl ?_
      refine body_ret (.one (.tmp rfl)) ?_
      rfl
    · simp only [cmpP] at h19
      refine ow_y (y_move rfl) rfl rfl rfl ?_
      refine ow_y (y_move rfl) rfl rfl rfl ?_
      refine ow_cmp rfl rfl rfl rfl rfl (fun h22 => ?_) (fun h22 => ?_)
      · simp only [cmpP] at h22
        refine ow_y (y_pick_f rfl rfl) rfl rfl rfl ?_
        refine ow_y (y_move rfl) rfl rfl rfl ?_
        refine ow_skip rfl rfl rfl ?_
        refine ow_skip rfl rfl rfl ?_
        refine ow_y (y_pick_t rfl rfl) rfl rfl rfl ?_
        refine ow_y (y_move rfl) rfl rfl rfl ?_
        refine ow_skip rfl rfl rfl ?_
        refine ow_skip rfl rfl rfl ?_
        refine ow_y (y_pick_t rfl rfl) rfl rfl rfl ?_
        refine ow_y (y_move rfl) rfl rfl rfl ?_
        refine ow_skip rfl rfl rfl ?_
        refine ow_skip rfl rfl rfl ?_
        refine ow_y (y_pick_t rfl rfl) rfl rfl rfl ?_
        refine ow_y (y_move rfl) rfl rfl rfl ?_
        refine ow_skip rfl rfl rfl ?_
        refine ow_skip rfl rfl rfl ?_
        refine ow_skip rfl rfl rfl ?_
        refine ow_y (y_pick_t rfl rfl) rfl rfl rfl ?_
        refine ow_nil ?_
        refine cw_if_t rfl ?_
        refine cw_regseq ?_
        refine ow_y (y_move rfl) rfl rfl rfl ?_
        refine ow_y (y_assign rfl) rfl rfl rfl ?_
        refine ow_nil ?_
        refine cw_ret ?_
        repeat with_reducible first | refine thenQ_ret ?_ | refine thenQ_normal ?_ | refine thenQ_exit ?_ | refine blockQ_ret ?_ | refine blockQ_normal ?_ | refine blockQ_exit_same ?_ | refine blockQ_exit_ne rfl ?_
        refine body_ret (.one (.tmp rfl)) ?_
        rfl
      · simp only [cmpP] at h22
        refine ow_y (y_pick_f rfl rfl) rfl rfl rfl ?_
        refine ow_y (y_move rfl) rfl rfl rfl ?_
        refine ow_y (y_move rfl) rfl rfl rfl ?_
        refine ow_cmp rfl rfl rfl rfl rfl (fun h26 => ?_) (fun h26 => ?_)
        · simp only [cmpP] at h26
          refine ow_y (y_pick_f rfl rfl) rfl rfl rfl ?_
          refine ow_y (y_move rfl) rfl rfl rfl ?_
          refine ow_skip rfl rfl rfl ?_
          refine ow_skip rfl rfl rfl ?_
          refine ow_y (y_pick_t rfl rfl) rfl rfl rfl ?_
          refine ow_y (y_move rfl) rfl rfl rfl ?_
          refine ow_skip rfl rfl rfl ?_
          refine ow_skip rfl rfl rfl ?_
          refine ow_y (y_pick_t rfl rfl) rfl rfl rfl ?_
          refine ow_y (y_move rfl) rfl rfl rfl ?_
          refine ow_skip rfl rfl rfl ?_
          refine ow_skip rfl rfl rfl ?_
          refine ow_skip rfl rfl rfl ?_
          refine ow_y (y_pick_t rfl rfl) rfl rfl rfl ?_
          refine ow_nil ?_
          refine cw_if_t rfl ?_
          refine cw_regseq ?_
          refine ow_y (y_move rfl) rfl rfl rfl ?_
          refine ow_y (y_assign rfl) rfl rfl rfl ?_
          refine ow_nil ?_
          refine cw_ret ?_
          repeat with_reducible first | refine thenQ_ret ?_ | refine thenQ_normal ?_ | refine thenQ_exit ?_ | refine blockQ_ret ?_ | refine blockQ_normal ?_ | refine blockQ_exit_same ?_ | refine blockQ_exit_ne rfl ?_
          refine body_ret (.one (.tmp rfl)) ?_
          rfl
        · simp only [cmpP] at h26
          refine ow_y (y_pick_f rfl rfl) rfl rfl rfl ?_
          refine ow_y (y_move rfl) rfl rfl rfl ?_
          refine ow_y (y_move rfl) rfl rfl rfl ?_
          refine ow_cmp rfl rfl rfl rfl rfl (fun h30 => ?_) (fun h30 => ?_)
          · simp only [cmpP] at h30
            refine ow_y (y_pick_f rfl rfl) rfl rfl rfl ?_
            refine ow_y (y_move rfl) rfl rfl rfl ?_
            refine ow_skip rfl rfl rfl ?_
            refine ow_skip rfl rfl rfl ?_
            refine ow_y (y_pick_t rfl rfl) rfl rfl rfl ?_
            refine ow_y (y_move rfl) rfl rfl rfl ?_
            refine ow_skip rfl rfl rfl ?_
            refine ow_skip rfl rfl rfl ?_
            refine ow_skip rfl rfl rfl ?_
            refine ow_y (y_pick_t rfl rfl) rfl rfl rfl ?_
            refine ow_nil ?_
            refine cw_if_t rfl ?_
            refine cw_regseq ?_
            refine ow_y (y_move rfl) rfl rfl rfl ?_
            refine ow_y (y_assign rfl) rfl rfl rfl ?_
            refine ow_nil ?_
            refine cw_ret ?_
            repeat with_reducible first | refine thenQ_ret ?_ | refine thenQ_normal ?_ | refine thenQ_exit ?_ | refine blockQ_ret ?_ | refine blockQ_normal ?_ | refine blockQ_exit_same ?_ | refine blockQ_exit_ne rfl ?_
            refine body_ret (.one (.tmp rfl)) ?_
            rfl
          · simp only [cmpP] at h30
            refine ow_y (y_pick_f rfl rfl) rfl rfl rfl ?_
            refine ow_y (y_move rfl) rfl rfl rfl ?_
            refine ow_y (y_move rfl) rfl rfl rfl ?_
            refine ow_cmp rfl rfl rfl rfl rfl (fun h34 => ?_) (fun h34 => ?_)
            · simp only [cmpP] at h34
              refine ow_y (y_pick_f rfl rfl) rfl rfl rfl ?_
              refine ow_y (y_move rfl) rfl rfl rfl ?_
              refine ow_skip rfl rfl rfl ?_
              refine ow_skip rfl rfl rfl ?_
              refine ow_skip rfl rfl rfl ?_
              refine ow_y (y_pick_t rfl rfl) rfl rfl rfl ?_
              refine ow_nil ?_
              refine cw_if_t rfl ?_
              refine cw_regseq ?_
              refine ow_y (y_move rfl) rfl rfl rfl ?_
              refine ow_y (y_assign rfl) rfl rfl rfl ?_
              refine ow_nil ?_
              refine cw_ret ?_
              repeat with_reducible first | refine thenQ_ret ?_ | refine thenQ_normal ?_ | refine thenQ_exit ?_ | refine blockQ_ret ?_ | refine blockQ_normal ?_ | refine blockQ_exit_same ?_ | refine blockQ_exit_ne rfl ?_
              refine body_ret (.one (.tmp rfl)) ?_
              rfl
            · simp only [cmpP] at h34
              refine ow_y (y_pick_f rfl rfl) rfl rfl rfl ?_
              refine ow_y (y_move rfl) rfl rfl rfl ?_
              refine ow_y (y_move rfl) rfl rfl rfl ?_
              refine ow_y (y_move rfl) rfl rfl rfl ?_
              refine ow_cmp rfl rfl rfl rfl rfl (fun h39 => ?_) (fun h39 => ?_)
              · simp only [cmpP] at h39
                refine ow_y (y_pick_f rfl rfl) rfl rfl rfl ?_
                refine ow_nil ?_
                refine cw_if_t rfl ?_
                refine cw_regseq ?_
                refine ow_y (y_move rfl) rfl rfl rfl ?_
                refine ow_y (y_assign rfl) rfl rfl rfl ?_
                refine ow_nil ?_
                refine cw_ret ?_
                repeat with_reducible first | refine thenQ_ret ?_ | refine thenQ_normal ?_ | refine thenQ_exit ?_ | refine blockQ_ret ?_ | refine blockQ_normal ?_ | refine blockQ_exit_same ?_ | refine blockQ_exit_ne rfl ?_
                refine body_ret (.one (.tmp rfl)) ?_
                rfl
              · simp only [cmpP] at h39
                refine ow_y (y_pick_f rfl rfl) rfl rfl rfl ?_
                refine ow_nil ?_
                refine cw_if_f rfl ?_
                refine cw_skip ?_
                repeat with_reducible first | refine thenQ_ret ?_ | refine thenQ_normal ?_ | refine thenQ_exit ?_ | refine blockQ_ret ?_ | refine blockQ_normal ?_ | refine blockQ_exit_same ?_ | refine blockQ_exit_ne rfl ?_
                refine cw_regseq ?_
                refine ow_y (y_assign rfl) rfl rfl rfl ?_
                refine ow_nil ?_
                refine cw_seq ?_
                refine cw_regseq ?_
                refine ow_y (y_assign rfl) rfl rfl rfl ?_
                refine ow_nil ?_
                refine cw_block ?_
                have hN : ∀ z : Int, 0 ≤ z → ∃ n : Nat, z = n := fun z h => ⟨z.toNat, by omega⟩
                obtain ⟨m, rfl⟩ := hN many (by omega)
                obtain ⟨a, rfl⟩ := hN at0 (by omega)
                refine cw_loop (α := Nat × List UInt8) (fun x => [(0, .int .i64 base), (1, .int .i64 (m : Int)), (2, .int .i64 (a : Int)), (7, .bool true), (8, str x.2), (9, .int .i64 (x.1 : Int))]) (fun x => []) (fun x => x.1 ≤ m ∧ x.2 = cat (labF a) x.1) (fun x => m - x.1) (0, []) ?_ (by repeat (first | exact EnvLe.nil _ | refine EnvLe.cons rfl ?_)) (by repeat (first | exact Split.nil | (apply Split.cons; · repeat (first | exact Pick.here | apply Pick.there)) | exact Split.whole _ | exact Split.front _ _ rfl | exact Split.back _ _ rfl | exact Split.app_nil _ | apply Split.skip)) ?_
                · exact ⟨Nat.zero_le _, rfl⟩
                · rintro ⟨k, out⟩ ⟨hk, hout⟩
                  simp only at hk hout
                  have hol : out.length ≤ 10 * k := by rw [hout]; exact labF_len a k
                  refine cw_seq ?_
                  refine cw_regseq ?_
                  refine ow_y (y_move rfl) rfl rfl rfl ?_
                  refine ow_y (y_move rfl) rfl rfl rfl ?_
                  refine ow_cmp rfl rfl rfl rfl rfl (fun h44 => ?_) (fun h44 => ?_)
                  · simp only [cmpP] at h44
                    refine ow_nil ?_
                    refine cw_if_t rfl ?_
                    refine cw_skip ?_
                    repeat with_reducible first | refine thenQ_ret ?_ | refine thenQ_normal ?_ | refine thenQ_exit ?_ | refine blockQ_ret ?_ | refine blockQ_normal ?_ | refine blockQ_exit_same ?_ | refine blockQ_exit_ne rfl ?_
                    refine cw_seq ?_
                    refine cw_block ?_
                    refine cw_seq ?_
                    refine cw_regseq ?_
                    refine ow_y (y_move rfl) rfl rfl rfl ?_
                    refine ow_y (y_move rfl) rfl rfl rfl ?_
                    refine ow_cmp rfl rfl rfl rfl rfl (fun h49 => ?_) (fun h49 => ?_)
                    · simp only [cmpP] at h49
                      refine ow_nil ?_
                      refine cw_if_t rfl ?_
                      refine cw_region ?_
                      refine ow_y (y_move rfl) rfl rfl rfl ?_
                      refine ow_y (y_concat rfl rfl (by first | omega | (simp; omega) | (simp only [List.length_append, List.length_cons, List.length_nil]; omega))) rfl rfl rfl ?_
                      refine ow_y (y_assign rfl) rfl rfl rfl ?_
                      refine ow_nil ?_
                      repeat with_reducible first | refine thenQ_ret ?_ | refine thenQ_normal ?_ | refine thenQ_exit ?_ | refine blockQ_ret ?_ | refine blockQ_normal ?_ | refine blockQ_exit_same ?_ | refine blockQ_exit_ne rfl ?_
                      refine cw_region ?_
                      refine ow_y (y_move rfl) rfl rfl rfl ?_
                      refine ow_y (y_concat rfl rfl (by first | omega | (simp; omega) | (simp only [List.length_append, List.length_cons, List.length_nil]; omega))) rfl rfl rfl ?_
                      refine ow_y (y_assign rfl) rfl rfl rfl ?_
                      refine ow_nil ?_
                      repeat with_reducible first | refine thenQ_ret ?_ | refine thenQ_normal ?_ | refine thenQ_exit ?_ | refine blockQ_ret ?_ | refine blockQ_normal ?_ | refine blockQ_exit_same ?_ | refine blockQ_exit_ne rfl ?_
                      refine cw_region ?_
                      refine ow_y (y_move rfl) rfl rfl rfl ?_
                      refine ow_y (y_add64 rfl rfl (by omega)) rfl rfl rfl ?_
                      refine ow_y (y_assign rfl) rfl rfl rfl ?_
                      refine ow_nil ?_
                      repeat with_reducible first | refine thenQ_ret ?_ | refine thenQ_normal ?_ | refine thenQ_exit ?_ | refine blockQ_ret ?_ | refine blockQ_normal ?_ | refine blockQ_exit_same ?_ | refine blockQ_exit_ne rfl ?_
                      refine ⟨(k + 1, out ++ [104, 101, 114, 101, 58, 10] ++ [110, 111, 112, 10]), _, ?_, ?_, (by repeat (first | exact EnvLe.nil _ | refine EnvLe.cons rfl ?_)), (by repeat (first | exact Split.nil | (apply Split.cons; · repeat (first | exact Pick.here | apply Pick.there)) | exact Split.whole _ | exact Split.front _ _ rfl | exact Split.back _ _ rfl | exact Split.app_nil _ | apply Split.skip))⟩
                      · refine ⟨by omega, ?_⟩
                        have hka : k = a := by omega
                        subst hka
                        rw [cat, hout]; simp [labF, hereL, nopL]
                      · simp only; omega
                    · simp only [cmpP] at h49
                      refine ow_nil ?_
                      refine cw_if_f rfl ?_
                      refine cw_skip ?_
                      repeat with_reducible first | refine thenQ_ret ?_ | refine thenQ_normal ?_ | refine thenQ_exit ?_ | refine blockQ_ret ?_ | refine blockQ_normal ?_ | refine blockQ_exit_same ?_ | refine blockQ_exit_ne rfl ?_
                      refine cw_region ?_
                      refine ow_y (y_move rfl) rfl rfl rfl ?_
                      refine ow_y (y_concat rfl rfl (by first | omega | (simp; omega) | (simp only [List.length_append, List.length_cons, List.length_nil]; omega))) rfl rfl rfl ?_
                      refine ow_y (y_assign rfl) rfl rfl rfl ?_
                      refine ow_nil ?_
                      repeat with_reducible first | refine thenQ_ret ?_ | refine thenQ_normal ?_ | refine thenQ_exit ?_ | refine blockQ_ret ?_ | refine blockQ_normal ?_ | refine blockQ_exit_same ?_ | refine blockQ_exit_ne rfl ?_
                      refine cw_region ?_
                      refine ow_y (y_move rfl) rfl rfl rfl ?_
                      refine ow_y (y_add64 rfl rfl (by omega)) rfl rfl rfl ?_
                      refine ow_y (y_assign rfl) rfl rfl rfl ?_
                      refine ow_nil ?_
                      repeat with_reducible first | refine thenQ_ret ?_ | refine thenQ_normal ?_ | refine thenQ_exit ?_ | refine blockQ_ret ?_ | refine blockQ_normal ?_ | refine blockQ_exit_same ?_ | refine blockQ_exit_ne rfl ?_
                      refine ⟨(k + 1, out ++ [110, 111, 112, 10]), _, ?_, ?_, (by repeat (first | exact EnvLe.nil _ | refine EnvLe.cons rfl ?_)), (by repeat (first | exact Split.nil | (apply Split.cons; · repeat (first | exact Pick.here | apply Pick.there)) | exact Split.whole _ | exact Split.front _ _ rfl | exact Split.back _ _ rfl | exact Split.app_nil _ | apply Split.skip))⟩
                      · refine ⟨by omega, ?_⟩
                        have hka : ¬ k = a := by omega
                        rw [cat, hout]; simp [labF, hka, nopL]
                      · simp only; omega
                  · simp only [cmpP] at h44
                    refine ow_nil ?_
                    refine cw_if_f rfl ?_
                    refine cw_exit ?_
                    repeat with_reducible first | refine thenQ_ret ?_ | refine thenQ_normal ?_ | refine thenQ_exit ?_ | refine blockQ_ret ?_ | refine blockQ_normal ?_ | refine blockQ_exit_same ?_ | refine blockQ_exit_ne rfl ?_
                    refine cw_seq_cut (α := List UInt8) (fun x => [(0, .int .i64 base), (1, .int .i64 (m : Int)), (2, .int .i64 (a : Int)), (7, .bool true), (8, str x)]) (fun x => []) (fun x => x ++ [106, 109, 112, 32, 104, 101, 114, 101, 10, 106, 97, 108, 32, 114, 51, 44, 32, 104, 101, 114, 101] = labSrc m a) ?_ ?_
                    · refine cw_regseq ?_
                      refine ow_y (y_move rfl) rfl rfl rfl ?_
                      refine ow_y (y_move rfl) rfl rfl rfl ?_
                      refine ow_cmp rfl rfl rfl rfl rfl (fun h56 => ?_) (fun h56 => ?_)
                      · simp only [cmpP] at h56
                        refine ow_nil ?_
                        refine cw_if_t rfl ?_
                        refine cw_region ?_
                        refine ow_y (y_move rfl) rfl rfl rfl ?_
                        refine ow_y (y_concat rfl rfl (by first | omega | (simp; omega) | (simp only [List.length_append, List.length_cons, List.length_nil]; omega))) rfl rfl rfl ?_
                        refine ow_y (y_assign rfl) rfl rfl rfl ?_
                        refine ow_nil ?_
                        repeat with_reducible first | refine thenQ_ret ?_ | refine thenQ_normal ?_ | refine thenQ_exit ?_ | refine blockQ_ret ?_ | refine blockQ_normal ?_ | refine blockQ_exit_same ?_ | refine blockQ_exit_ne rfl ?_
                        refine ⟨(out ++ [104, 101, 114, 101, 58, 32]), _, ?_, (by repeat (first | exact EnvLe.nil _ | refine EnvLe.cons rfl ?_)), (by repeat (first | exact Split.nil | (apply Split.cons; · repeat (first | exact Pick.here | apply Pick.there)) | exact Split.whole _ | exact Split.front _ _ rfl | exact Split.back _ _ rfl | exact Split.app_nil _ | apply Split.skip))⟩
                        have hkm : k = m := by omega
                        have ham : a = m := by omega
                        simp only [labSrc]
                        rw [if_pos ham, hout, hkm]; rfl
                      · simp only [cmpP] at h56
                        refine ow_nil ?_
                        refine cw_if_f rfl ?_
                        refine cw_skip ?_
                        repeat with_reducible first | refine thenQ_ret ?_ | refine thenQ_normal ?_ | refine thenQ_exit ?_ | refine blockQ_ret ?_ | refine blockQ_normal ?_ | refine blockQ_exit_same ?_ | refine blockQ_exit_ne rfl ?_
                        refine ⟨out, _, ?_, (by repeat (first | exact EnvLe.nil _ | refine EnvLe.cons rfl ?_)), (by repeat (first | exact Split.nil | (apply Split.cons; · repeat (first | exact Pick.here | apply Pick.there)) | exact Split.whole _ | exact Split.front _ _ rfl | exact Split.back _ _ rfl | exact Split.app_nil _ | apply Split.skip))⟩
                        have hkm : k = m := by omega
                        have ham : ¬ a = m := by omega
                        simp only [labSrc]
                        rw [if_neg ham, hout, hkm, List.append_nil]; rfl
                    · intro src hsrc
                      have hsl : src.length ≤ 2000 := by
                        have hl := labF_len a m
                        have h2 := congrArg List.length hsrc
                        simp only [labSrc, List.length_append] at h2
                        split at h2 <;> simp [jmpL, jalL] at h2 <;> omega
                      refine cw_regseq ?_
                      refine ow_y (y_move rfl) rfl rfl rfl ?_
                      refine ow_y (y_move rfl) rfl rfl rfl ?_
                      refine ow_y (y_concat rfl rfl (by first | omega | (simp; omega) | (simp only [List.length_append, List.length_cons, List.length_nil]; omega))) rfl rfl rfl ?_
                      refine ow_call rfl rfl (by rfl) ct_12 (asm_f base (src ++ [106, 109, 112, 32, 104, 101, 114, 101, 10, 106, 97, 108, 32, 114, 51, 44, 32, 104, 101, 114, 101]) hR.base) ?_
                      rintro _ _ ⟨A, rfl, hp⟩
                      rw [AsmPost, hsrc, assemble_labels (by omega) (by omega) (by omega) (by omega)] at hp
                      generalize hws : List.replicate m nopW ++ [jmpW (base + 4 * (a : Int)), jalW (base + 4 * (a : Int))] = ws at hp
                      dsimp only at hp
                      have hwl : ws.length = m + 2 := by rw [← hws]; simp
                      obtain ⟨sv, rfl, hown⟩ := hp
                      obtain ⟨b1, cap1, cells1, rfl, rfl, hget⟩ := own_get hown (by intro h; rw [h] at hwl; simp at hwl)
                      have hg0 := hget m _ (by rw [← hws]; simp; rfl)
                      have hg1 := hget (m + 1) _ (by rw [← hws]; simp; rfl)
                      refine ow_y (y_move rfl) rfl rfl rfl ?_
                      refine ow_y (y_extract rfl rfl) rfl rfl rfl ?_
                      refine ow_y (y_extract rfl rfl) rfl rfl rfl ?_
                      refine ow_y (y_extract rfl rfl) rfl rfl rfl ?_
                      refine ow_y (y_assign rfl) rfl rfl rfl ?_
                      refine ow_y (y_assign rfl) rfl rfl rfl ?_
                      refine ow_y (y_assign rfl) rfl rfl rfl ?_
                      refine ow_nil ?_
                      refine cw_seq ?_
                      refine cw_regseq ?_
                      refine ow_y (y_move rfl) rfl rfl rfl ?_
                      refine ow_cmp_f rfl rfl rfl rfl rfl (by simp only [cmpP]; try omega) ?_
                      refine ow_y (y_move rfl) rfl rfl rfl ?_
                      refine ow_y (y_move rfl) rfl rfl rfl ?_
                      refine ow_cmp_f rfl rfl rfl rfl rfl (by simp only [cmpP]; try omega) ?_
                      refine ow_y (y_pick_f rfl rfl) rfl rfl rfl ?_
                      refine ow_y (y_move rfl) rfl rfl rfl ?_
                      refine ow_y (y_move rfl) rfl rfl rfl ?_
                      refine ow_y (y_lenSl rfl el_22) rfl rfl rfl ?_
                      refine ow_y (y_move rfl) rfl rfl rfl ?_
                      refine ow_y (y_add64 rfl rfl (by omega)) rfl rfl rfl ?_
                      refine ow_cmp_f rfl rfl rfl rfl rfl (by simp only [cmpP]; try omega) ?_
                      refine ow_y (y_pick_f rfl rfl) rfl rfl rfl ?_
                      refine ow_nil ?_
                      refine cw_if_f rfl ?_
                      refine cw_skip ?_
                      repeat with_reducible first | refine thenQ_ret ?_ | refine thenQ_normal ?_ | refine thenQ_exit ?_ | refine blockQ_ret ?_ | refine blockQ_normal ?_ | refine blockQ_exit_same ?_ | refine blockQ_exit_ne rfl ?_
                      refine cw_regseq ?_
                      refine ow_y (y_move rfl) rfl rfl rfl ?_
                      refine ow_y (y_move rfl) rfl rfl rfl ?_
                      refine ow_y (y_indexAddr (i := m) rfl rfl el_22 sz_36 (by omega)) rfl rfl rfl ?_
                      refine ow_y (y_load rfl pt_36 (by first | (apply In.own; (repeat (first | exact List.Mem.head _ | apply List.Mem.tail)); done) | (apply In.ro; (repeat (first | exact List.Mem.head _ | apply List.Mem.tail)); done)) hg0) rfl rfl rfl ?_
                      refine ow_call rfl rfl (by rfl) ct_14 (Decode_c R _ hR.base (jmpW (base + 4 * (a : Int))) (by simp only [jmpW]; omega) (by simp only [jmpW]; omega)) ?_
                      rintro _ _ ⟨rfl, rfl⟩
                      rw [decode_jmp (by omega) (by omega)]
                      simp only [encI]
                      refine ow_y (y_move rfl) rfl rfl rfl ?_
                      refine ow_y (y_extract rfl rfl) rfl rfl rfl ?_
                      refine ow_y (y_extract rfl rfl) rfl rfl rfl ?_
                      refine ow_alloc rfl rfl zt_33 rfl (fun b13 => ?_)
                      refine ow_storeAgg rfl rfl rfl sz_33 rfl rfl (by repeat (first | exact Upd.here | apply Upd.there)) (by repeat (first | exact SetLs.nil | (apply SetLs.cons; · repeat (first | exact SetL.here | apply SetL.there)))) ?_
                      refine ow_y (y_assign rfl) rfl rfl rfl ?_
                      refine ow_nil ?_
                      refine cw_regseq ?_
                      refine ow_y (y_move rfl) rfl rfl rfl ?_
                      refine ow_y (y_move rfl) rfl rfl rfl ?_
                      refine ow_y (y_add64 rfl rfl (by omega)) rfl rfl rfl ?_
                      refine ow_y (y_indexAddr (i := m + 1) rfl rfl el_22 sz_36 (by omega)) rfl rfl rfl ?_
                      refine ow_y (y_load rfl pt_36 (by first | (apply In.own; (repeat (first | exact List.Mem.head _ | apply List.Mem.tail)); done) | (apply In.ro; (repeat (first | exact List.Mem.head _ | apply List.Mem.tail)); done)) hg1) rfl rfl rfl ?_
                      refine ow_call rfl rfl (by rfl) ct_14 (Decode_c R _ hR.base (jalW (base + 4 * (a : Int))) (by simp only [jalW]; omega) (by simp only [jalW]; omega)) ?_
                      rintro _ _ ⟨rfl, rfl⟩
                      rw [decode_jal (by omega) (by omega)]
                      simp only [encI]
                      refine ow_y (y_move rfl) rfl rfl rfl ?_
                      refine ow_y (y_extract rfl rfl) rfl rfl rfl ?_
                      refine ow_y (y_extract rfl rfl) rfl rfl rfl ?_
                      refine ow_alloc rfl rfl zt_33 rfl (fun b15 => ?_)
                      refine ow_storeAgg rfl rfl rfl sz_33 rfl rfl (by repeat (first | exact Upd.here | apply Upd.there)) (by repeat (first | exact SetLs.nil | (apply SetLs.cons; · repeat (first | exact SetL.here | apply SetL.there)))) ?_
                      refine ow_y (y_assign rfl) rfl rfl rfl ?_
                      refine ow_nil ?_
                      refine cw_regseq ?_
                      refine ow_y (y_move rfl) rfl rfl rfl ?_
                      refine ow_y (y_move rfl) rfl rfl rfl ?_
                      refine ow_y (y_move rfl) rfl rfl rfl ?_
                      refine ow_cmp_t rfl rfl rfl rfl rfl (by simp only [cmpP]; try omega) ?_
                      refine ow_y (y_pick_t rfl rfl) rfl rfl rfl ?_
                      refine ow_y (y_move rfl) rfl rfl rfl ?_
                      refine ow_y (y_move rfl) rfl rfl rfl ?_
                      refine ow_cmp_t rfl rfl rfl rfl rfl (by simp only [cmpP]; try omega) ?_
                      refine ow_y (y_pick_t rfl rfl) rfl rfl rfl ?_
                      refine ow_y (y_move rfl) rfl rfl rfl ?_
                      refine ow_y (y_loadAgg rfl at_33 sz_33 (by first | (apply In.own; (repeat (first | exact List.Mem.head _ | apply List.Mem.tail)); done) | (apply In.ro; (repeat (first | exact List.Mem.head _ | apply List.Mem.tail)); done)) (by repeat (first | exact Sub.nil | apply Sub.take | apply Sub.skip))) rfl rfl rfl ?_
                      refine ow_y (y_move rfl) rfl rfl rfl ?_
                      refine ow_y (y_move rfl) rfl rfl rfl ?_
                      refine ow_y (y_mul64 rfl rfl (by omega)) rfl rfl rfl ?_
                      refine ow_y (y_add64 rfl rfl (by omega)) rfl rfl rfl ?_
                      refine ow_y (y_build (zs := [.int .i64 0, .int .i64 0, .int .i64 0, .int .i64 0, .int .i64 0]) (fun i => [(0, 1), (1, 1), (2, 1), (3, 1), (4, 1)][i]?) (by repeat (first | exact EvPs.nil | apply EvPs.cons rfl)) (by repeat (first | exact FillL.nil | (apply FillL.cons rfl rfl rfl; · repeat (first | exact SetLs.nil | (apply SetLs.cons; · repeat (first | exact SetL.here | apply SetL.there)))))) (fun _ => by kernel_rfl)) rfl rfl rfl ?_
                      refine ow_y (y_bin (v := .bool true) rfl rfl (fun w => run_eqGuard_agg w _ _ _ _ _ _ (by kernel_rfl)) (fun w => run_eqSelf _ _ _ _ _ w)) rfl rfl rfl ?_
                      refine ow_y (y_pick_t rfl rfl) rfl rfl rfl ?_
                      refine ow_y (y_move rfl) rfl rfl rfl ?_
                      refine ow_y (y_loadAgg rfl at_33 sz_33 (by first | (apply In.own; (repeat (first | exact List.Mem.head _ | apply List.Mem.tail)); done) | (apply In.ro; (repeat (first | exact List.Mem.head _ | apply List.Mem.tail)); done)) (by repeat (first | exact Sub.nil | apply Sub.take | apply Sub.skip))) rfl rfl rfl ?_
                      refine ow_y (y_move rfl) rfl rfl rfl ?_
                      refine ow_y (y_move rfl) rfl rfl rfl ?_
                      refine ow_y (y_mul64 rfl rfl (by omega)) rfl rfl rfl ?_
                      refine ow_y (y_add64 rfl rfl (by omega)) rfl rfl rfl ?_
                      refine ow_y (y_build (zs := [.int .i64 0, .int .i64 0, .int .i64 0, .int .i64 0, .int .i64 0]) (fun i => [(0, 1), (1, 1), (2, 1), (3, 1), (4, 1)][i]?) (by repeat (first | exact EvPs.nil | apply EvPs.cons rfl)) (by repeat (first | exact FillL.nil | (apply FillL.cons rfl rfl rfl; · repeat (first | exact SetLs.nil | (apply SetLs.cons; · repeat (first | exact SetL.here | apply SetL.there)))))) (fun _ => by kernel_rfl)) rfl rfl rfl ?_
                      refine ow_y (y_bin (v := .bool true) rfl rfl (fun w => run_eqGuard_agg w _ _ _ _ _ _ (by kernel_rfl)) (fun w => run_eqSelf _ _ _ _ _ w)) rfl rfl rfl ?_
                      refine ow_y (y_pick_t rfl rfl) rfl rfl rfl ?_
                      refine ow_y (y_assign rfl) rfl rfl rfl ?_
                      refine ow_nil ?_
                      refine cw_ret ?_
                      repeat with_reducible first | refine thenQ_ret ?_ | refine thenQ_normal ?_ | refine thenQ_exit ?_ | refine blockQ_ret ?_ | refine blockQ_normal ?_ | refine blockQ_exit_same ?_ | refine blockQ_exit_ne rfl ?_
                      refine body_ret (.one (.tmp rfl)) ?_
                      rfl

end Go.Proofs.YtgppllppddaodaaGreatDoor

/-
  The walk of AsmBase.
-/
namespace Go.Proofs.YtgppllppddaodaaGreatDoor
open Sl Am
open Go

theorem y_cmp_t {P : Program} {N : Nat} {R L : Heap} {e : Env} {d : Nat} {ty : TypeId} {pos : String} {af : Array Edge} {g : Option (Nat × Bool)} {x y : Operand} {op : BinOp} {t t' : TypeId} {k' : IntKind} {m n : Int} (hc : isCmp op = true) (hx : ev e x = some (.int k' m)) (hy : ev e y = some (.int k' n)) (h : cmpP op m n) : Yld P N R ⟨some d, .binOp op t x y t', ty, pos, af, g⟩ e L (.bool true) := by
  have := y_cmpB (P := P) (N := N) (R := R) (L := L) (d := d) (ty := ty) (pos := pos) (af := af) (g := g) (t := t) (t' := t') hc hx hy
  rwa [decide_eq_true h] at this
theorem y_cmp_f {P : Program} {N : Nat} {R L : Heap} {e : Env} {d : Nat} {ty : TypeId} {pos : String} {af : Array Edge} {g : Option (Nat × Bool)} {x y : Operand} {op : BinOp} {t t' : TypeId} {k' : IntKind} {m n : Int} (hc : isCmp op = true) (hx : ev e x = some (.int k' m)) (hy : ev e y = some (.int k' n)) (h : ¬ cmpP op m n) : Yld P N R ⟨some d, .binOp op t x y t', ty, pos, af, g⟩ e L (.bool false) := by
  have := y_cmpB (P := P) (N := N) (R := R) (L := L) (d := d) (ty := ty) (pos := pos) (af := af) (g := g) (t := t) (t' := t') hc hx hy
  rwa [decide_eq_false h] at this
theorem baseWords_len (base : Int) : ∀ n, (baseWords base n).length = 2 * n
  | 0 => rfl
  | n + 1 => by rw [baseWords, List.length_append, baseWords_len base n]; simp; omega
theorem baseWords_get (base : Int) : ∀ n i, i < n → (baseWords base n)[2 * i]? = some nopW ∧ (baseWords base n)[2 * i + 1]? = some (jmpW base)
  | 0, i, h => by omega
  | n + 1, i, h => by
    have hl := baseWords_len base n
    by_cases hi : i < n
    · obtain ⟨h1, h2⟩ := baseWords_get base n i hi
      rw [baseWords]
      exact ⟨by rw [List.getElem?_append_left (by omega)]; exact h1, by rw [List.getElem?_append_left (by omega)]; exact h2⟩
    · have : i = n := by omega
      subst this
      rw [baseWords]
      refine ⟨by rw [List.getElem?_append_right (by omega), hl]; simp, ?_⟩
      rw [List.getElem?_append_right (by omega), hl, show 2 * i + 1 - 2 * i = 1 by omega]; rfl

set_option maxRecDepth 100000 in
set_option maxHeartbeats 400000 in
theorem base_w : ∀ (R : Heap) (many base other : Int), GlobP R → FnW Tryz.prog 7 [.int .i64 many, .int .i64 base, .int .i64 other] R [] fun v _ => v = .bool true := by
  intro R many base other hR
  refine fn_of_body Tryz.func7 rfl Tryz.ntmps7 Tryz.results7 (by rfl) ?_
  refine cw_regseq ?_
  refine ow_y (y_assign rfl) rfl rfl rfl ?_
  refine ow_nil ?_
  refine cw_regseq ?_
  refine ow_call rfl rfl (by rfl) ct_10 (awake_c R _ hR) ?_
  · rintro _ _ ⟨rfl, rfl⟩
    refine ow_y (y_assign rfl) rfl rfl rfl ?_
    refine ow_nil ?_
    refine cw_seq ?_
    refine cw_regseq ?_
    refine ow_y (y_move rfl) rfl rfl rfl ?_
    refine ow_cmp rfl rfl rfl rfl rfl (fun h23 => ?_) (fun h23 => ?_)
    · simp only [cmpP] at h23
      refine ow_y (y_move rfl) rfl rfl rfl ?_
      refine ow_skip rfl rfl rfl ?_
      refine ow_skip rfl rfl rfl ?_
      refine ow_y (y_pick_t rfl rfl) rfl rfl rfl ?_
      refine ow_y (y_move rfl) rfl rfl rfl ?_
      refine ow_skip rfl rfl rfl ?_
      refine ow_skip rfl rfl rfl ?_
      refine ow_y (y_pick_t rfl rfl) rfl rfl rfl ?_
      refine ow_y (y_move rfl) rfl rfl rfl ?_
      refine ow_skip rfl rfl rfl ?_
      refine ow_skip rfl rfl rfl ?_
      refine ow_y (y_pick_t rfl rfl) rfl rfl rfl ?_
      refine ow_y (y_move rfl) rfl rfl rfl ?_
      refine ow_skip rfl rfl rfl ?_
      refine ow_skip rfl rfl rfl ?_
      refine ow_y (y_pick_t rfl rfl) rfl rfl rfl ?_
      refine ow_y (y_move rfl) rfl rfl rfl ?_
      refine ow_skip rfl rfl rfl ?_
      refine ow_skip rfl rfl rfl ?_
      refine ow_y (y_pick_t rfl rfl) rfl rfl rfl ?_
      refine ow_nil ?_
      refine cw_if_t rfl ?_
      refine cw_regseq ?_
      refine ow_y (y_move rfl) rfl rfl rfl ?_
      refine ow_y (y_assign rfl) rfl rfl rfl ?_
      refine ow_nil ?_
      refine cw_ret ?_
      repeat with_reducible first | refine thenQ_ret ?_ | refine thenQ_normal ?_ | refine thenQ_exit ?_ | refine blockQ_ret ?_ | refine blockQ_normal ?_ | refine blockQ_exit_same ?_ | refine blockQ_exit_ne rfl ?_
      refine body_ret (.one (.tmp rfl)) ?_
      rfl
    · simp only [cmpP] at h23
      refine ow_y (y_move rfl) rfl rfl rfl ?_
      refine ow_y (y_move rfl) rfl rfl rfl ?_
      refine ow_cmp rfl rfl rfl rfl rfl (fun h26 => ?_) (fun h26 => ?_)
      · simp only [cmpP] at h26
        refine ow_y (y_pick_f rfl rfl) rfl rfl rfl ?_
        refine ow_y (y_move rfl) rfl rfl rfl ?_
        refine ow_skip rfl rfl rfl ?_
        refine ow_skip rfl rfl rfl ?_
        refine ow_y (y_pick_t rfl rfl) rfl rfl rfl ?_
        refine ow_y (y_move rfl) rfl rfl rfl ?_
        refine ow_skip rfl rfl rfl ?_
        refine ow_skip rfl rfl rfl ?_
        refine ow_y (y_pick_t rfl rfl) rfl rfl rfl ?_
        refine ow_y (y_move rfl) rfl rfl rfl ?_
        refine ow_skip rfl rfl rfl ?_
        refine ow_skip rfl rfl rfl ?_
        refine ow_y (y_pick_t rfl rfl) rfl rfl rfl ?_
        refine ow_y (y_move rfl) rfl rfl rfl ?_
        refine ow_skip rfl rfl rfl ?_
        refine ow_skip rfl rfl rfl ?_
        refine ow_y (y_pick_t rfl rfl) rfl rfl rfl ?_
        refine ow_nil ?_
        refine cw_if_t rfl ?_
        refine cw_regseq ?_
        refine ow_y (y_move rfl) rfl rfl rfl ?_
        refine ow_y (y_assign rfl) rfl rfl rfl ?_
        refine ow_nil ?_
        refine cw_ret ?_
        repeat with_reducible first | refine thenQ_ret ?_ | refine thenQ_normal ?_ | refine thenQ_exit ?_ | refine blockQ_ret ?_ | refine blockQ_normal ?_ | refine blockQ_exit_same ?_ | refine blockQ_exit_ne rfl ?_
        refine body_ret (.one (.tmp rfl)) ?_
        rfl
      · simp only [cmpP] at h26
        refine ow_y (y_pick_f rfl rfl) rfl rfl rfl ?_
        refine ow_y (y_move rfl) rfl rfl rfl ?_
        refine ow_y (y_move rfl) rfl rfl rfl ?_
        refine ow_cmp rfl rfl rfl rfl rfl (fun h30 => ?_) (fun h30 => ?_)
        · simp only [cmpP] at h30
          refine ow_y (y_pick_f rfl rfl) rfl rfl rfl ?_
          refine ow_y (y_move rfl) rfl rfl rfl ?_
          refine ow_skip rfl rfl rfl ?_
          refine ow_skip rfl rfl rfl ?_
          refine ow_y (y_pick_t rfl rfl) rfl rfl rfl ?_
          refine ow_y (y_move rfl) rfl rfl rfl ?_
          refine ow_skip rfl rfl rfl ?_
          refine ow_skip rfl rfl rfl ?_
          refine ow_y (y_pick_t rfl rfl) rfl rfl rfl ?_
          refine ow_y (y_move rfl) rfl rfl rfl ?_
          refine ow_skip rfl rfl rfl ?_
          refine ow_skip rfl rfl rfl ?_
          refine ow_y (y_pick_t rfl rfl) rfl rfl rfl ?_
          refine ow_nil ?_
          refine cw_if_t rfl ?_
          refine cw_regseq ?_
          refine ow_y (y_move rfl) rfl rfl rfl ?_
          refine ow_y (y_assign rfl) rfl rfl rfl ?_
          refine ow_nil ?_
          refine cw_ret ?_
          repeat with_reducible first | refine thenQ_ret ?_ | refine thenQ_normal ?_ | refine thenQ_exit ?_ | refine blockQ_ret ?_ | refine blockQ_normal ?_ | refine blockQ_exit_same ?_ | refine blockQ_exit_ne rfl ?_
          refine body_ret (.one (.tmp rfl)) ?_
          rfl
        · simp only [cmpP] at h30
          refine ow_y (y_pick_f rfl rfl) rfl rfl rfl ?_
          refine ow_y (y_move rfl) rfl rfl rfl ?_
          refine ow_y (y_move rfl) rfl rfl rfl ?_
          refine ow_cmp rfl rfl rfl rfl rfl (fun h34 => ?_) (fun h34 => ?_)
          · simp only [cmpP] at h34
            refine ow_y (y_pick_f rfl rfl) rfl rfl rfl ?_
            refine ow_y (y_move rfl) rfl rfl rfl ?_
            refine ow_skip rfl rfl rfl ?_
            refine ow_skip rfl rfl rfl ?_
            refine ow_y (y_pick_t rfl rfl) rfl rfl rfl ?_
            refine ow_y (y_move rfl) rfl rfl rfl ?_
            refine ow_skip rfl rfl rfl ?_
            refine ow_skip rfl rfl rfl ?_
            refine ow_y (y_pick_t rfl rfl) rfl rfl rfl ?_
            refine ow_nil ?_
            refine cw_if_t rfl ?_
            refine cw_regseq ?_
            refine ow_y (y_move rfl) rfl rfl rfl ?_
            refine ow_y (y_assign rfl) rfl rfl rfl ?_
            refine ow_nil ?_
            refine cw_ret ?_
            repeat with_reducible first | refine thenQ_ret ?_ | refine thenQ_normal ?_ | refine thenQ_exit ?_ | refine blockQ_ret ?_ | refine blockQ_normal ?_ | refine blockQ_exit_same ?_ | refine blockQ_exit_ne rfl ?_
            refine body_ret (.one (.tmp rfl)) ?_
            rfl
          · simp only [cmpP] at h34
            refine ow_y (y_pick_f rfl rfl) rfl rfl rfl ?_
            refine ow_y (y_move rfl) rfl rfl rfl ?_
            refine ow_y (y_move rfl) rfl rfl rfl ?_
            refine ow_cmp rfl rfl rfl rfl rfl (fun h38 => ?_) (fun h38 => ?_)
            · simp only [cmpP] at h38
              refine ow_y (y_pick_f rfl rfl) rfl rfl rfl ?_
              refine ow_y (y_move rfl) rfl rfl rfl ?_
              refine ow_skip rfl rfl rfl ?_
              refine ow_skip rfl rfl rfl ?_
              refine ow_y (y_pick_t rfl rfl) rfl rfl rfl ?_
              refine ow_nil ?_
              refine cw_if_t rfl ?_
              refine cw_regseq ?_
              refine ow_y (y_move rfl) rfl rfl rfl ?_
              refine ow_y (y_assign rfl) rfl rfl rfl ?_
              refine ow_nil ?_
              refine cw_ret ?_
              repeat with_reducible first | refine thenQ_ret ?_ | refine thenQ_normal ?_ | refine thenQ_exit ?_ | refine blockQ_ret ?_ | refine blockQ_normal ?_ | refine blockQ_exit_same ?_ | refine blockQ_exit_ne rfl ?_
              refine body_ret (.one (.tmp rfl)) ?_
              rfl
            · simp only [cmpP] at h38
              refine ow_y (y_pick_f rfl rfl) rfl rfl rfl ?_
              refine ow_y (y_move rfl) rfl rfl rfl ?_
              refine ow_y (y_move rfl) rfl rfl rfl ?_
              refine ow_cmp rfl rfl rfl rfl rfl (fun h42 => ?_) (fun h42 => ?_)
              · simp only [cmpP] at h42
                refine ow_y (y_pick_f rfl rfl) rfl rfl rfl ?_
                refine ow_nil ?_
                refine cw_if_t rfl ?_
                refine cw_regseq ?_
                refine ow_y (y_move rfl) rfl rfl rfl ?_
                refine ow_y (y_assign rfl) rfl rfl rfl ?_
                refine ow_nil ?_
                refine cw_ret ?_
                repeat with_reducible first | refine thenQ_ret ?_ | refine thenQ_normal ?_ | refine thenQ_exit ?_ | refine blockQ_ret ?_ | refine blockQ_normal ?_ | refine blockQ_exit_same ?_ | refine blockQ_exit_ne rfl ?_
                refine body_ret (.one (.tmp rfl)) ?_
                rfl
              · simp only [cmpP] at h42
                refine ow_y (y_pick_f rfl rfl) rfl rfl rfl ?_
                refine ow_nil ?_
                refine cw_if_f rfl ?_
                refine cw_skip ?_
                repeat with_reducible first | refine thenQ_ret ?_ | refine thenQ_normal ?_ | refine thenQ_exit ?_ | refine blockQ_ret ?_ | refine blockQ_normal ?_ | refine blockQ_exit_same ?_ | refine blockQ_exit_ne rfl ?_
                refine cw_regseq ?_
                refine ow_y (y_assign rfl) rfl rfl rfl ?_
                refine ow_nil ?_
                refine cw_seq ?_
                refine cw_regseq ?_
                refine ow_y (y_assign rfl) rfl rfl rfl ?_
                refine ow_nil ?_
                refine cw_block ?_
                have hN : ∀ z : Int, 0 ≤ z → ∃ n : Nat, z = n := fun z h => ⟨z.toNat, by omega⟩
                obtain ⟨m, rfl⟩ := hN many (by omega)
                refine cw_loop (α := Nat × List UInt8) (fun x => [(0, .int .i64 (m : Int)), (1, .int .i64 base), (2, .int .i64 other), (7, .bool true), (8, str x.2), (9, .int .i64 (x.1 : Int))]) (fun x => []) (fun x => x.1 ≤ m ∧ x.2 = firstL ++ [10] ++ cat baseF x.1) (fun x => m - x.1) (0, [102, 105, 114, 115, 116, 58, 10]) ?_ (by repeat (first | exact EnvLe.nil _ | refine EnvLe.cons rfl ?_)) (by repeat (first | exact Split.nil | (apply Split.cons; · repeat (first | exact Pick.here | apply Pick.there)) | exact Split.whole _ | exact Split.front _ _ rfl | exact Split.back _ _ rfl | exact Split.app_nil _ | apply Split.skip)) ?_
                · exact ⟨Nat.zero_le _, rfl⟩
                · rintro ⟨k, out⟩ ⟨hk, hout⟩
                  simp only at hk hout
                  have hol : out.length = 7 + 14 * k := by rw [hout, List.length_append, baseF_len]; simp [firstL]
                  refine cw_seq ?_
                  refine cw_regseq ?_
                  refine ow_y (y_move rfl) rfl rfl rfl ?_
                  refine ow_y (y_move rfl) rfl rfl rfl ?_
                  refine ow_cmp rfl rfl rfl rfl rfl (fun h47 => ?_) (fun h47 => ?_)
                  · simp only [cmpP] at h47
                    refine ow_nil ?_
                    refine cw_if_t rfl ?_
                    refine cw_skip ?_
                    repeat with_reducible first | refine thenQ_ret ?_ | refine thenQ_normal ?_ | refine thenQ_exit ?_ | refine blockQ_ret ?_ | refine blockQ_normal ?_ | refine blockQ_exit_same ?_ | refine blockQ_exit_ne rfl ?_
                    refine cw_seq ?_
                    refine cw_block ?_
                    refine cw_region ?_
                    refine ow_y (y_move rfl) rfl rfl rfl ?_
                    refine ow_y (y_concat rfl rfl (by first | omega | (simp; omega) | (simp only [List.length_append, List.length_cons, List.length_nil]; omega))) rfl rfl rfl ?_
                    refine ow_y (y_assign rfl) rfl rfl rfl ?_
                    refine ow_nil ?_
                    repeat with_reducible first | refine thenQ_ret ?_ | refine thenQ_normal ?_ | refine thenQ_exit ?_ | refine blockQ_ret ?_ | refine blockQ_normal ?_ | refine blockQ_exit_same ?_ | refine blockQ_exit_ne rfl ?_
                    refine cw_region ?_
                    refine ow_y (y_move rfl) rfl rfl rfl ?_
                    refine ow_y (y_add64 rfl rfl (by omega)) rfl rfl rfl ?_
                    refine ow_y (y_assign rfl) rfl rfl rfl ?_
                    refine ow_nil ?_
                    repeat with_reducible first | refine thenQ_ret ?_ | refine thenQ_normal ?_ | refine thenQ_exit ?_ | refine blockQ_ret ?_ | refine blockQ_normal ?_ | refine blockQ_exit_same ?_ | refine blockQ_exit_ne rfl ?_
                    refine ⟨(k + 1, out ++ [110, 111, 112, 10, 106, 109, 112, 32, 102, 105, 114, 115, 116, 10]), _, ?_, ?_, (by repeat (first | exact EnvLe.nil _ | refine EnvLe.cons rfl ?_)), (by repeat (first | exact Split.nil | (apply Split.cons; · repeat (first | exact Pick.here | apply Pick.there)) | exact Split.whole _ | exact Split.front _ _ rfl | exact Split.back _ _ rfl | exact Split.app_nil _ | apply Split.skip))⟩
                    · refine ⟨by omega, ?_⟩
                      rw [hout, cat]; simp [baseF, nopL, jmpF]
                    · simp only; omega
                  · simp only [cmpP] at h47
                    refine ow_nil ?_
                    refine cw_if_f rfl ?_
                    refine cw_exit ?_
                    repeat with_reducible first | refine thenQ_ret ?_ | refine thenQ_normal ?_ | refine thenQ_exit ?_ | refine blockQ_ret ?_ | refine blockQ_normal ?_ | refine blockQ_exit_same ?_ | refine blockQ_exit_ne rfl ?_
                    refine cw_regseq ?_
                    have hkm : k = m := by omega
                    have hsrc : out = baseSrc m := by rw [hout, hkm]; rfl
                    refine ow_y (y_move rfl) rfl rfl rfl ?_
                    refine ow_y (y_move rfl) rfl rfl rfl ?_
                    refine ow_call rfl rfl (by rfl) ct_12 (asm_f base out hR.base) ?_
                    rintro _ _ ⟨A, rfl, hp⟩
                    rw [AsmPost, hsrc, assemble_base (by omega) (by omega) (by omega)] at hp
                    dsimp only at hp
                    obtain ⟨sv, rfl, hown⟩ := hp
                    have hwl1 := baseWords_len base m
                    obtain ⟨b1, cap1, cells1, rfl, rfl, hget1⟩ := own_get hown (by intro h; rw [h] at hwl1; simp at hwl1; omega)
                    rw [hwl1]
                    refine ow_y (y_move rfl) rfl rfl rfl ?_
                    refine ow_y (y_extract rfl rfl) rfl rfl rfl ?_
                    refine ow_y (y_extract rfl rfl) rfl rfl rfl ?_
                    refine ow_y (y_extract rfl rfl) rfl rfl rfl ?_
                    refine ow_y (y_assign rfl) rfl rfl rfl ?_
                    refine ow_y (y_assign rfl) rfl rfl rfl ?_
                    refine ow_y (y_assign rfl) rfl rfl rfl ?_
                    refine ow_nil ?_
                    refine cw_regseq ?_
                    refine ow_y (y_move rfl) rfl rfl rfl ?_
                    refine ow_y (y_move rfl) rfl rfl rfl ?_
                    refine ow_call rfl rfl (by rfl) ct_12 (asm_f other out hR.base) ?_
                    rintro _ _ ⟨A, rfl, hp⟩
                    rw [AsmPost, hsrc, assemble_base (by omega) (by omega) (by omega)] at hp
                    dsimp only at hp
                    obtain ⟨sv, rfl, hown⟩ := hp
                    have hwl2 := baseWords_len other m
                    obtain ⟨b2, cap2, cells2, rfl, rfl, hget2⟩ := own_get hown (by intro h; rw [h] at hwl2; simp at hwl2; omega)
                    rw [hwl2]
                    refine ow_y (y_move rfl) rfl rfl rfl ?_
                    refine ow_y (y_extract rfl rfl) rfl rfl rfl ?_
                    refine ow_y (y_extract rfl rfl) rfl rfl rfl ?_
                    refine ow_y (y_extract rfl rfl) rfl rfl rfl ?_
                    refine ow_y (y_assign rfl) rfl rfl rfl ?_
                    refine ow_y (y_assign rfl) rfl rfl rfl ?_
                    refine ow_y (y_assign rfl) rfl rfl rfl ?_
                    refine ow_nil ?_
                    refine cw_seq ?_
                    refine cw_regseq ?_
                    refine ow_y (y_move rfl) rfl rfl rfl ?_
                    refine ow_cmp_f rfl rfl rfl rfl rfl (by simp only [cmpP]; try omega) ?_
                    refine ow_y (y_move rfl) rfl rfl rfl ?_
                    refine ow_y (y_move rfl) rfl rfl rfl ?_
                    refine ow_cmp_f rfl rfl rfl rfl rfl (by simp only [cmpP]; try omega) ?_
                    refine ow_y (y_pick_f rfl rfl) rfl rfl rfl ?_
                    refine ow_y (y_move rfl) rfl rfl rfl ?_
                    refine ow_y (y_move rfl) rfl rfl rfl ?_
                    refine ow_y (y_lenSl rfl el_22) rfl rfl rfl ?_
                    refine ow_y (y_move rfl) rfl rfl rfl ?_
                    refine ow_y (y_mul64 rfl rfl (by omega)) rfl rfl rfl ?_
                    refine ow_cmp_f rfl rfl rfl rfl rfl (by simp only [cmpP]; try omega) ?_
                    refine ow_y (y_pick_f rfl rfl) rfl rfl rfl ?_
                    refine ow_y (y_move rfl) rfl rfl rfl ?_
                    refine ow_y (y_move rfl) rfl rfl rfl ?_
                    refine ow_y (y_lenSl rfl el_22) rfl rfl rfl ?_
                    refine ow_y (y_move rfl) rfl rfl rfl ?_
                    refine ow_y (y_mul64 rfl rfl (by omega)) rfl rfl rfl ?_
                    refine ow_cmp_f rfl rfl rfl rfl rfl (by simp only [cmpP]; try omega) ?_
                    refine ow_y (y_pick_f rfl rfl) rfl rfl rfl ?_
                    refine ow_nil ?_
                    refine cw_if_f rfl ?_
                    refine cw_skip ?_
                    repeat with_reducible first | refine thenQ_ret ?_ | refine thenQ_normal ?_ | refine thenQ_exit ?_ | refine blockQ_ret ?_ | refine blockQ_normal ?_ | refine blockQ_exit_same ?_ | refine blockQ_exit_ne rfl ?_
                    refine cw_seq ?_
                    refine cw_regseq ?_
                    refine ow_y (y_assign rfl) rfl rfl rfl ?_
                    refine ow_nil ?_
                    refine cw_block ?_
                    refine cw_loop (α := Nat) (fun x => [(0, .int .i64 (m : Int)), (1, .int .i64 base), (2, .int .i64 other), (7, .bool true), (10, .slice (some ⟨b1, 0, none⟩) (2 * m) cap1), (13, .slice (some ⟨b2, 0, none⟩) (2 * m) cap2), (16, .int .i64 (x : Int))]) (fun x => [(b2, cb cells2 36), (b1, cb cells1 36)]) (fun x => x ≤ m) (fun x => m - x) 0 ?_ (by repeat (first | exact EnvLe.nil _ | refine EnvLe.cons rfl ?_)) (by repeat (first | exact Split.nil | (apply Split.cons; · repeat (first | exact Pick.here | apply Pick.there)) | exact Split.whole _ | exact Split.front _ _ rfl | exact Split.back _ _ rfl | exact Split.app_nil _ | apply Split.skip)) ?_
                    · exact Nat.zero_le _
                    · intro i hi
                      refine cw_seq ?_
                      refine cw_regseq ?_
                      refine ow_y (y_move rfl) rfl rfl rfl ?_
                      refine ow_y (y_move rfl) rfl rfl rfl ?_
                      refine ow_cmp rfl rfl rfl rfl rfl (fun h88 => ?_) (fun h88 => ?_)
                      · simp only [cmpP] at h88
                        refine ow_nil ?_
                        refine cw_if_t rfl ?_
                        refine cw_skip ?_
                        repeat with_reducible first | refine thenQ_ret ?_ | refine thenQ_normal ?_ | refine thenQ_exit ?_ | refine blockQ_ret ?_ | refine blockQ_normal ?_ | refine blockQ_exit_same ?_ | refine blockQ_exit_ne rfl ?_
                        refine cw_seq ?_
                        refine cw_block ?_
                        refine cw_regseq ?_
                        refine ow_y (y_move rfl) rfl rfl rfl ?_
                        refine ow_y (y_move rfl) rfl rfl rfl ?_
                        refine ow_y (y_mul64 rfl rfl (by omega)) rfl rfl rfl ?_
                        refine ow_y (y_add64 rfl rfl (by omega)) rfl rfl rfl ?_
                        obtain ⟨hq1, hq2⟩ := baseWords_get base m i (by omega)
                        obtain ⟨hq3, hq4⟩ := baseWords_get other m i (by omega)
                        have hg1 := hget1 _ _ hq1
                        have hg2 := hget1 _ _ hq2
                        have hg3 := hget2 _ _ hq3
                        have hg4 := hget2 _ _ hq4
                        refine ow_y (y_indexAddr (i := 2 * i + 1) rfl rfl el_22 sz_36 (by omega)) rfl rfl rfl ?_
                        refine ow_y (y_load rfl pt_36 (by first | (apply In.own; (repeat (first | exact List.Mem.head _ | apply List.Mem.tail)); done) | (apply In.ro; (repeat (first | exact List.Mem.head _ | apply List.Mem.tail)); done)) hg2) rfl rfl rfl ?_
                        refine ow_call rfl rfl (by rfl) ct_14 (Decode_c R _ hR.base (jmpW base) (by simp only [jmpW]; omega) (by simp only [jmpW]; omega)) ?_
                        rintro _ _ ⟨rfl, rfl⟩
                        rw [decode_jmp (by omega) (by omega)]
                        simp only [encI]
                        refine ow_y (y_move rfl) rfl rfl rfl ?_
                        refine ow_y (y_extract rfl rfl) rfl rfl rfl ?_
                        refine ow_y (y_extract rfl rfl) rfl rfl rfl ?_
                        refine ow_alloc rfl rfl zt_33 rfl (fun b17 => ?_)
                        refine ow_storeAgg rfl rfl rfl sz_33 rfl rfl (by repeat (first | exact Upd.here | apply Upd.there)) (by repeat (first | exact SetLs.nil | (apply SetLs.cons; · repeat (first | exact SetL.here | apply SetL.there)))) ?_
                        refine ow_y (y_assign rfl) rfl rfl rfl ?_
                        refine ow_nil ?_
                        refine cw_regseq ?_
                        refine ow_y (y_move rfl) rfl rfl rfl ?_
                        refine ow_y (y_move rfl) rfl rfl rfl ?_
                        refine ow_y (y_mul64 rfl rfl (by omega)) rfl rfl rfl ?_
                        refine ow_y (y_add64 rfl rfl (by omega)) rfl rfl rfl ?_
                        refine ow_y (y_indexAddr (i := 2 * i + 1) rfl rfl el_22 sz_36 (by omega)) rfl rfl rfl ?_
                        refine ow_y (y_load rfl pt_36 (by first | (apply In.own; (repeat (first | exact List.Mem.head _ | apply List.Mem.tail)); done) | (apply In.ro; (repeat (first | exact List.Mem.head _ | apply List.Mem.tail)); done)) hg4) rfl rfl rfl ?_
                        refine ow_call rfl rfl (by rfl) ct_14 (Decode_c R _ hR.base (jmpW other) (by simp only [jmpW]; omega) (by simp only [jmpW]; omega)) ?_
                        rintro _ _ ⟨rfl, rfl⟩
                        rw [decode_jmp (by omega) (by omega)]
                        simp only [encI]
                        refine ow_y (y_move rfl) rfl rfl rfl ?_
                        refine ow_y (y_extract rfl rfl) rfl rfl rfl ?_
                        refine ow_y (y_extract rfl rfl) rfl rfl rfl ?_
                        refine ow_alloc rfl rfl zt_33 rfl (fun b19 => ?_)
                        refine ow_storeAgg rfl rfl rfl sz_33 rfl rfl (by repeat (first | exact Upd.here | apply Upd.there)) (by repeat (first | exact SetLs.nil | (apply SetLs.cons; · repeat (first | exact SetL.here | apply SetL.there)))) ?_
                        refine ow_y (y_assign rfl) rfl rfl rfl ?_
                        refine ow_nil ?_
                        refine cw_drawseq [(b19, cb [.int .i64 14, .int .i64 0, .int .i64 0, .int .i64 0, .int .i64 other] 33), (b17, cb [.int .i64 14, .int .i64 0, .int .i64 0, .int .i64 0, .int .i64 base] 33), (b2, cb cells2 36), (b1, cb cells1 36)] (by kernel_rfl) rfl ?_
                        refine any_take 0 rfl (by kernel_rfl) (by kernel_rfl) (by kernel_rfl) rfl rfl rfl (by repeat (first | exact Split.nil | (apply Split.cons; · repeat (first | exact Pick.here | apply Pick.there)) | exact Split.whole _ | exact Split.front _ _ rfl | exact Split.back _ _ rfl | exact Split.app_nil _ | apply Split.skip)) (y_move rfl) ?_
                        refine any_take 1 rfl (by kernel_rfl) (by kernel_rfl) (by kernel_rfl) rfl rfl rfl (by repeat (first | exact Split.nil | (apply Split.cons; · repeat (first | exact Pick.here | apply Pick.there)) | exact Split.whole _ | exact Split.front _ _ rfl | exact Split.back _ _ rfl | exact Split.app_nil _ | apply Split.skip)) (y_move rfl) ?_
                        refine any_take 2 rfl (by kernel_rfl) (by kernel_rfl) (by kernel_rfl) rfl rfl rfl (by repeat (first | exact Split.nil | (apply Split.cons; · repeat (first | exact Pick.here | apply Pick.there)) | exact Split.whole _ | exact Split.front _ _ rfl | exact Split.back _ _ rfl | exact Split.app_nil _ | apply Split.skip)) (y_mul64 rfl rfl (by omega)) ?_
                        refine any_take 3 rfl (by kernel_rfl) (by kernel_rfl) (by kernel_rfl) rfl rfl rfl (by repeat (first | exact Split.nil | (apply Split.cons; · repeat (first | exact Pick.here | apply Pick.there)) | exact Split.whole _ | exact Split.front _ _ rfl | exact Split.back _ _ rfl | exact Split.app_nil _ | apply Split.skip)) (y_indexAddr (i := 2 * i) rfl rfl el_22 sz_36 (by omega)) ?_
                        refine any_take 4 rfl (by kernel_rfl) (by kernel_rfl) (by kernel_rfl) rfl rfl rfl (by repeat (first | exact Split.nil | (apply Split.cons; · repeat (first | exact Pick.here | apply Pick.there)) | exact Split.whole _ | exact Split.front _ _ rfl | exact Split.back _ _ rfl | exact Split.app_nil _ | apply Split.skip)) (y_load rfl pt_36 (by first | (apply In.own; (repeat (first | exact List.Mem.head _ | apply List.Mem.tail)); done) | (apply In.ro; (repeat (first | exact List.Mem.head _ | apply List.Mem.tail)); done)) hg1) ?_
                        refine any_take 5 rfl (by kernel_rfl) (by kernel_rfl) (by kernel_rfl) rfl rfl rfl (by repeat (first | exact Split.nil | (apply Split.cons; · repeat (first | exact Pick.here | apply Pick.there)) | exact Split.whole _ | exact Split.front _ _ rfl | exact Split.back _ _ rfl | exact Split.app_nil _ | apply Split.skip)) (y_move rfl) ?_
                        refine any_take 6 rfl (by kernel_rfl) (by kernel_rfl) (by kernel_rfl) rfl rfl rfl (by repeat (first | exact Split.nil | (apply Split.cons; · repeat (first | exact Pick.here | apply Pick.there)) | exact Split.whole _ | exact Split.front _ _ rfl | exact Split.back _ _ rfl | exact Split.app_nil _ | apply Split.skip)) (y_move rfl) ?_
                        refine any_take 7 rfl (by kernel_rfl) (by kernel_rfl) (by kernel_rfl) rfl rfl rfl (by repeat (first | exact Split.nil | (apply Split.cons; · repeat (first | exact Pick.here | apply Pick.there)) | exact Split.whole _ | exact Split.front _ _ rfl | exact Split.back _ _ rfl | exact Split.app_nil _ | apply Split.skip)) (y_mul64 rfl rfl (by omega)) ?_
                        refine any_take 8 rfl (by kernel_rfl) (by kernel_rfl) (by kernel_rfl) rfl rfl rfl (by repeat (first | exact Split.nil | (apply Split.cons; · repeat (first | exact Pick.here | apply Pick.there)) | exact Split.whole _ | exact Split.front _ _ rfl | exact Split.back _ _ rfl | exact Split.app_nil _ | apply Split.skip)) (y_indexAddr (i := 2 * i) rfl rfl el_22 sz_36 (by omega)) ?_
                        refine any_take 9 rfl (by kernel_rfl) (by kernel_rfl) (by kernel_rfl) rfl rfl rfl (by repeat (first | exact Split.nil | (apply Split.cons; · repeat (first | exact Pick.here | apply Pick.there)) | exact Split.whole _ | exact Split.front _ _ rfl | exact Split.back _ _ rfl | exact Split.app_nil _ | apply Split.skip)) (y_load rfl pt_36 (by first | (apply In.own; (repeat (first | exact List.Mem.head _ | apply List.Mem.tail)); done) | (apply In.ro; (repeat (first | exact List.Mem.head _ | apply List.Mem.tail)); done)) hg3) ?_
                        refine any_take 10 rfl (by kernel_rfl) (by kernel_rfl) (by kernel_rfl) rfl rfl rfl (by repeat (first | exact Split.nil | (apply Split.cons; · repeat (first | exact Pick.here | apply Pick.there)) | exact Split.whole _ | exact Split.front _ _ rfl | exact Split.back _ _ rfl | exact Split.app_nil _ | apply Split.skip)) (y_cmp_f rfl rfl rfl (by simp only [cmpP]; try omega)) ?_
                        refine any_take 11 rfl (by kernel_rfl) (by kernel_rfl) (by kernel_rfl) rfl rfl rfl (by repeat (first | exact Split.nil | (apply Split.cons; · repeat (first | exact Pick.here | apply Pick.there)) | exact Split.whole _ | exact Split.front _ _ rfl | exact Split.back _ _ rfl | exact Split.app_nil _ | apply Split.skip)) (y_move rfl) ?_
                        refine any_take 12 rfl (by kernel_rfl) (by kernel_rfl) (by kernel_rfl) rfl rfl rfl (by repeat (first | exact Split.nil | (apply Split.cons; · repeat (first | exact Pick.here | apply Pick.there)) | exact Split.whole _ | exact Split.front _ _ rfl | exact Split.back _ _ rfl | exact Split.app_nil _ | apply Split.skip)) (y_move rfl) ?_
                        refine any_take 13 rfl (by kernel_rfl) (by kernel_rfl) (by kernel_rfl) rfl rfl rfl (by repeat (first | exact Split.nil | (apply Split.cons; · repeat (first | exact Pick.here | apply Pick.there)) | exact Split.whole _ | exact Split.front _ _ rfl | exact Split.back _ _ rfl | exact Split.app_nil _ | apply Split.skip)) (y_cmp_f rfl rfl rfl (by simp only [cmpP]; try omega)) ?_
                        refine any_take 14 rfl (by kernel_rfl) (by kernel_rfl) (by kernel_rfl) rfl rfl rfl (by repeat (first | exact Split.nil | (apply Split.cons; · repeat (first | exact Pick.here | apply Pick.there)) | exact Split.whole _ | exact Split.front _ _ rfl | exact Split.back _ _ rfl | exact Split.app_nil _ | apply Split.skip)) (y_pick_f rfl rfl) ?_
                        refine any_take 15 rfl (by kernel_rfl) (by kernel_rfl) (by kernel_rfl) rfl rfl rfl (by repeat (first | exact Split.nil | (apply Split.cons; · repeat (first | exact Pick.here | apply Pick.there)) | exact Split.whole _ | exact Split.front _ _ rfl | exact Split.back _ _ rfl | exact Split.app_nil _ | apply Split.skip)) (y_move rfl) ?_
                        refine any_take 16 rfl (by kernel_rfl) (by kernel_rfl) (by kernel_rfl) rfl rfl rfl (by repeat (first | exact Split.nil | (apply Split.cons; · repeat (first | exact Pick.here | apply Pick.there)) | exact Split.whole _ | exact Split.front _ _ rfl | exact Split.back _ _ rfl | exact Split.app_nil _ | apply Split.skip)) (y_move rfl) ?_
                        refine any_take 17 rfl (by kernel_rfl) (by kernel_rfl) (by kernel_rfl) rfl rfl rfl (by repeat (first | exact Split.nil | (apply Split.cons; · repeat (first | exact Pick.here | apply Pick.there)) | exact Split.whole _ | exact Split.front _ _ rfl | exact Split.back _ _ rfl | exact Split.app_nil _ | apply Split.skip)) (y_cmp_f rfl rfl rfl (by simp only [cmpP]; try omega)) ?_
                        refine any_take 18 rfl (by kernel_rfl) (by kernel_rfl) (by kernel_rfl) rfl rfl rfl (by repeat (first | exact Split.nil | (apply Split.cons; · repeat (first | exact Pick.here | apply Pick.there)) | exact Split.whole _ | exact Split.front _ _ rfl | exact Split.back _ _ rfl | exact Split.app_nil _ | apply Split.skip)) (y_pick_f rfl rfl) ?_
                        refine any_take 19 rfl (by kernel_rfl) (by kernel_rfl) (by kernel_rfl) rfl rfl rfl (by repeat (first | exact Split.nil | (apply Split.cons; · repeat (first | exact Pick.here | apply Pick.there)) | exact Split.whole _ | exact Split.front _ _ rfl | exact Split.back _ _ rfl | exact Split.app_nil _ | apply Split.skip)) (y_move rfl) ?_
                        refine any_take 20 rfl (by kernel_rfl) (by kernel_rfl) (by kernel_rfl) rfl rfl rfl (by repeat (first | exact Split.nil | (apply Split.cons; · repeat (first | exact Pick.here | apply Pick.there)) | exact Split.whole _ | exact Split.front _ _ rfl | exact Split.back _ _ rfl | exact Split.app_nil _ | apply Split.skip)) (y_fieldAddr 4 rfl ft_33_4 rfl) ?_
                        refine any_take 21 rfl (by kernel_rfl) (by kernel_rfl) (by kernel_rfl) rfl rfl rfl (by repeat (first | exact Split.nil | (apply Split.cons; · repeat (first | exact Pick.here | apply Pick.there)) | exact Split.whole _ | exact Split.front _ _ rfl | exact Split.back _ _ rfl | exact Split.app_nil _ | apply Split.skip)) (y_load rfl pt_3 (by first | (apply In.own; (repeat (first | exact List.Mem.head _ | apply List.Mem.tail)); done) | (apply In.ro; (repeat (first | exact List.Mem.head _ | apply List.Mem.tail)); done)) rfl) ?_
                        refine any_take 22 rfl (by kernel_rfl) (by kernel_rfl) (by kernel_rfl) rfl rfl rfl (by repeat (first | exact Split.nil | (apply Split.cons; · repeat (first | exact Pick.here | apply Pick.there)) | exact Split.whole _ | exact Split.front _ _ rfl | exact Split.back _ _ rfl | exact Split.app_nil _ | apply Split.skip)) (y_move rfl) ?_
                        refine any_take 23 rfl (by kernel_rfl) (by kernel_rfl) (by kernel_rfl) rfl rfl rfl (by repeat (first | exact Split.nil | (apply Split.cons; · repeat (first | exact Pick.here | apply Pick.there)) | exact Split.whole _ | exact Split.front _ _ rfl | exact Split.back _ _ rfl | exact Split.app_nil _ | apply Split.skip)) (y_cmp_f rfl rfl rfl (by simp only [cmpP]; try omega)) ?_
                        refine any_take 24 rfl (by kernel_rfl) (by kernel_rfl) (by kernel_rfl) rfl rfl rfl (by repeat (first | exact Split.nil | (apply Split.cons; · repeat (first | exact Pick.here | apply Pick.there)) | exact Split.whole _ | exact Split.front _ _ rfl | exact Split.back _ _ rfl | exact Split.app_nil _ | apply Split.skip)) (y_pick_f rfl rfl) ?_
                        refine any_take 25 rfl (by kernel_rfl) (by kernel_rfl) (by kernel_rfl) rfl rfl rfl (by repeat (first | exact Split.nil | (apply Split.cons; · repeat (first | exact Pick.here | apply Pick.there)) | exact Split.whole _ | exact Split.front _ _ rfl | exact Split.back _ _ rfl | exact Split.app_nil _ | apply Split.skip)) (y_move rfl) ?_
                        refine any_take 26 rfl (by kernel_rfl) (by kernel_rfl) (by kernel_rfl) rfl rfl rfl (by repeat (first | exact Split.nil | (apply Split.cons; · repeat (first | exact Pick.here | apply Pick.there)) | exact Split.whole _ | exact Split.front _ _ rfl | exact Split.back _ _ rfl | exact Split.app_nil _ | apply Split.skip)) (y_fieldAddr 4 rfl ft_33_4 rfl) ?_
                        refine any_take 27 rfl (by kernel_rfl) (by kernel_rfl) (by kernel_rfl) rfl rfl rfl (by repeat (first | exact Split.nil | (apply Split.cons; · repeat (first | exact Pick.here | apply Pick.there)) | exact Split.whole _ | exact Split.front _ _ rfl | exact Split.back _ _ rfl | exact Split.app_nil _ | apply Split.skip)) (y_load rfl pt_3 (by first | (apply In.own; (repeat (first | exact List.Mem.head _ | apply List.Mem.tail)); done) | (apply In.ro; (repeat (first | exact List.Mem.head _ | apply List.Mem.tail)); done)) rfl) ?_
                        refine any_take 28 rfl (by kernel_rfl) (by kernel_rfl) (by kernel_rfl) rfl rfl rfl (by repeat (first | exact Split.nil | (apply Split.cons; · repeat (first | exact Pick.here | apply Pick.there)) | exact Split.whole _ | exact Split.front _ _ rfl | exact Split.back _ _ rfl | exact Split.app_nil _ | apply Split.skip)) (y_move rfl) ?_
                        refine any_take 29 rfl (by kernel_rfl) (by kernel_rfl) (by kernel_rfl) rfl rfl rfl (by repeat (first | exact Split.nil | (apply Split.cons; · repeat (first | exact Pick.here | apply Pick.there)) | exact Split.whole _ | exact Split.front _ _ rfl | exact Split.back _ _ rfl | exact Split.app_nil _ | apply Split.skip)) (y_cmp_f rfl rfl rfl (by simp only [cmpP]; try omega)) ?_
                        refine any_take 30 rfl (by kernel_rfl) (by kernel_rfl) (by kernel_rfl) rfl rfl rfl (by repeat (first | exact Split.nil | (apply Split.cons; · repeat (first | exact Pick.here | apply Pick.there)) | exact Split.whole _ | exact Split.front _ _ rfl | exact Split.back _ _ rfl | exact Split.app_nil _ | apply Split.skip)) (y_pick_f rfl rfl) ?_
                        refine any_take 31 rfl (by kernel_rfl) (by kernel_rfl) (by kernel_rfl) rfl rfl rfl (by repeat (first | exact Split.nil | (apply Split.cons; · repeat (first | exact Pick.here | apply Pick.there)) | exact Split.whole _ | exact Split.front _ _ rfl | exact Split.back _ _ rfl | exact Split.app_nil _ | apply Split.skip)) (y_move rfl) ?_
                        refine any_take 32 rfl (by kernel_rfl) (by kernel_rfl) (by kernel_rfl) rfl rfl rfl (by repeat (first | exact Split.nil | (apply Split.cons; · repeat (first | exact Pick.here | apply Pick.there)) | exact Split.whole _ | exact Split.front _ _ rfl | exact Split.back _ _ rfl | exact Split.app_nil _ | apply Split.skip)) (y_fieldAddr 0 rfl ft_33_0 rfl) ?_
                        refine any_take 33 rfl (by kernel_rfl) (by kernel_rfl) (by kernel_rfl) rfl rfl rfl (by repeat (first | exact Split.nil | (apply Split.cons; · repeat (first | exact Pick.here | apply Pick.there)) | exact Split.whole _ | exact Split.front _ _ rfl | exact Split.back _ _ rfl | exact Split.app_nil _ | apply Split.skip)) (y_load rfl pt_3 (by first | (apply In.own; (repeat (first | exact List.Mem.head _ | apply List.Mem.tail)); done) | (apply In.ro; (repeat (first | exact List.Mem.head _ | apply List.Mem.tail)); done)) rfl) ?_
                        refine any_take 34 rfl (by kernel_rfl) (by kernel_rfl) (by kernel_rfl) rfl rfl rfl (by repeat (first | exact Split.nil | (apply Split.cons; · repeat (first | exact Pick.here | apply Pick.there)) | exact Split.whole _ | exact Split.front _ _ rfl | exact Split.back _ _ rfl | exact Split.app_nil _ | apply Split.skip)) (y_fieldAddr 0 rfl ft_33_0 rfl) ?_
                        refine any_take 35 rfl (by kernel_rfl) (by kernel_rfl) (by kernel_rfl) rfl rfl rfl (by repeat (first | exact Split.nil | (apply Split.cons; · repeat (first | exact Pick.here | apply Pick.there)) | exact Split.whole _ | exact Split.front _ _ rfl | exact Split.back _ _ rfl | exact Split.app_nil _ | apply Split.skip)) (y_load rfl pt_3 (by first | (apply In.own; (repeat (first | exact List.Mem.head _ | apply List.Mem.tail)); done) | (apply In.ro; (repeat (first | exact List.Mem.head _ | apply List.Mem.tail)); done)) rfl) ?_
                        refine any_take 36 rfl (by kernel_rfl) (by kernel_rfl) (by kernel_rfl) rfl rfl rfl (by repeat (first | exact Split.nil | (apply Split.cons; · repeat (first | exact Pick.here | apply Pick.there)) | exact Split.whole _ | exact Split.front _ _ rfl | exact Split.back _ _ rfl | exact Split.app_nil _ | apply Split.skip)) (y_cmp_f rfl rfl rfl (by simp only [cmpP]; try omega)) ?_
                        refine any_take 37 rfl (by kernel_rfl) (by kernel_rfl) (by kernel_rfl) rfl rfl rfl (by repeat (first | exact Split.nil | (apply Split.cons; · repeat (first | exact Pick.here | apply Pick.there)) | exact Split.whole _ | exact Split.front _ _ rfl | exact Split.back _ _ rfl | exact Split.app_nil _ | apply Split.skip)) (y_pick_f rfl rfl) ?_
                        refine any_done (by kernel_rfl) ?_
                        refine cw_if_f rfl ?_
                        refine cw_skip ?_
                        repeat with_reducible first | refine thenQ_ret ?_ | refine thenQ_normal ?_ | refine thenQ_exit ?_ | refine blockQ_ret ?_ | refine blockQ_normal ?_ | refine blockQ_exit_same ?_ | refine blockQ_exit_ne rfl ?_
                        refine cw_region ?_
                        refine ow_y (y_move rfl) rfl rfl rfl ?_
                        refine ow_y (y_add64 rfl rfl (by omega)) rfl rfl rfl ?_
                        refine ow_y (y_assign rfl) rfl rfl rfl ?_
                        refine ow_nil ?_
                        repeat with_reducible first | refine thenQ_ret ?_ | refine thenQ_normal ?_ | refine thenQ_exit ?_ | refine blockQ_ret ?_ | refine blockQ_normal ?_ | refine blockQ_exit_same ?_ | refine blockQ_exit_ne rfl ?_
                        refine ⟨(i + 1), _, ?_, ?_, (by repeat (first | exact EnvLe.nil _ | refine EnvLe.cons rfl ?_)), (by repeat (first | exact Split.nil | (apply Split.cons; · repeat (first | exact Pick.here | apply Pick.there)) | exact Split.whole _ | exact Split.front _ _ rfl | exact Split.back _ _ rfl | exact Split.app_nil _ | apply Split.skip))⟩
                        · omega
                        · omega
                      · simp only [cmpP] at h88
                        refine ow_nil ?_
                        refine cw_if_f rfl ?_
                        refine cw_exit ?_
                        repeat with_reducible first | refine thenQ_ret ?_ | refine thenQ_normal ?_ | refine thenQ_exit ?_ | refine blockQ_ret ?_ | refine blockQ_normal ?_ | refine blockQ_exit_same ?_ | refine blockQ_exit_ne rfl ?_
                        refine cw_regseq ?_
                        refine ow_y (y_move rfl) rfl rfl rfl ?_
                        refine ow_y (y_assign rfl) rfl rfl rfl ?_
                        refine ow_nil ?_
                        refine cw_ret ?_
                        repeat with_reducible first | refine thenQ_ret ?_ | refine thenQ_normal ?_ | refine thenQ_exit ?_ | refine blockQ_ret ?_ | refine blockQ_normal ?_ | refine blockQ_exit_same ?_ | refine blockQ_exit_ne rfl ?_
                        refine body_ret (.one (.tmp rfl)) ?_
                        rfl

end Go.Proofs.YtgppllppddaodaaGreatDoor
