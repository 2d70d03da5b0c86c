/-
  Lemmas and walks that the seat's cards rest on, merged: W15, W16, W17. No statement of the set is proved here.
-/
import Derived.Test.YtgppllppddaodaaGreatDoorB5
import Derived.Test.YtgppllppddaodaaGreatDoorB2
import Derived.Test.YtgppllppddaodaaGreatDoorB1
/-
  The walk of read.
-/
namespace Go.Proofs.YtgppllppddaodaaGreatDoor
open Sl Am
open Go
theorem at_64 : aggT Tryz.prog 64 = true := by kernel_rfl
theorem ct_35 : callT Tryz.prog 35 = true := by kernel_rfl
theorem ct_36 : callT Tryz.prog 36 = true := by kernel_rfl
theorem el_57 : elemT Tryz.prog 57 = some 64 := by kernel_rfl
theorem ft_60_0 : fieldT Tryz.prog 60 0 = some 0 := by kernel_rfl
theorem ft_60_1 : fieldT Tryz.prog 60 1 = some 1 := by kernel_rfl
theorem ft_60_2 : fieldT Tryz.prog 60 2 = some 2 := by kernel_rfl
theorem ms_58 : mapStrT Tryz.prog 58 = some 3 := by kernel_rfl
theorem pp_85 : ptrT Tryz.prog 85 = true := by kernel_rfl
theorem pt_57 : plainT Tryz.prog 57 = true := by kernel_rfl
theorem pt_58 : plainT Tryz.prog 58 = true := by kernel_rfl
theorem rw_57 : rowT Tryz.prog 57 = some (64, 10, 80) := by kernel_rfl
theorem sz_57 : sizeT Tryz.prog 57 = some 1 := by kernel_rfl
theorem sz_64 : sizeT Tryz.prog 64 = some 10 := by kernel_rfl
theorem splitC_mem (c : UInt8) : ∀ (s x : List UInt8), x ∈ splitC c s → x.length ≤ s.length
  | [], x, h => by simp [splitC] at h; subst h; simp
  | a :: l, x, h => by
    unfold splitC at h
    split at h
    · rcases List.mem_cons.1 h with h | h
      · subst h; simp
      · have := splitC_mem c l x h; simp only [List.length_cons]; omega
    · split at h
      · rename_i hd tl heq
        rcases List.mem_cons.1 h with h | h
        · subst h
          have := splitC_mem c l hd (by rw [heq]; exact .head _)
          simp only [List.length_cons]; omega
        · have := splitC_mem c l x (by rw [heq]; exact .tail _ h)
          simp only [List.length_cons]; omega
      · simp only [List.mem_singleton] at h; subst h; simp
theorem splitC_count (c : UInt8) : ∀ s : List UInt8, (splitC c s).length ≤ s.length + 1
  | [] => by simp [splitC]
  | a :: l => by
    have := splitC_count c l
    unfold splitC
    split
    · simp only [List.length_cons]; omega
    · split
      · rename_i hd tl heq; rw [heq] at this; simp only [List.length_cons] at this ⊢; omega
      · simp
theorem own_slice {T : TypeId} {sz n : Nat} {v : Value} {A : Heap} {xs : List Value} (h : OwnS T sz v A n xs) : ∃ a c, v = .slice a n c := by
  cases h with
  | nil => exact ⟨_, _, rfl⟩
  | row b cap n cells xs h1 h2 h3 h4 => exact ⟨_, _, rfl⟩
def kvL (l : List (List UInt8 × Nat)) : List (List UInt8 × Value) := l.map fun p => (p.1, .int .i64 (p.2 : Int))
theorem mgetS_kv (l : List (List UInt8 × Nat)) (k : List UInt8) : mgetS (kvL l) k = (mget l k).map fun n => .int .i64 (n : Int) := by
  induction l with
  | nil => rfl
  | cons p l ih =>
    by_cases h : k = p.1
    · simp [mgetS, mget, kvL, h]
    · simp only [mgetS, mget, kvL, List.map_cons, List.find?_cons] at ih ⊢
      simp only [h, decide_false]
      exact ih
theorem msetS_kv (l : List (List UInt8 × Nat)) (k : List UInt8) (n : Nat) (h : mget l k = none) : msetS (kvL l) k (.int .i64 (n : Int)) = kvL (l ++ [(k, n)]) := by
  induction l with
  | nil => rfl
  | cons p l ih =>
    have hne : ¬ k = p.1 := by intro he; simp [mget, he] at h
    have h2 : mget l k = none := by simpa [mget, hne] using h
    have := ih h2
    simp only [kvL, List.map_cons, List.cons_append, msetS] at this ⊢
    rw [if_neg hne, this]
def flatI (l : List Am.Item) : List Value := (l.map encIt).flatten
theorem flatI_snoc (l : List Am.Item) (i : Am.Item) : flatI (l ++ [i]) = flatI l ++ encIt i := by simp [flatI]
theorem scan_rd {R A : Heap} {x y z : Nat × Obj} (s : List UInt8) (hR : Glob R) (hs : s.length ≤ 268435456) : FnW Tryz.prog 35 [str s] R (x :: y :: z :: A) fun v L' => ∃ At, L' = x :: y :: z :: (A ++ At) ∧ ScanPost s v At :=
  (scan_c R (x :: y :: z :: A) s hR hs).mono fun _v _L' ⟨At, hL, hp⟩ => ⟨At, hL, hp⟩
theorem line_rd {R L F At : Heap} {rb : Nat} {sl : Value} {r : Rd} (n : Int) (hR : Glob R) (hs : TokS (R ++ At) sl r.ts) (hf : Fit r.ts) (hsp : Split L [rdC rb sl r] F) (hA : ∀ p ∈ At, p ∈ F) :
    FnW Tryz.prog 36 [.pointer (some ⟨rb, 0, none⟩), .int .i64 n] R L fun v L' => ∃ sl', ((line r n).2.1 = none ∧ v = .tuple #[str (line r n).1, .pointer none] ∧ L' = rdC rb sl' (line r n).2.2 :: F) ∨ ∃ i bi, (line r n).2.1 = some i ∧ v = .tuple #[str (line r n).1, .pointer (some ⟨bi, 0, none⟩)] ∧ L' = rdC rb sl' (line r n).2.2 :: (bi, cb (encIt i) 64) :: F :=
  ((line_c (R ++ At) rb sl r n (glob_mono hR) hs hf).frame hsp (fun p hp => by
    rcases List.mem_append.1 hp with h | h
    · exact .inl h
    · exact .inr (hA p h))).mono fun v L' ⟨A', ⟨sl', b, h1, h2, _⟩, hL⟩ => by
      refine ⟨sl', ?_⟩
      cases hi : (line r n).2.1 with
      | none => rw [hi] at h1 h2; exact .inl ⟨rfl, h1, by rw [hL, h2]; rfl⟩
      | some i => rw [hi] at h1 h2; exact .inr ⟨i, b, rfl, h1, by rw [hL, h2]; rfl⟩
/-- What read answers. -/
def ReadPost (src : List UInt8) (v : Value) (L' : Heap) : Prop := match read src with
  | .inr (n, e) => v = .tuple #[.pointer none, .int .i64 (n : Int), .int .i64 e] ∧ L' = []
  | .inl p => ∃ bp bm sv es clk A, v = .tuple #[.pointer (some ⟨bp, 0, none⟩), .int .i64 0, .int .i64 0] ∧ L' = (bp, cb [sv, .map (some bm), .int .i64 (p.double : Int)] 60) :: (bm, .map es clk) :: A ∧ OwnS 64 10 sv A p.items.length (flatI p.items) ∧ MapS es (kvL p.labels) ∧ p.items.length ≤ 70000 ∧ p.double ≤ 70000 ∧ ∀ q ∈ p.labels, q.2 ≤ 70000
theorem post_err {src : List UInt8} {n : Nat} {e m : Int} (h : read src = .inr (n, e)) (hm : m = (n : Int)) : ReadPost src (.tuple #[.pointer none, .int .i64 m, .int .i64 e]) [] := by
  rw [ReadPost, h]; exact ⟨by rw [hm], rfl⟩
theorem at_drop {l : List (List UInt8)} {k : Nat} {s : List UInt8} (h : l[k]? = some s) : l.drop k = s :: l.drop (k + 1) := by
  have hlt : k < l.length := by
    rcases Nat.lt_or_ge k l.length with h' | h'
    · exact h'
    · simp [List.getElem?_eq_none h'] at h
  rw [List.getElem?_eq_getElem hlt] at h
  rw [List.drop_eq_getElem_cons hlt, Option.some.inj h]
section
variable {k : Nat} {s : List UInt8} {ls : List (List UInt8)} {p : Pg} {ts : List Tok} {lab : List UInt8} {it : Option Am.Item} {ts3 : List Tok} {rng3 : Bool}
theorem go_none (h : scan s = none) : readGo k (s :: ls) p = .inr (k + 1, 60) := by simp only [readGo, h]
theorem go_syn (h : scan s = some ts) (hl : line ⟨ts, false, false⟩ ((k + 1 : Nat) : Int) = (lab, it, ⟨ts3, true, rng3⟩)) : readGo k (s :: ls) p = .inr (k + 1, 61) := by
  simp only [readGo, h, hl]; rfl
theorem go_rng (h : scan s = some ts) (hl : line ⟨ts, false, false⟩ ((k + 1 : Nat) : Int) = (lab, it, ⟨ts3, false, true⟩)) : readGo k (s :: ls) p = .inr (k + 1, 63) := by
  simp only [readGo, h, hl]; rfl
theorem go_ok (h : scan s = some ts) (hl : line ⟨ts, false, false⟩ ((k + 1 : Nat) : Int) = (lab, it, ⟨ts3, false, false⟩)) : readGo k (s :: ls) p = readGo (k + 1) ls (addItem (addLabel p lab (k + 1)) it) := by
  simp only [readGo, h, hl]; rfl
end
theorem lab_none (p : Pg) (n : Nat) : addLabel p [] n = p := rfl
theorem lab_new {p : Pg} {lab : List UInt8} {n : Nat} (h : lab ≠ []) (hm : mget p.labels lab = none) : addLabel p lab n = { p with labels := p.labels ++ [(lab, p.items.length)] } := by simp [addLabel, h, hm]
theorem lab_dup {p : Pg} {lab : List UInt8} {n : Nat} (h : lab ≠ []) (hm : (mget p.labels lab).isSome = true) (h0 : p.double = 0) : addLabel p lab n = { p with double := n } := by simp [addLabel, h, hm, h0]
theorem lab_dup2 {p : Pg} {lab : List UInt8} {n : Nat} (h : lab ≠ []) (hm : (mget p.labels lab).isSome = true) (h0 : p.double ≠ 0) : addLabel p lab n = p := by simp [addLabel, h, hm, h0]

set_option maxRecDepth 100000 in
set_option maxHeartbeats 4000000 in
theorem read_w : ∀ (R : Heap) (src : List UInt8), Glob R → src.length ≤ 65536 → FnW Tryz.prog 21 [str src] R [] fun v L' => ∃ L'' F, Split L' L'' F ∧ ReadPost src v L'' := by
  intro R src hR hsrc
  obtain ⟨lines, hlines⟩ : ∃ l, l = splitC 10 src := ⟨_, rfl⟩
  have hll := splitC_count 10 src
  rw [← hlines] at hll
  refine fn_of_body Tryz.func21 rfl Tryz.ntmps21 Tryz.results21 (by rfl) ?_
  refine cw_regseq ?_
  refine ow_y (y_assign rfl) rfl rfl rfl ?_
  refine ow_y (y_assign rfl) rfl rfl rfl ?_
  refine ow_y (y_assign rfl) rfl rfl rfl ?_
  refine ow_nil ?_
  refine cw_regseq ?_
  refine ow_makeMap rfl rfl (fun b15 => ?_)
  refine ow_y (y_build (zs := [.slice none 0 0, .map none, .int .i64 0]) (fun i => [(0, 1), (1, 1), (2, 1)][i]?) (by repeat (first | exact EvPs.nil | apply EvPs.cons rfl)) (by repeat (first | exact FillL.nil | (apply FillL.cons rfl rfl rfl; · repeat (first | exact SetLs.nil | (apply SetLs.cons; · repeat (first | exact SetL.here | apply SetL.there)))))) (fun _ => by kernel_rfl)) rfl rfl rfl ?_
  refine ow_box rfl rfl rfl rfl (fun b17 => ?_)
  refine ow_y (y_assign rfl) rfl rfl rfl ?_
  refine ow_nil ?_
  refine cw_seq ?_
  refine cw_regseq ?_
  refine ow_y (y_move rfl) rfl rfl rfl ?_
  refine ow_call rfl rfl (by rfl) ct_26 (split_c R _ hR src 10 (by omega)) ?_
  rintro _ _ ⟨b19, rfl, rfl⟩
  rw [← hlines]
  refine ow_y (y_lenSl rfl el_38) rfl rfl rfl ?_
  refine ow_y (y_move rfl) rfl rfl rfl ?_
  refine ow_nil ?_
  refine cw_block ?_
  refine cw_loop (α := Nat × List Am.Item × List (List UInt8 × Nat) × Nat × Value × Heap × Array MapEntry × Nat) (fun x => [(5, .pointer (some ⟨b17, 0, none⟩)), (19, .slice (some ⟨b19, 0, none⟩) lines.length lines.length), (20, .int .i64 (lines.length : Int)), (21, .int .i64 (x.1 : Int))]) (fun x => (b17, cb [x.2.2.2.2.1, .map (some b15), .int .i64 (x.2.2.2.1 : Int)] 60) :: (b15, .map x.2.2.2.2.2.2.1 x.2.2.2.2.2.2.2) :: (b19, cb (lines.map str) 9) :: x.2.2.2.2.2.1) (fun x => x.1 ≤ lines.length ∧ OwnS 64 10 x.2.2.2.2.1 x.2.2.2.2.2.1 x.2.1.length (flatI x.2.1) ∧ MapS x.2.2.2.2.2.2.1 (kvL x.2.2.1) ∧ readGo x.1 (lines.drop x.1) ⟨x.2.1, x.2.2.1, x.2.2.2.1⟩ = read src ∧ x.2.1.length ≤ x.1 ∧ x.2.2.2.1 ≤ x.1 ∧ (∀ q ∈ x.2.2.1, q.2 ≤ x.1)) (fun x => lines.length - x.1) (0, [], [], 0, .slice none 0 0, [], #[], 0) ?_ (by repeat (first | exact EnvLe.nil _ | refine EnvLe.cons rfl ?_)) (by repeat (first | exact Split.nil | (apply Split.cons; · repeat (first | exact Pick.here | apply Pick.there)) | exact Split.whole _ | exact Split.front _ _ rfl | exact Split.back _ _ rfl | exact Split.app_nil _ | apply Split.skip)) ?_
  · exact ⟨Nat.zero_le _, .nil, rfl, by show _ = readGo 0 (splitC 10 src) ⟨[], [], 0⟩; rw [← hlines]; rfl, by simp, by simp, fun q hq => by cases hq⟩
  · rintro ⟨k, items, labels, dbl, sv, A, es, clk⟩ ⟨hk, hown, hmap, hgo, hil, hdb, hlbs⟩
    simp only at hk hown hmap hgo hil hdb hlbs
    refine cw_regseq ?_
    refine ow_cmp rfl rfl rfl rfl rfl (fun h22 => ?_) (fun h22 => ?_)
    · simp only [cmpP] at h22
      refine ow_nil ?_
      refine cw_seq ?_
      refine cw_if_t rfl ?_
      refine cw_skip ?_
      repeat with_reducible first | refine thenQ_ret ?_ | refine thenQ_normal ?_ | refine thenQ_exit ?_ | refine blockQ_ret ?_ | refine blockQ_normal ?_ | refine blockQ_exit_same ?_ | refine blockQ_exit_ne rfl ?_
      refine cw_seq ?_
      refine cw_block ?_
      refine cw_regseq ?_
      refine ow_y (y_move rfl) rfl rfl rfl ?_
      obtain ⟨s, hs⟩ : ∃ s, lines[k]? = some s := ⟨_, List.getElem?_eq_getElem (by omega)⟩
      have hsle := splitC_mem 10 src s (by rw [← hlines]; exact List.mem_of_getElem? hs)
      have hat : (lines.map str)[0 + k * 1]? = some (str s) := by rw [Nat.zero_add, Nat.mul_one, List.getElem?_map, hs]; rfl
      refine ow_y (y_indexAddr (i := k) rfl rfl el_38 sz_9 (by omega)) rfl rfl rfl ?_
      refine ow_y (y_load rfl pt_9 (by first | (apply In.own; (repeat (first | exact List.Mem.head _ | apply List.Mem.tail)); done) | (apply In.ro; (repeat (first | exact List.Mem.head _ | apply List.Mem.tail)); done)) hat) rfl rfl rfl ?_
      refine ow_y (y_assign rfl) rfl rfl rfl ?_
      refine ow_y (y_assign rfl) rfl rfl rfl ?_
      refine ow_nil ?_
      refine cw_regseq ?_
      refine ow_y (y_move rfl) rfl rfl rfl ?_
      refine ow_call rfl rfl (by rfl) ct_35 (scan_rd s hR (by omega)) ?_
      rintro _ _ ⟨At, rfl, sv2, ts, rfl, hown2, hfit2, hlen2, hscan⟩
      obtain ⟨sa, sc, hsv⟩ := own_slice hown2
      subst hsv
      refine ow_y (y_move rfl) rfl rfl rfl ?_
      refine ow_y (y_extract rfl rfl) rfl rfl rfl ?_
      refine ow_y (y_extract rfl rfl) rfl rfl rfl ?_
      refine ow_y (y_assign rfl) rfl rfl rfl ?_
      refine ow_y (y_assign rfl) rfl rfl rfl ?_
      refine ow_nil ?_
      refine cw_seq ?_
      refine cw_regseq ?_
      refine ow_y (y_move rfl) rfl rfl rfl ?_
      refine ow_y (y_not rfl) rfl rfl rfl ?_
      refine ow_nil ?_
      refine cw_if rfl (fun hc1 => ?_) (fun hc1 => ?_)
      · have hn : scan s = none := by simpa using hc1
        refine cw_regseq ?_
        refine ow_y (y_move rfl) rfl rfl rfl ?_
        refine ow_y (y_add64 rfl rfl (by omega)) rfl rfl rfl ?_
        refine ow_y (y_assign rfl) rfl rfl rfl ?_
        refine ow_y (y_assign rfl) rfl rfl rfl ?_
        refine ow_y (y_assign rfl) rfl rfl rfl ?_
        refine ow_nil ?_
        refine cw_ret ?_
        repeat with_reducible first | refine thenQ_ret ?_ | refine thenQ_normal ?_ | refine thenQ_exit ?_ | refine blockQ_ret ?_ | refine blockQ_normal ?_ | refine blockQ_exit_same ?_ | refine blockQ_exit_ne rfl ?_
        refine body_ret (.three (.tmp rfl) (.tmp rfl) (.tmp rfl)) ?_
        rw [at_drop hs] at hgo
        exact ⟨[], _, .nil, post_err (by rw [← hgo, go_none hn]) rfl⟩
      · have hsc : scan s = some ts := by
          cases hq : scan s with
          | none => simp [hq] at hc1
          | some l => rw [hscan l hq]
        refine cw_skip ?_
        repeat with_reducible first | refine thenQ_ret ?_ | refine thenQ_normal ?_ | refine thenQ_exit ?_ | refine blockQ_ret ?_ | refine blockQ_normal ?_ | refine blockQ_exit_same ?_ | refine blockQ_exit_ne rfl ?_
        refine cw_regseq ?_
        refine ow_y (y_move rfl) rfl rfl rfl ?_
        refine ow_y (y_build (zs := [.slice none 0 0, .bool false, .bool false]) (fun i => [(0, 1), (1, 1), (2, 1)][i]?) (by repeat (first | exact EvPs.nil | apply EvPs.cons rfl)) (by repeat (first | exact FillL.nil | (apply FillL.cons rfl rfl rfl; · repeat (first | exact SetLs.nil | (apply SetLs.cons; · repeat (first | exact SetL.here | apply SetL.there)))))) (fun _ => by kernel_rfl)) rfl rfl rfl ?_
        refine ow_box rfl rfl rfl rfl (fun b37 => ?_)
        refine ow_y (y_assign rfl) rfl rfl rfl ?_
        refine ow_nil ?_
        refine cw_regseq ?_
        refine ow_y (y_move rfl) rfl rfl rfl ?_
        refine ow_y (y_move rfl) rfl rfl rfl ?_
        refine ow_y (y_add64 rfl rfl (by omega)) rfl rfl rfl ?_
        refine ow_call rfl rfl (by rfl) ct_36 (line_rd (At := At) (r := ⟨ts, false, false⟩) ((k + 1 : Nat) : Int) hR (toks_of_own hown2) hfit2 (by repeat (first | exact Split.nil | (apply Split.cons; · repeat (first | exact Pick.here | apply Pick.there)) | exact Split.whole _ | exact Split.front _ _ rfl | exact Split.back _ _ rfl | exact Split.app_nil _ | apply Split.skip)) (by intro p hp; simp [hp])) ?_
        rintro _ _ ⟨sl2, hcase⟩
        generalize hline : line ⟨ts, false, false⟩ ((k + 1 : Nat) : Int) = rl at hcase
        obtain ⟨lab, it, ⟨ts3, syn3, rng3⟩⟩ := rl
        simp only at hcase
        rcases hcase with ⟨hit, rfl, rfl⟩ | ⟨i, bi, hit, rfl, rfl⟩
        · subst hit
          refine ow_y (y_move rfl) rfl rfl rfl ?_
          refine ow_y (y_extract rfl rfl) rfl rfl rfl ?_
          refine ow_y (y_extract rfl rfl) rfl rfl rfl ?_
          refine ow_y (y_assign rfl) rfl rfl rfl ?_
          refine ow_y (y_assign rfl) rfl rfl rfl ?_
          refine ow_nil ?_
          refine cw_seq ?_
          refine cw_block ?_
          refine cw_regseq ?_
          refine ow_y (y_move rfl) rfl rfl rfl ?_
          refine ow_y (y_nilCheck rfl) rfl rfl rfl ?_
          refine ow_y (y_fieldAddr 1 rfl ft_84_1 rfl) rfl rfl rfl ?_
          refine ow_y (y_load rfl pt_4 (by first | (apply In.own; (repeat (first | exact List.Mem.head _ | apply List.Mem.tail)); done) | (apply In.ro; (repeat (first | exact List.Mem.head _ | apply List.Mem.tail)); done)) rfl) rfl rfl rfl ?_
          refine ow_y (y_assign rfl) rfl rfl rfl ?_
          refine ow_nil ?_
          refine cw_if rfl (fun hc2 => ?_) (fun hc2 => ?_)
          · have hsyn : syn3 = _ := hc2
            subst hsyn
            refine cw_regseq ?_
            refine ow_y (y_move rfl) rfl rfl rfl ?_
            refine ow_y (y_add64 rfl rfl (by omega)) rfl rfl rfl ?_
            refine ow_y (y_assign rfl) rfl rfl rfl ?_
            refine ow_y (y_assign rfl) rfl rfl rfl ?_
            refine ow_y (y_assign rfl) rfl rfl rfl ?_
            refine ow_nil ?_
            refine cw_ret ?_
            repeat with_reducible first | refine thenQ_ret ?_ | refine thenQ_normal ?_ | refine thenQ_exit ?_ | refine blockQ_ret ?_ | refine blockQ_normal ?_ | refine blockQ_exit_same ?_ | refine blockQ_exit_ne rfl ?_
            refine body_ret (.three (.tmp rfl) (.tmp rfl) (.tmp rfl)) ?_
            rw [at_drop hs] at hgo
            exact ⟨[], _, .nil, post_err (by rw [← hgo]; exact go_syn hsc hline) rfl⟩
          · have hsyn : syn3 = _ := hc2
            subst hsyn
            refine cw_regseq ?_
            refine ow_y (y_move rfl) rfl rfl rfl ?_
            refine ow_y (y_nilCheck rfl) rfl rfl rfl ?_
            refine ow_y (y_fieldAddr 2 rfl ft_84_2 rfl) rfl rfl rfl ?_
            refine ow_y (y_load rfl pt_4 (by first | (apply In.own; (repeat (first | exact List.Mem.head _ | apply List.Mem.tail)); done) | (apply In.ro; (repeat (first | exact List.Mem.head _ | apply List.Mem.tail)); done)) rfl) rfl rfl rfl ?_
            refine ow_y (y_assign rfl) rfl rfl rfl ?_
            refine ow_nil ?_
            refine cw_if rfl (fun hc3 => ?_) (fun hc3 => ?_)
            · have hrng : rng3 = _ := hc3
              subst hrng
              refine cw_regseq ?_
              refine ow_y (y_move rfl) rfl rfl rfl ?_
              refine ow_y (y_add64 rfl rfl (by omega)) rfl rfl rfl ?_
              refine ow_y (y_assign rfl) rfl rfl rfl ?_
              refine ow_y (y_assign rfl) rfl rfl rfl ?_
              refine ow_y (y_assign rfl) rfl rfl rfl ?_
              refine ow_nil ?_
              refine cw_ret ?_
              repeat with_reducible first | refine thenQ_ret ?_ | refine thenQ_normal ?_ | refine thenQ_exit ?_ | refine blockQ_ret ?_ | refine blockQ_normal ?_ | refine blockQ_exit_same ?_ | refine blockQ_exit_ne rfl ?_
              refine body_ret (.three (.tmp rfl) (.tmp rfl) (.tmp rfl)) ?_
              rw [at_drop hs] at hgo
              exact ⟨[], _, .nil, post_err (by rw [← hgo]; exact go_rng hsc hline) rfl⟩
            · have hrng : rng3 = _ := hc3
              subst hrng
              refine cw_skip ?_
              repeat with_reducible first | refine thenQ_ret ?_ | refine thenQ_normal ?_ | refine thenQ_exit ?_ | refine blockQ_ret ?_ | refine blockQ_normal ?_ | refine blockQ_exit_same ?_ | refine blockQ_exit_ne rfl ?_
              refine cw_seq ?_
              refine cw_regseq ?_
              refine ow_y (y_move rfl) rfl rfl rfl ?_
              refine ow_y (y_nilCheck rfl) rfl rfl rfl ?_
              refine ow_y (y_fieldAddr 1 rfl ft_60_1 rfl) rfl rfl rfl ?_
              refine ow_y (y_load rfl pt_58 (by first | (apply In.own; (repeat (first | exact List.Mem.head _ | apply List.Mem.tail)); done) | (apply In.ro; (repeat (first | exact List.Mem.head _ | apply List.Mem.tail)); done)) rfl) rfl rfl rfl ?_
              refine ow_y (y_move rfl) rfl rfl rfl ?_
              refine ow_y (y_lookupS rfl rfl ms_58 zt_3 (by first | (apply In.own; (repeat (first | exact List.Mem.head _ | apply List.Mem.tail)); done) | (apply In.ro; (repeat (first | exact List.Mem.head _ | apply List.Mem.tail)); done)) hmap) rfl rfl rfl ?_
              refine ow_y (y_move rfl) rfl rfl rfl ?_
              refine ow_y (y_extract rfl rfl) rfl rfl rfl ?_
              refine ow_y (y_extract rfl rfl) rfl rfl rfl ?_
              refine ow_y (y_assign rfl) rfl rfl rfl ?_
              refine ow_y (y_assign rfl) rfl rfl rfl ?_
              refine ow_nil ?_
              refine cw_regseq ?_
              refine ow_y (y_move rfl) rfl rfl rfl ?_
              refine ow_strne rfl rfl rfl rfl (fun h69 => ?_) (fun h69 => ?_)
              · refine ow_y (y_move rfl) rfl rfl rfl ?_
                refine ow_y (y_move rfl) rfl rfl rfl ?_
                refine ow_y (y_pick_t rfl rfl) rfl rfl rfl ?_
                refine ow_nil ?_
                refine cw_if rfl (fun hc4 => ?_) (fun hc4 => ?_)
                · have hmem : (mget labels lab).isSome = true := by have hq := hc4; rw [mgetS_kv] at hq; simpa using hq
                  refine cw_regseq ?_
                  refine ow_y (y_move rfl) rfl rfl rfl ?_
                  refine ow_y (y_nilCheck rfl) rfl rfl rfl ?_
                  refine ow_y (y_fieldAddr 2 rfl ft_60_2 rfl) rfl rfl rfl ?_
                  refine ow_y (y_load rfl pt_3 (by first | (apply In.own; (repeat (first | exact List.Mem.head _ | apply List.Mem.tail)); done) | (apply In.ro; (repeat (first | exact List.Mem.head _ | apply List.Mem.tail)); done)) rfl) rfl rfl rfl ?_
                  refine ow_cmp rfl rfl rfl rfl rfl (fun h77 => ?_) (fun h77 => ?_)
                  · simp only [cmpP] at h77
                    refine ow_nil ?_
                    refine cw_if_t rfl ?_
                    refine cw_region ?_
                    refine ow_y (y_move rfl) rfl rfl rfl ?_
                    refine ow_y (y_move rfl) rfl rfl rfl ?_
                    refine ow_y (y_add64 rfl rfl (by omega)) rfl rfl rfl ?_
                    refine ow_y (y_nilCheck rfl) rfl rfl rfl ?_
                    refine ow_y (y_fieldAddr 2 rfl ft_60_2 rfl) rfl rfl rfl ?_
                    refine ow_store rfl rfl rfl sz_3 rfl (by repeat (first | exact Upd.here | apply Upd.there)) (by repeat (first | exact SetL.here | apply SetL.there)) ?_
                    refine ow_nil ?_
                    repeat with_reducible first | refine thenQ_ret ?_ | refine thenQ_normal ?_ | refine thenQ_exit ?_ | refine blockQ_ret ?_ | refine blockQ_normal ?_ | refine blockQ_exit_same ?_ | refine blockQ_exit_ne rfl ?_
                    refine cw_regseq ?_
                    refine ow_y (y_move rfl) rfl rfl rfl ?_
                    refine ow_ptrne rfl rfl rfl rfl pp_85 ?_
                    refine ow_nil ?_
                    refine cw_if_f rfl ?_
                    refine cw_skip ?_
                    repeat with_reducible first | refine thenQ_ret ?_ | refine thenQ_normal ?_ | refine thenQ_exit ?_ | refine blockQ_ret ?_ | refine blockQ_normal ?_ | refine blockQ_exit_same ?_ | refine blockQ_exit_ne rfl ?_
                    refine cw_region ?_
                    refine ow_y (y_add64 rfl rfl (by omega)) rfl rfl rfl ?_
                    refine ow_y (y_move rfl) rfl rfl rfl ?_
                    refine ow_nil ?_
                    repeat with_reducible first | refine thenQ_ret ?_ | refine thenQ_normal ?_ | refine thenQ_exit ?_ | refine blockQ_ret ?_ | refine blockQ_normal ?_ | refine blockQ_exit_same ?_ | refine blockQ_exit_ne rfl ?_
                    refine ⟨(k + 1, items, labels, (k + 1), sv, A, es, clk), _, ?_, ?_, (by repeat (first | exact EnvLe.nil _ | refine EnvLe.cons rfl ?_)), (by repeat (first | exact Split.nil | (apply Split.cons; · repeat (first | exact Pick.here | apply Pick.there)) | exact Split.whole _ | exact Split.front _ _ rfl | exact Split.back _ _ rfl | exact Split.app_nil _ | apply Split.skip))⟩
                    · refine ⟨by simp only; omega, hown, hmap, ?_, by simp only; omega, by simp only; omega, (fun q hq => Nat.le_succ_of_le (hlbs q hq))⟩
                      have hlb : addLabel ⟨items, labels, dbl⟩ lab (k + 1) = ⟨items, labels, k + 1⟩ := lab_dup h69 hmem (by simp only; omega)
                      rw [← hgo, at_drop hs, go_ok hsc hline, hlb]
                      rfl
                    · simp only; omega
                  · simp only [cmpP] at h77
                    refine ow_nil ?_
                    refine cw_if_f rfl ?_
                    refine cw_skip ?_
                    repeat with_reducible first | refine thenQ_ret ?_ | refine thenQ_normal ?_ | refine thenQ_exit ?_ | refine blockQ_ret ?_ | refine blockQ_normal ?_ | refine blockQ_exit_same ?_ | refine blockQ_exit_ne rfl ?_
                    refine cw_regseq ?_
                    refine ow_y (y_move rfl) rfl rfl rfl ?_
                    refine ow_ptrne rfl rfl rfl rfl pp_85 ?_
                    refine ow_nil ?_
                    refine cw_if_f rfl ?_
                    refine cw_skip ?_
                    repeat with_reducible first | refine thenQ_ret ?_ | refine thenQ_normal ?_ | refine thenQ_exit ?_ | refine blockQ_ret ?_ | refine blockQ_normal ?_ | refine blockQ_exit_same ?_ | refine blockQ_exit_ne rfl ?_
                    refine cw_region ?_
                    refine ow_y (y_add64 rfl rfl (by omega)) rfl rfl rfl ?_
                    refine ow_y (y_move rfl) rfl rfl rfl ?_
                    refine ow_nil ?_
                    repeat with_reducible first | refine thenQ_ret ?_ | refine thenQ_normal ?_ | refine thenQ_exit ?_ | refine blockQ_ret ?_ | refine blockQ_normal ?_ | refine blockQ_exit_same ?_ | refine blockQ_exit_ne rfl ?_
                    refine ⟨(k + 1, items, labels, dbl, sv, A, es, clk), _, ?_, ?_, (by repeat (first | exact EnvLe.nil _ | refine EnvLe.cons rfl ?_)), (by repeat (first | exact Split.nil | (apply Split.cons; · repeat (first | exact Pick.here | apply Pick.there)) | exact Split.whole _ | exact Split.front _ _ rfl | exact Split.back _ _ rfl | exact Split.app_nil _ | apply Split.skip))⟩
                    · refine ⟨by simp only; omega, hown, hmap, ?_, by simp only; omega, by simp only; omega, (fun q hq => Nat.le_succ_of_le (hlbs q hq))⟩
                      have hlb : addLabel ⟨items, labels, dbl⟩ lab (k + 1) = ⟨items, labels, dbl⟩ := lab_dup2 h69 hmem (by simp only; omega)
                      rw [← hgo, at_drop hs, go_ok hsc hline, hlb]
                      rfl
                    · simp only; omega
                · have hmem : mget labels lab = none := by have hq := hc4; rw [mgetS_kv] at hq; simpa using hq
                  refine cw_regseq ?_
                  refine ow_y (y_move rfl) rfl rfl rfl ?_
                  refine ow_strne rfl rfl rfl rfl (fun h84 => ?_) (fun h84 => ?_)
                  · refine ow_nil ?_
                    refine cw_if_t rfl ?_
                    refine cw_draw [(b17, cb [sv, .map (some b15), .int .i64 (dbl : Int)] 60)] (by kernel_rfl) rfl ?_
                    refine any_take 0 rfl (by kernel_rfl) (by kernel_rfl) (by kernel_rfl) rfl rfl rfl (by repeat (first | exact Split.nil | (apply Split.cons; · repeat (first | exact Pick.here | apply Pick.there)) | exact Split.whole _ | exact Split.front _ _ rfl | exact Split.back _ _ rfl | exact Split.app_nil _ | apply Split.skip)) (y_move rfl) ?_
                    refine any_take 1 rfl (by kernel_rfl) (by kernel_rfl) (by kernel_rfl) rfl rfl rfl (by repeat (first | exact Split.nil | (apply Split.cons; · repeat (first | exact Pick.here | apply Pick.there)) | exact Split.whole _ | exact Split.front _ _ rfl | exact Split.back _ _ rfl | exact Split.app_nil _ | apply Split.skip)) (y_nilCheck rfl) ?_
                    refine any_take 2 rfl (by kernel_rfl) (by kernel_rfl) (by kernel_rfl) rfl rfl rfl (by repeat (first | exact Split.nil | (apply Split.cons; · repeat (first | exact Pick.here | apply Pick.there)) | exact Split.whole _ | exact Split.front _ _ rfl | exact Split.back _ _ rfl | exact Split.app_nil _ | apply Split.skip)) (y_fieldAddr 1 rfl ft_60_1 rfl) ?_
                    refine any_take 3 rfl (by kernel_rfl) (by kernel_rfl) (by kernel_rfl) rfl rfl rfl (by repeat (first | exact Split.nil | (apply Split.cons; · repeat (first | exact Pick.here | apply Pick.there)) | exact Split.whole _ | exact Split.front _ _ rfl | exact Split.back _ _ rfl | exact Split.app_nil _ | apply Split.skip)) (y_load rfl pt_58 (by first | (apply In.own; (repeat (first | exact List.Mem.head _ | apply List.Mem.tail)); done) | (apply In.ro; (repeat (first | exact List.Mem.head _ | apply List.Mem.tail)); done)) rfl) ?_
                    refine any_take 4 rfl (by kernel_rfl) (by kernel_rfl) (by kernel_rfl) rfl rfl rfl (by repeat (first | exact Split.nil | (apply Split.cons; · repeat (first | exact Pick.here | apply Pick.there)) | exact Split.whole _ | exact Split.front _ _ rfl | exact Split.back _ _ rfl | exact Split.app_nil _ | apply Split.skip)) (y_move rfl) ?_
                    refine any_take 5 rfl (by kernel_rfl) (by kernel_rfl) (by kernel_rfl) rfl rfl rfl (by repeat (first | exact Split.nil | (apply Split.cons; · repeat (first | exact Pick.here | apply Pick.there)) | exact Split.whole _ | exact Split.front _ _ rfl | exact Split.back _ _ rfl | exact Split.app_nil _ | apply Split.skip)) (y_move rfl) ?_
                    refine any_take 6 rfl (by kernel_rfl) (by kernel_rfl) (by kernel_rfl) rfl rfl rfl (by repeat (first | exact Split.nil | (apply Split.cons; · repeat (first | exact Pick.here | apply Pick.there)) | exact Split.whole _ | exact Split.front _ _ rfl | exact Split.back _ _ rfl | exact Split.app_nil _ | apply Split.skip)) (y_nilCheck rfl) ?_
                    refine any_take 7 rfl (by kernel_rfl) (by kernel_rfl) (by kernel_rfl) rfl rfl rfl (by repeat (first | exact Split.nil | (apply Split.cons; · repeat (first | exact Pick.here | apply Pick.there)) | exact Split.whole _ | exact Split.front _ _ rfl | exact Split.back _ _ rfl | exact Split.app_nil _ | apply Split.skip)) (y_fieldAddr 0 rfl ft_60_0 rfl) ?_
                    refine any_take 8 rfl (by kernel_rfl) (by kernel_rfl) (by kernel_rfl) rfl rfl rfl (by repeat (first | exact Split.nil | (apply Split.cons; · repeat (first | exact Pick.here | apply Pick.there)) | exact Split.whole _ | exact Split.front _ _ rfl | exact Split.back _ _ rfl | exact Split.app_nil _ | apply Split.skip)) (y_load rfl pt_57 (by first | (apply In.own; (repeat (first | exact List.Mem.head _ | apply List.Mem.tail)); done) | (apply In.ro; (repeat (first | exact List.Mem.head _ | apply List.Mem.tail)); done)) rfl) ?_
                    obtain ⟨ia, ic, hsv0⟩ := own_slice hown
                    refine any_take 9 rfl (by kernel_rfl) (by kernel_rfl) (by kernel_rfl) rfl rfl rfl (by repeat (first | exact Split.nil | (apply Split.cons; · repeat (first | exact Pick.here | apply Pick.there)) | exact Split.whole _ | exact Split.front _ _ rfl | exact Split.back _ _ rfl | exact Split.app_nil _ | apply Split.skip)) (y_lenSl (congrArg some hsv0) el_57) ?_
                    refine any_one 10 rfl (by kernel_rfl) ?_
                    refine ow_mapUpdateS rfl rfl rfl rfl ms_58 (by repeat (first | exact Pick.here | apply Pick.there)) hmap (fun es2 clk2 hk2 => ?_)
                    refine ow_nil ?_
                    refine nextW (by repeat (first | exact Split.nil | (apply Split.cons; · repeat (first | exact Pick.here | apply Pick.there)) | exact Split.whole _ | exact Split.front _ _ rfl | exact Split.back _ _ rfl | exact Split.app_nil _ | apply Split.skip)) ?_
                    refine any_done (by kernel_rfl) ?_
                    repeat with_reducible first | refine thenQ_ret ?_ | refine thenQ_normal ?_ | refine thenQ_exit ?_ | refine blockQ_ret ?_ | refine blockQ_normal ?_ | refine blockQ_exit_same ?_ | refine blockQ_exit_ne rfl ?_
                    refine cw_regseq ?_
                    refine ow_y (y_move rfl) rfl rfl rfl ?_
                    refine ow_ptrne rfl rfl rfl rfl pp_85 ?_
                    refine ow_nil ?_
                    refine cw_if_f rfl ?_
                    refine cw_skip ?_
                    repeat with_reducible first | refine thenQ_ret ?_ | refine thenQ_normal ?_ | refine thenQ_exit ?_ | refine blockQ_ret ?_ | refine blockQ_normal ?_ | refine blockQ_exit_same ?_ | refine blockQ_exit_ne rfl ?_
                    refine cw_region ?_
                    refine ow_y (y_add64 rfl rfl (by omega)) rfl rfl rfl ?_
                    refine ow_y (y_move rfl) rfl rfl rfl ?_
                    refine ow_nil ?_
                    repeat with_reducible first | refine thenQ_ret ?_ | refine thenQ_normal ?_ | refine thenQ_exit ?_ | refine blockQ_ret ?_ | refine blockQ_normal ?_ | refine blockQ_exit_same ?_ | refine blockQ_exit_ne rfl ?_
                    refine ⟨(k + 1, items, (labels ++ [(lab, items.length)]), dbl, sv, A, es2, clk2), _, ?_, ?_, (by repeat (first | exact EnvLe.nil _ | refine EnvLe.cons rfl ?_)), (by repeat (first | exact Split.nil | (apply Split.cons; · repeat (first | exact Pick.here | apply Pick.there)) | exact Split.whole _ | exact Split.front _ _ rfl | exact Split.back _ _ rfl | exact Split.app_nil _ | apply Split.skip))⟩
                    · refine ⟨by simp only; omega, hown, (by rw [← msetS_kv _ _ _ hmem]; exact hk2), ?_, by simp only; omega, by simp only; omega, (fun q hq => (List.mem_append.1 hq).elim (fun h => Nat.le_succ_of_le (hlbs q h)) (fun h => by rw [List.mem_singleton.1 h]; exact Nat.le_succ_of_le hil))⟩
                      have hlb : addLabel ⟨items, labels, dbl⟩ lab (k + 1) = ⟨items, labels ++ [(lab, items.length)], dbl⟩ := lab_new h69 hmem
                      rw [← hgo, at_drop hs, go_ok hsc hline, hlb]
                      rfl
                    · simp only; omega
                  · exact absurd h84 h69
              · refine ow_y (y_move rfl) rfl rfl rfl ?_
                refine ow_skip rfl rfl rfl ?_
                refine ow_y (y_pick_f rfl rfl) rfl rfl rfl ?_
                refine ow_nil ?_
                refine cw_if_f rfl ?_
                refine cw_regseq ?_
                refine ow_y (y_move rfl) rfl rfl rfl ?_
                refine ow_strne rfl rfl rfl rfl (fun h84 => ?_) (fun h84 => ?_)
                · exact absurd h69 h84
                · refine ow_nil ?_
                  refine cw_if_f rfl ?_
                  refine cw_skip ?_
                  repeat with_reducible first | refine thenQ_ret ?_ | refine thenQ_normal ?_ | refine thenQ_exit ?_ | refine blockQ_ret ?_ | refine blockQ_normal ?_ | refine blockQ_exit_same ?_ | refine blockQ_exit_ne rfl ?_
                  refine cw_regseq ?_
                  refine ow_y (y_move rfl) rfl rfl rfl ?_
                  refine ow_ptrne rfl rfl rfl rfl pp_85 ?_
                  refine ow_nil ?_
                  refine cw_if_f rfl ?_
                  refine cw_skip ?_
                  repeat with_reducible first | refine thenQ_ret ?_ | refine thenQ_normal ?_ | refine thenQ_exit ?_ | refine blockQ_ret ?_ | refine blockQ_normal ?_ | refine blockQ_exit_same ?_ | refine blockQ_exit_ne rfl ?_
                  refine cw_region ?_
                  refine ow_y (y_add64 rfl rfl (by omega)) rfl rfl rfl ?_
                  refine ow_y (y_move rfl) rfl rfl rfl ?_
                  refine ow_nil ?_
                  repeat with_reducible first | refine thenQ_ret ?_ | refine thenQ_normal ?_ | refine thenQ_exit ?_ | refine blockQ_ret ?_ | refine blockQ_normal ?_ | refine blockQ_exit_same ?_ | refine blockQ_exit_ne rfl ?_
                  refine ⟨(k + 1, items, labels, dbl, sv, A, es, clk), _, ?_, ?_, (by repeat (first | exact EnvLe.nil _ | refine EnvLe.cons rfl ?_)), (by repeat (first | exact Split.nil | (apply Split.cons; · repeat (first | exact Pick.here | apply Pick.there)) | exact Split.whole _ | exact Split.front _ _ rfl | exact Split.back _ _ rfl | exact Split.app_nil _ | apply Split.skip))⟩
                  · refine ⟨by simp only; omega, hown, hmap, ?_, by simp only; omega, by simp only; omega, (fun q hq => Nat.le_succ_of_le (hlbs q hq))⟩
                    have hlb : addLabel ⟨items, labels, dbl⟩ lab (k + 1) = ⟨items, labels, dbl⟩ := by rw [h69]; rfl
                    rw [← hgo, at_drop hs, go_ok hsc hline, hlb]
                    rfl
                  · simp only; omega
        · subst hit
          refine ow_y (y_move rfl) rfl rfl rfl ?_
          refine ow_y (y_extract rfl rfl) rfl rfl rfl ?_
          refine ow_y (y_extract rfl rfl) rfl rfl rfl ?_
          refine ow_y (y_assign rfl) rfl rfl rfl ?_
          refine ow_y (y_assign rfl) rfl rfl rfl ?_
          refine ow_nil ?_
          refine cw_seq ?_
          refine cw_block ?_
          refine cw_regseq ?_
          refine ow_y (y_move rfl) rfl rfl rfl ?_
          refine ow_y (y_nilCheck rfl) rfl rfl rfl ?_
          refine ow_y (y_fieldAddr 1 rfl ft_84_1 rfl) rfl rfl rfl ?_
          refine ow_y (y_load rfl pt_4 (by first | (apply In.own; (repeat (first | exact List.Mem.head _ | apply List.Mem.tail)); done) | (apply In.ro; (repeat (first | exact List.Mem.head _ | apply List.Mem.tail)); done)) rfl) rfl rfl rfl ?_
          refine ow_y (y_assign rfl) rfl rfl rfl ?_
          refine ow_nil ?_
          refine cw_if rfl (fun hc5 => ?_) (fun hc5 => ?_)
          · have hsyn : syn3 = _ := hc5
            subst hsyn
            refine cw_regseq ?_
            refine ow_y (y_move rfl) rfl rfl rfl ?_
            refine ow_y (y_add64 rfl rfl (by omega)) rfl rfl rfl ?_
            refine ow_y (y_assign rfl) rfl rfl rfl ?_
            refine ow_y (y_assign rfl) rfl rfl rfl ?_
            refine ow_y (y_assign rfl) rfl rfl rfl ?_
            refine ow_nil ?_
            refine cw_ret ?_
            repeat with_reducible first | refine thenQ_ret ?_ | refine thenQ_normal ?_ | refine thenQ_exit ?_ | refine blockQ_ret ?_ | refine blockQ_normal ?_ | refine blockQ_exit_same ?_ | refine blockQ_exit_ne rfl ?_
            refine body_ret (.three (.tmp rfl) (.tmp rfl) (.tmp rfl)) ?_
            rw [at_drop hs] at hgo
            exact ⟨[], _, .nil, post_err (by rw [← hgo]; exact go_syn hsc hline) rfl⟩
          · have hsyn : syn3 = _ := hc5
            subst hsyn
            refine cw_regseq ?_
            refine ow_y (y_move rfl) rfl rfl rfl ?_
            refine ow_y (y_nilCheck rfl) rfl rfl rfl ?_
            refine ow_y (y_fieldAddr 2 rfl ft_84_2 rfl) rfl rfl rfl ?_
            refine ow_y (y_load rfl pt_4 (by first | (apply In.own; (repeat (first | exact List.Mem.head _ | apply List.Mem.tail)); done) | (apply In.ro; (repeat (first | exact List.Mem.head _ | apply List.Mem.tail)); done)) rfl) rfl rfl rfl ?_
            refine ow_y (y_assign rfl) rfl rfl rfl ?_
            refine ow_nil ?_
            refine cw_if rfl (fun hc6 => ?_) (fun hc6 => ?_)
            · have hrng : rng3 = _ := hc6
              subst hrng
              refine cw_regseq ?_
              refine ow_y (y_move rfl) rfl rfl rfl ?_
              refine ow_y (y_add64 rfl rfl (by omega)) rfl rfl rfl ?_
              refine ow_y (y_assign rfl) rfl rfl rfl ?_
              refine ow_y (y_assign rfl) rfl rfl rfl ?_
              refine ow_y (y_assign rfl) rfl rfl rfl ?_
              refine ow_nil ?_
              refine cw_ret ?_
              repeat with_reducible first | refine thenQ_ret ?_ | refine thenQ_normal ?_ | refine thenQ_exit ?_ | refine blockQ_ret ?_ | refine blockQ_normal ?_ | refine blockQ_exit_same ?_ | refine blockQ_exit_ne rfl ?_
              refine body_ret (.three (.tmp rfl) (.tmp rfl) (.tmp rfl)) ?_
              rw [at_drop hs] at hgo
              exact ⟨[], _, .nil, post_err (by rw [← hgo]; exact go_rng hsc hline) rfl⟩
            · have hrng : rng3 = _ := hc6
              subst hrng
              refine cw_skip ?_
              repeat with_reducible first | refine thenQ_ret ?_ | refine thenQ_normal ?_ | refine thenQ_exit ?_ | refine blockQ_ret ?_ | refine blockQ_normal ?_ | refine blockQ_exit_same ?_ | refine blockQ_exit_ne rfl ?_
              refine cw_seq ?_
              refine cw_regseq ?_
              refine ow_y (y_move rfl) rfl rfl rfl ?_
              refine ow_y (y_nilCheck rfl) rfl rfl rfl ?_
              refine ow_y (y_fieldAddr 1 rfl ft_60_1 rfl) rfl rfl rfl ?_
              refine ow_y (y_load rfl pt_58 (by first | (apply In.own; (repeat (first | exact List.Mem.head _ | apply List.Mem.tail)); done) | (apply In.ro; (repeat (first | exact List.Mem.head _ | apply List.Mem.tail)); done)) rfl) rfl rfl rfl ?_
              refine ow_y (y_move rfl) rfl rfl rfl ?_
              refine ow_y (y_lookupS rfl rfl ms_58 zt_3 (by first | (apply In.own; (repeat (first | exact List.Mem.head _ | apply List.Mem.tail)); done) | (apply In.ro; (repeat (first | exact List.Mem.head _ | apply List.Mem.tail)); done)) hmap) rfl rfl rfl ?_
              refine ow_y (y_move rfl) rfl rfl rfl ?_
              refine ow_y (y_extract rfl rfl) rfl rfl rfl ?_
              refine ow_y (y_extract rfl rfl) rfl rfl rfl ?_
              refine ow_y (y_assign rfl) rfl rfl rfl ?_
              refine ow_y (y_assign rfl) rfl rfl rfl ?_
              refine ow_nil ?_
              refine cw_regseq ?_
              refine ow_y (y_move rfl) rfl rfl rfl ?_
              refine ow_strne rfl rfl rfl rfl (fun h69 => ?_) (fun h69 => ?_)
              · refine ow_y (y_move rfl) rfl rfl rfl ?_
                refine ow_y (y_move rfl) rfl rfl rfl ?_
                refine ow_y (y_pick_t rfl rfl) rfl rfl rfl ?_
                refine ow_nil ?_
                refine cw_if rfl (fun hc7 => ?_) (fun hc7 => ?_)
                · have hmem : (mget labels lab).isSome = true := by have hq := hc7; rw [mgetS_kv] at hq; simpa using hq
                  refine cw_regseq ?_
                  refine ow_y (y_move rfl) rfl rfl rfl ?_
                  refine ow_y (y_nilCheck rfl) rfl rfl rfl ?_
                  refine ow_y (y_fieldAddr 2 rfl ft_60_2 rfl) rfl rfl rfl ?_
                  refine ow_y (y_load rfl pt_3 (by first | (apply In.own; (repeat (first | exact List.Mem.head _ | apply List.Mem.tail)); done) | (apply In.ro; (repeat (first | exact List.Mem.head _ | apply List.Mem.tail)); done)) rfl) rfl rfl rfl ?_
                  refine ow_cmp rfl rfl rfl rfl rfl (fun h77 => ?_) (fun h77 => ?_)
                  · simp only [cmpP] at h77
                    refine ow_nil ?_
                    refine cw_if_t rfl ?_
                    refine cw_region ?_
                    refine ow_y (y_move rfl) rfl rfl rfl ?_
                    refine ow_y (y_move rfl) rfl rfl rfl ?_
                    refine ow_y (y_add64 rfl rfl (by omega)) rfl rfl rfl ?_
                    refine ow_y (y_nilCheck rfl) rfl rfl rfl ?_
                    refine ow_y (y_fieldAddr 2 rfl ft_60_2 rfl) rfl rfl rfl ?_
                    refine ow_store rfl rfl rfl sz_3 rfl (by repeat (first | exact Upd.here | apply Upd.there)) (by repeat (first | exact SetL.here | apply SetL.there)) ?_
                    refine ow_nil ?_
                    repeat with_reducible first | refine thenQ_ret ?_ | refine thenQ_normal ?_ | refine thenQ_exit ?_ | refine blockQ_ret ?_ | refine blockQ_normal ?_ | refine blockQ_exit_same ?_ | refine blockQ_exit_ne rfl ?_
                    refine cw_regseq ?_
                    refine ow_y (y_move rfl) rfl rfl rfl ?_
                    refine ow_ptrne rfl rfl rfl rfl pp_85 ?_
                    refine ow_nil ?_
                    refine cw_if_t rfl ?_
                    refine cw_draw [(bi, cb (encIt i) 64)] (by kernel_rfl) rfl ?_
                    refine any_take 0 rfl (by kernel_rfl) (by kernel_rfl) (by kernel_rfl) rfl rfl rfl (by repeat (first | exact Split.nil | (apply Split.cons; · repeat (first | exact Pick.here | apply Pick.there)) | exact Split.whole _ | exact Split.front _ _ rfl | exact Split.back _ _ rfl | exact Split.app_nil _ | apply Split.skip)) (y_move rfl) ?_
                    refine any_take 1 rfl (by kernel_rfl) (by kernel_rfl) (by kernel_rfl) rfl rfl rfl (by repeat (first | exact Split.nil | (apply Split.cons; · repeat (first | exact Pick.here | apply Pick.there)) | exact Split.whole _ | exact Split.front _ _ rfl | exact Split.back _ _ rfl | exact Split.app_nil _ | apply Split.skip)) (y_move rfl) ?_
                    refine any_take 2 rfl (by kernel_rfl) (by kernel_rfl) (by kernel_rfl) rfl rfl rfl (by repeat (first | exact Split.nil | (apply Split.cons; · repeat (first | exact Pick.here | apply Pick.there)) | exact Split.whole _ | exact Split.front _ _ rfl | exact Split.back _ _ rfl | exact Split.app_nil _ | apply Split.skip)) (y_nilCheck rfl) ?_
                    refine any_take 3 rfl (by kernel_rfl) (by kernel_rfl) (by kernel_rfl) rfl rfl rfl (by repeat (first | exact Split.nil | (apply Split.cons; · repeat (first | exact Pick.here | apply Pick.there)) | exact Split.whole _ | exact Split.front _ _ rfl | exact Split.back _ _ rfl | exact Split.app_nil _ | apply Split.skip)) (y_fieldAddr 0 rfl ft_60_0 rfl) ?_
                    refine any_take 5 rfl (by kernel_rfl) (by kernel_rfl) (by kernel_rfl) rfl rfl rfl (by repeat (first | exact Split.nil | (apply Split.cons; · repeat (first | exact Pick.here | apply Pick.there)) | exact Split.whole _ | exact Split.front _ _ rfl | exact Split.back _ _ rfl | exact Split.app_nil _ | apply Split.skip)) (y_move rfl) ?_
                    refine any_take 6 rfl (by kernel_rfl) (by kernel_rfl) (by kernel_rfl) rfl rfl rfl (by repeat (first | exact Split.nil | (apply Split.cons; · repeat (first | exact Pick.here | apply Pick.there)) | exact Split.whole _ | exact Split.front _ _ rfl | exact Split.back _ _ rfl | exact Split.app_nil _ | apply Split.skip)) (y_nilCheck rfl) ?_
                    refine any_take 7 rfl (by kernel_rfl) (by kernel_rfl) (by kernel_rfl) rfl rfl rfl (by repeat (first | exact Split.nil | (apply Split.cons; · repeat (first | exact Pick.here | apply Pick.there)) | exact Split.whole _ | exact Split.front _ _ rfl | exact Split.back _ _ rfl | exact Split.app_nil _ | apply Split.skip)) (y_loadAgg rfl at_64 sz_64 (by first | (apply In.own; (repeat (first | exact List.Mem.head _ | apply List.Mem.tail)); done) | (apply In.ro; (repeat (first | exact List.Mem.head _ | apply List.Mem.tail)); done)) (by repeat (first | exact Sub.nil | apply Sub.take | apply Sub.skip))) ?_
                    refine any_share (α := Value × Heap) (fun x => [(5, .pointer (some ⟨b17, 0, none⟩)), (19, .slice (some ⟨b19, 0, none⟩) lines.length lines.length), (20, .int .i64 (lines.length : Int)), (21, .int .i64 (k : Int)), (97, .pointer (some ⟨b17, 0, none⟩)), (106, x.1)]) (fun x => (b17, cb [sv, .map (some b15), .int .i64 ((k + 1 : Nat) : Int)] 60) :: (b15, .map es clk) :: (b19, cb (lines.map str) 9) :: (bi, cb (encIt i) 64) :: x.2) (fun x => OwnS 64 10 x.1 x.2 (items.length + 1) (flatI items ++ encIt i)) 3 #[true, true, true, true, true, true, true, true, true, true, false, false, false] ?_ (fun hrest => ?_)
                    · rintro ⟨sv3, A3⟩ hown3
                      simp only at hown3
                      refine any_take 10 rfl (by kernel_rfl) (by kernel_rfl) (by kernel_rfl) rfl rfl rfl (by repeat (first | exact Split.nil | (apply Split.cons; · repeat (first | exact Pick.here | apply Pick.there)) | exact Split.whole _ | exact Split.front _ _ rfl | exact Split.back _ _ rfl | exact Split.app_nil _ | apply Split.skip)) (y_nilCheck rfl) ?_
                      refine any_take 11 rfl (by kernel_rfl) (by kernel_rfl) (by kernel_rfl) rfl rfl rfl (by repeat (first | exact Split.nil | (apply Split.cons; · repeat (first | exact Pick.here | apply Pick.there)) | exact Split.whole _ | exact Split.front _ _ rfl | exact Split.back _ _ rfl | exact Split.app_nil _ | apply Split.skip)) (y_fieldAddr 0 rfl ft_60_0 rfl) ?_
                      refine any_one 12 rfl (by kernel_rfl) ?_
                      refine ow_store rfl rfl rfl sz_57 (OwnS_one hown3) (by repeat (first | exact Upd.here | apply Upd.there)) (by repeat (first | exact SetL.here | apply SetL.there)) ?_
                      refine ow_nil ?_
                      refine nextW (by repeat (first | exact Split.nil | (apply Split.cons; · repeat (first | exact Pick.here | apply Pick.there)) | exact Split.whole _ | exact Split.front _ _ rfl | exact Split.back _ _ rfl | exact Split.app_nil _ | apply Split.skip)) ?_
                      refine any_done (by kernel_rfl) ?_
                      repeat with_reducible first | refine thenQ_ret ?_ | refine thenQ_normal ?_ | refine thenQ_exit ?_ | refine blockQ_ret ?_ | refine blockQ_normal ?_ | refine blockQ_exit_same ?_ | refine blockQ_exit_ne rfl ?_
                      refine cw_region ?_
                      refine ow_y (y_add64 rfl rfl (by omega)) rfl rfl rfl ?_
                      refine ow_y (y_move rfl) rfl rfl rfl ?_
                      refine ow_nil ?_
                      repeat with_reducible first | refine thenQ_ret ?_ | refine thenQ_normal ?_ | refine thenQ_exit ?_ | refine blockQ_ret ?_ | refine blockQ_normal ?_ | refine blockQ_exit_same ?_ | refine blockQ_exit_ne rfl ?_
                      refine ⟨(k + 1, (items ++ [i]), labels, (k + 1), sv3, A3, es, clk), _, ?_, ?_, (by repeat (first | exact EnvLe.nil _ | refine EnvLe.cons rfl ?_)), (by repeat (first | exact Split.nil | (apply Split.cons; · repeat (first | exact Pick.here | apply Pick.there)) | exact Split.whole _ | exact Split.front _ _ rfl | exact Split.back _ _ rfl | exact Split.app_nil _ | apply Split.skip))⟩
                      · refine ⟨by simp only; omega, (by rw [List.length_append, flatI_snoc]; exact hown3), hmap, ?_, by simp only [List.length_append, List.length_cons, List.length_nil]; omega, by simp only; omega, (fun q hq => Nat.le_succ_of_le (hlbs q hq))⟩
                        have hlb : addLabel ⟨items, labels, dbl⟩ lab (k + 1) = ⟨items, labels, k + 1⟩ := lab_dup h69 hmem (by simp only; omega)
                        rw [← hgo, at_drop hs, go_ok hsc hline, hlb]
                        rfl
                      · simp only; omega
                    · refine any_two 4 8 rfl rfl (by kernel_rfl) ?_ ?_
                      · refine ow_y (y_load rfl pt_57 (by first | (apply In.own; (repeat (first | exact List.Mem.head _ | apply List.Mem.tail)); done) | (apply In.ro; (repeat (first | exact List.Mem.head _ | apply List.Mem.tail)); done)) rfl) rfl rfl rfl ?_
                        refine ow_nil ?_
                        refine nextW (by repeat (first | exact Split.nil | (apply Split.cons; · repeat (first | exact Pick.here | apply Pick.there)) | exact Split.whole _ | exact Split.front _ _ rfl | exact Split.back _ _ rfl | exact Split.app_nil _ | apply Split.skip)) ?_
                        refine any_one 8 rfl (by kernel_rfl) ?_
                        refine ow_buildSlice (el := 64) (zs := [.int .i64 0, .int .i64 0, .int .i64 0, .int .i64 0, .int .i64 0, .int .i64 0, .int .i64 0, .string ⟨#[]⟩, .bool false, .int .u32 0]) (fun i => some (i * 10, 10)) rfl rfl (by repeat (first | exact EvPs.nil | apply EvPs.cons rfl)) (by repeat (first | exact FillL.nil | (apply FillL.cons rfl rfl rfl; · repeat (first | exact SetLs.nil | (apply SetLs.cons; · repeat (first | exact SetL.here | apply SetL.there)))))) (fun _ => by kernel_rfl) (fun b105 => ?_)
                        refine ow_nil ?_
                        refine nextW (by repeat (first | exact Split.nil | (apply Split.cons; · repeat (first | exact Pick.here | apply Pick.there)) | exact Split.whole _ | exact Split.front _ _ rfl | exact Split.back _ _ rfl | exact Split.app_nil _ | apply Split.skip)) ?_
                        refine any_one 9 rfl (by kernel_rfl) ?_
                        refine ow_append' (xs := flatI items) (n := items.length) (news := encIt i) rfl rfl rfl rfl rw_57 hown (by repeat (first | exact Split.nil | (apply Split.cons; · repeat (first | exact Pick.here | apply Pick.there)) | exact Split.whole _ | exact Split.front _ _ rfl | exact Split.back _ _ rfl | exact Split.app_nil _ | apply Split.skip)) (by first | (apply In.own; (repeat (first | exact List.Mem.head _ | apply List.Mem.tail)); done) | (apply In.ro; (repeat (first | exact List.Mem.head _ | apply List.Mem.tail)); done)) rfl rfl (by intro u hu; simp only [encIt, List.mem_cons, List.not_mem_nil, or_false] at hu; rcases hu with h | h | h | h | h | h | h | h | h | h <;> subst h <;> rfl) (by omega) (by simp only [maxLen]; omega) (by omega) (fun sv3 A3 hown3 => ?_)
                        refine ow_nil ?_
                        refine nextW (by repeat (first | exact Split.nil | (apply Split.cons; · repeat (first | exact Pick.here | apply Pick.there)) | exact Split.whole _ | exact Split.front _ _ rfl | exact Split.back _ _ rfl | exact Split.app_nil _ | apply Split.skip)) ?_
                        exact any_cut (by kernel_rfl) (by repeat (first | exact EnvLe.nil _ | refine EnvLe.cons rfl ?_)) (by repeat (first | exact Split.nil | (apply Split.cons; · repeat (first | exact Pick.here | apply Pick.there)) | exact Split.whole _ | exact Split.front _ _ rfl | exact Split.back _ _ rfl | exact Split.app_nil _ | apply Split.skip)) (hrest (sv3, A3) hown3)
                      · refine ow_buildSlice (el := 64) (zs := [.int .i64 0, .int .i64 0, .int .i64 0, .int .i64 0, .int .i64 0, .int .i64 0, .int .i64 0, .string ⟨#[]⟩, .bool false, .int .u32 0]) (fun i => some (i * 10, 10)) rfl rfl (by repeat (first | exact EvPs.nil | apply EvPs.cons rfl)) (by repeat (first | exact FillL.nil | (apply FillL.cons rfl rfl rfl; · repeat (first | exact SetLs.nil | (apply SetLs.cons; · repeat (first | exact SetL.here | apply SetL.there)))))) (fun _ => by kernel_rfl) (fun b105 => ?_)
                        refine ow_nil ?_
                        refine nextW (by repeat (first | exact Split.nil | (apply Split.cons; · repeat (first | exact Pick.here | apply Pick.there)) | exact Split.whole _ | exact Split.front _ _ rfl | exact Split.back _ _ rfl | exact Split.app_nil _ | apply Split.skip)) ?_
                        refine any_one 4 rfl (by kernel_rfl) ?_
                        refine ow_y (y_load rfl pt_57 (by first | (apply In.own; (repeat (first | exact List.Mem.head _ | apply List.Mem.tail)); done) | (apply In.ro; (repeat (first | exact List.Mem.head _ | apply List.Mem.tail)); done)) rfl) rfl rfl rfl ?_
                        refine ow_nil ?_
                        refine nextW (by repeat (first | exact Split.nil | (apply Split.cons; · repeat (first | exact Pick.here | apply Pick.there)) | exact Split.whole _ | exact Split.front _ _ rfl | exact Split.back _ _ rfl | exact Split.app_nil _ | apply Split.skip)) ?_
                        refine any_one 9 rfl (by kernel_rfl) ?_
                        refine ow_append' (xs := flatI items) (n := items.length) (news := encIt i) rfl rfl rfl rfl rw_57 hown (by repeat (first | exact Split.nil | (apply Split.cons; · repeat (first | exact Pick.here | apply Pick.there)) | exact Split.whole _ | exact Split.front _ _ rfl | exact Split.back _ _ rfl | exact Split.app_nil _ | apply Split.skip)) (by first | (apply In.own; (repeat (first | exact List.Mem.head _ | apply List.Mem.tail)); done) | (apply In.ro; (repeat (first | exact List.Mem.head _ | apply List.Mem.tail)); done)) rfl rfl (by intro u hu; simp only [encIt, List.mem_cons, List.not_mem_nil, or_false] at hu; rcases hu with h | h | h | h | h | h | h | h | h | h <;> subst h <;> rfl) (by omega) (by simp only [maxLen]; omega) (by omega) (fun sv3 A3 hown3 => ?_)
                        refine ow_nil ?_
                        refine nextW (by repeat (first | exact Split.nil | (apply Split.cons; · repeat (first | exact Pick.here | apply Pick.there)) | exact Split.whole _ | exact Split.front _ _ rfl | exact Split.back _ _ rfl | exact Split.app_nil _ | apply Split.skip)) ?_
                        exact any_cut (by kernel_rfl) (by repeat (first | exact EnvLe.nil _ | refine EnvLe.cons rfl ?_)) (by repeat (first | exact Split.nil | (apply Split.cons; · repeat (first | exact Pick.here | apply Pick.there)) | exact Split.whole _ | exact Split.front _ _ rfl | exact Split.back _ _ rfl | exact Split.app_nil _ | apply Split.skip)) (hrest (sv3, A3) hown3)
                  · simp only [cmpP] at h77
                    refine ow_nil ?_
                    refine cw_if_f rfl ?_
                    refine cw_skip ?_
                    repeat with_reducible first | refine thenQ_ret ?_ | refine thenQ_normal ?_ | refine thenQ_exit ?_ | refine blockQ_ret ?_ | refine blockQ_normal ?_ | refine blockQ_exit_same ?_ | refine blockQ_exit_ne rfl ?_
                    refine cw_regseq ?_
                    refine ow_y (y_move rfl) rfl rfl rfl ?_
                    refine ow_ptrne rfl rfl rfl rfl pp_85 ?_
                    refine ow_nil ?_
                    refine cw_if_t rfl ?_
                    refine cw_draw [(bi, cb (encIt i) 64)] (by kernel_rfl) rfl ?_
                    refine any_take 0 rfl (by kernel_rfl) (by kernel_rfl) (by kernel_rfl) rfl rfl rfl (by repeat (first | exact Split.nil | (apply Split.cons; · repeat (first | exact Pick.here | apply Pick.there)) | exact Split.whole _ | exact Split.front _ _ rfl | exact Split.back _ _ rfl | exact Split.app_nil _ | apply Split.skip)) (y_move rfl) ?_
                    refine any_take 1 rfl (by kernel_rfl) (by kernel_rfl) (by kernel_rfl) rfl rfl rfl (by repeat (first | exact Split.nil | (apply Split.cons; · repeat (first | exact Pick.here | apply Pick.there)) | exact Split.whole _ | exact Split.front _ _ rfl | exact Split.back _ _ rfl | exact Split.app_nil _ | apply Split.skip)) (y_move rfl) ?_
                    refine any_take 2 rfl (by kernel_rfl) (by kernel_rfl) (by kernel_rfl) rfl rfl rfl (by repeat (first | exact Split.nil | (apply Split.cons; · repeat (first | exact Pick.here | apply Pick.there)) | exact Split.whole _ | exact Split.front _ _ rfl | exact Split.back _ _ rfl | exact Split.app_nil _ | apply Split.skip)) (y_nilCheck rfl) ?_
                    refine any_take 3 rfl (by kernel_rfl) (by kernel_rfl) (by kernel_rfl) rfl rfl rfl (by repeat (first | exact Split.nil | (apply Split.cons; · repeat (first | exact Pick.here | apply Pick.there)) | exact Split.whole _ | exact Split.front _ _ rfl | exact Split.back _ _ rfl | exact Split.app_nil _ | apply Split.skip)) (y_fieldAddr 0 rfl ft_60_0 rfl) ?_
                    refine any_take 5 rfl (by kernel_rfl) (by kernel_rfl) (by kernel_rfl) rfl rfl rfl (by repeat (first | exact Split.nil | (apply Split.cons; · repeat (first | exact Pick.here | apply Pick.there)) | exact Split.whole _ | exact Split.front _ _ rfl | exact Split.back _ _ rfl | exact Split.app_nil _ | apply Split.skip)) (y_move rfl) ?_
                    refine any_take 6 rfl (by kernel_rfl) (by kernel_rfl) (by kernel_rfl) rfl rfl rfl (by repeat (first | exact Split.nil | (apply Split.cons; · repeat (first | exact Pick.here | apply Pick.there)) | exact Split.whole _ | exact Split.front _ _ rfl | exact Split.back _ _ rfl | exact Split.app_nil _ | apply Split.skip)) (y_nilCheck rfl) ?_
                    refine any_take 7 rfl (by kernel_rfl) (by kernel_rfl) (by kernel_rfl) rfl rfl rfl (by repeat (first | exact Split.nil | (apply Split.cons; · repeat (first | exact Pick.here | apply Pick.there)) | exact Split.whole _ | exact Split.front _ _ rfl | exact Split.back _ _ rfl | exact Split.app_nil _ | apply Split.skip)) (y_loadAgg rfl at_64 sz_64 (by first | (apply In.own; (repeat (first | exact List.Mem.head _ | apply List.Mem.tail)); done) | (apply In.ro; (repeat (first | exact List.Mem.head _ | apply List.Mem.tail)); done)) (by repeat (first | exact Sub.nil | apply Sub.take | apply Sub.skip))) ?_
                    refine any_share (α := Value × Heap) (fun x => [(5, .pointer (some ⟨b17, 0, none⟩)), (19, .slice (some ⟨b19, 0, none⟩) lines.length lines.length), (20, .int .i64 (lines.length : Int)), (21, .int .i64 (k : Int)), (97, .pointer (some ⟨b17, 0, none⟩)), (106, x.1)]) (fun x => (b17, cb [sv, .map (some b15), .int .i64 (dbl : Int)] 60) :: (b15, .map es clk) :: (b19, cb (lines.map str) 9) :: (bi, cb (encIt i) 64) :: x.2) (fun x => OwnS 64 10 x.1 x.2 (items.length + 1) (flatI items ++ encIt i)) 3 #[true, true, true, true, true, true, true, true, true, true, false, false, false] ?_ (fun hrest => ?_)
                    · rintro ⟨sv3, A3⟩ hown3
                      simp only at hown3
                      refine any_take 10 rfl (by kernel_rfl) (by kernel_rfl) (by kernel_rfl) rfl rfl rfl (by repeat (first | exact Split.nil | (apply Split.cons; · repeat (first | exact Pick.here | apply Pick.there)) | exact Split.whole _ | exact Split.front _ _ rfl | exact Split.back _ _ rfl | exact Split.app_nil _ | apply Split.skip)) (y_nilCheck rfl) ?_
                      refine any_take 11 rfl (by kernel_rfl) (by kernel_rfl) (by kernel_rfl) rfl rfl rfl (by repeat (first | exact Split.nil | (apply Split.cons; · repeat (first | exact Pick.here | apply Pick.there)) | exact Split.whole _ | exact Split.front _ _ rfl | exact Split.back _ _ rfl | exact Split.app_nil _ | apply Split.skip)) (y_fieldAddr 0 rfl ft_60_0 rfl) ?_
                      refine any_one 12 rfl (by kernel_rfl) ?_
                      refine ow_store rfl rfl rfl sz_57 (OwnS_one hown3) (by repeat (first | exact Upd.here | apply Upd.there)) (by repeat (first | exact SetL.here | apply SetL.there)) ?_
                      refine ow_nil ?_
                      refine nextW (by repeat (first | exact Split.nil | (apply Split.cons; · repeat (first | exact Pick.here | apply Pick.there)) | exact Split.whole _ | exact Split.front _ _ rfl | exact Split.back _ _ rfl | exact Split.app_nil _ | apply Split.skip)) ?_
                      refine any_done (by kernel_rfl) ?_
                      repeat with_reducible first | refine thenQ_ret ?_ | refine thenQ_normal ?_ | refine thenQ_exit ?_ | refine blockQ_ret ?_ | refine blockQ_normal ?_ | refine blockQ_exit_same ?_ | refine blockQ_exit_ne rfl ?_
                      refine cw_region ?_
                      refine ow_y (y_add64 rfl rfl (by omega)) rfl rfl rfl ?_
                      refine ow_y (y_move rfl) rfl rfl rfl ?_
                      refine ow_nil ?_
                      repeat with_reducible first | refine thenQ_ret ?_ | refine thenQ_normal ?_ | refine thenQ_exit ?_ | refine blockQ_ret ?_ | refine blockQ_normal ?_ | refine blockQ_exit_same ?_ | refine blockQ_exit_ne rfl ?_
                      refine ⟨(k + 1, (items ++ [i]), labels, dbl, sv3, A3, es, clk), _, ?_, ?_, (by repeat (first | exact EnvLe.nil _ | refine EnvLe.cons rfl ?_)), (by repeat (first | exact Split.nil | (apply Split.cons; · repeat (first | exact Pick.here | apply Pick.there)) | exact Split.whole _ | exact Split.front _ _ rfl | exact Split.back _ _ rfl | exact Split.app_nil _ | apply Split.skip))⟩
                      · refine ⟨by simp only; omega, (by rw [List.length_append, flatI_snoc]; exact hown3), hmap, ?_, by simp only [List.length_append, List.length_cons, List.length_nil]; omega, by simp only; omega, (fun q hq => Nat.le_succ_of_le (hlbs q hq))⟩
                        have hlb : addLabel ⟨items, labels, dbl⟩ lab (k + 1) = ⟨items, labels, dbl⟩ := lab_dup2 h69 hmem (by simp only; omega)
                        rw [← hgo, at_drop hs, go_ok hsc hline, hlb]
                        rfl
                      · simp only; omega
                    · refine any_two 4 8 rfl rfl (by kernel_rfl) ?_ ?_
                      · refine ow_y (y_load rfl pt_57 (by first | (apply In.own; (repeat (first | exact List.Mem.head _ | apply List.Mem.tail)); done) | (apply In.ro; (repeat (first | exact List.Mem.head _ | apply List.Mem.tail)); done)) rfl) rfl rfl rfl ?_
                        refine ow_nil ?_
                        refine nextW (by repeat (first | exact Split.nil | (apply Split.cons; · repeat (first | exact Pick.here | apply Pick.there)) | exact Split.whole _ | exact Split.front _ _ rfl | exact Split.back _ _ rfl | exact Split.app_nil _ | apply Split.skip)) ?_
                        refine any_one 8 rfl (by kernel_rfl) ?_
                        refine ow_buildSlice (el := 64) (zs := [.int .i64 0, .int .i64 0, .int .i64 0, .int .i64 0, .int .i64 0, .int .i64 0, .int .i64 0, .string ⟨#[]⟩, .bool false, .int .u32 0]) (fun i => some (i * 10, 10)) rfl rfl (by repeat (first | exact EvPs.nil | apply EvPs.cons rfl)) (by repeat (first | exact FillL.nil | (apply FillL.cons rfl rfl rfl; · repeat (first | exact SetLs.nil | (apply SetLs.cons; · repeat (first | exact SetL.here | apply SetL.there)))))) (fun _ => by kernel_rfl) (fun b105 => ?_)
                        refine ow_nil ?_
                        refine nextW (by repeat (first | exact Split.nil | (apply Split.cons; · repeat (first | exact Pick.here | apply Pick.there)) | exact Split.whole _ | exact Split.front _ _ rfl | exact Split.back _ _ rfl | exact Split.app_nil _ | apply Split.skip)) ?_
                        refine any_one 9 rfl (by kernel_rfl) ?_
                        refine ow_append' (xs := flatI items) (n := items.length) (news := encIt i) rfl rfl rfl rfl rw_57 hown (by repeat (first | exact Split.nil | (apply Split.cons; · repeat (first | exact Pick.here | apply Pick.there)) | exact Split.whole _ | exact Split.front _ _ rfl | exact Split.back _ _ rfl | exact Split.app_nil _ | apply Split.skip)) (by first | (apply In.own; (repeat (first | exact List.Mem.head _ | apply List.Mem.tail)); done) | (apply In.ro; (repeat (first | exact List.Mem.head _ | apply List.Mem.tail)); done)) rfl rfl (by intro u hu; simp only [encIt, List.mem_cons, List.not_mem_nil, or_false] at hu; rcases hu with h | h | h | h | h | h | h | h | h | h <;> subst h <;> rfl) (by omega) (by simp only [maxLen]; omega) (by omega) (fun sv3 A3 hown3 => ?_)
                        refine ow_nil ?_
                        refine nextW (by repeat (first | exact Split.nil | (apply Split.cons; · repeat (first | exact Pick.here | apply Pick.there)) | exact Split.whole _ | exact Split.front _ _ rfl | exact Split.back _ _ rfl | exact Split.app_nil _ | apply Split.skip)) ?_
                        exact any_cut (by kernel_rfl) (by repeat (first | exact EnvLe.nil _ | refine EnvLe.cons rfl ?_)) (by repeat (first | exact Split.nil | (apply Split.cons; · repeat (first | exact Pick.here | apply Pick.there)) | exact Split.whole _ | exact Split.front _ _ rfl | exact Split.back _ _ rfl | exact Split.app_nil _ | apply Split.skip)) (hrest (sv3, A3) hown3)
                      · refine ow_buildSlice (el := 64) (zs := [.int .i64 0, .int .i64 0, .int .i64 0, .int .i64 0, .int .i64 0, .int .i64 0, .int .i64 0, .string ⟨#[]⟩, .bool false, .int .u32 0]) (fun i => some (i * 10, 10)) rfl rfl (by repeat (first | exact EvPs.nil | apply EvPs.cons rfl)) (by repeat (first | exact FillL.nil | (apply FillL.cons rfl rfl rfl; · repeat (first | exact SetLs.nil | (apply SetLs.cons; · repeat (first | exact SetL.here | apply SetL.there)))))) (fun _ => by kernel_rfl) (fun b105 => ?_)
                        refine ow_nil ?_
                        refine nextW (by repeat (first | exact Split.nil | (apply Split.cons; · repeat (first | exact Pick.here | apply Pick.there)) | exact Split.whole _ | exact Split.front _ _ rfl | exact Split.back _ _ rfl | exact Split.app_nil _ | apply Split.skip)) ?_
                        refine any_one 4 rfl (by kernel_rfl) ?_
                        refine ow_y (y_load rfl pt_57 (by first | (apply In.own; (repeat (first | exact List.Mem.head _ | apply List.Mem.tail)); done) | (apply In.ro; (repeat (first | exact List.Mem.head _ | apply List.Mem.tail)); done)) rfl) rfl rfl rfl ?_
                        refine ow_nil ?_
                        refine nextW (by repeat (first | exact Split.nil | (apply Split.cons; · repeat (first | exact Pick.here | apply Pick.there)) | exact Split.whole _ | exact Split.front _ _ rfl | exact Split.back _ _ rfl | exact Split.app_nil _ | apply Split.skip)) ?_
                        refine any_one 9 rfl (by kernel_rfl) ?_
                        refine ow_append' (xs := flatI items) (n := items.length) (news := encIt i) rfl rfl rfl rfl rw_57 hown (by repeat (first | exact Split.nil | (apply Split.cons; · repeat (first | exact Pick.here | apply Pick.there)) | exact Split.whole _ | exact Split.front _ _ rfl | exact Split.back _ _ rfl | exact Split.app_nil _ | apply Split.skip)) (by first | (apply In.own; (repeat (first | exact List.Mem.head _ | apply List.Mem.tail)); done) | (apply In.ro; (repeat (first | exact List.Mem.head _ | apply List.Mem.tail)); done)) rfl rfl (by intro u hu; simp only [encIt, List.mem_cons, List.not_mem_nil, or_false] at hu; rcases hu with h | h | h | h | h | h | h | h | h | h <;> subst h <;> rfl) (by omega) (by simp only [maxLen]; omega) (by omega) (fun sv3 A3 hown3 => ?_)
                        refine ow_nil ?_
                        refine nextW (by repeat (first | exact Split.nil | (apply Split.cons; · repeat (first | exact Pick.here | apply Pick.there)) | exact Split.whole _ | exact Split.front _ _ rfl | exact Split.back _ _ rfl | exact Split.app_nil _ | apply Split.skip)) ?_
                        exact any_cut (by kernel_rfl) (by repeat (first | exact EnvLe.nil _ | refine EnvLe.cons rfl ?_)) (by repeat (first | exact Split.nil | (apply Split.cons; · repeat (first | exact Pick.here | apply Pick.there)) | exact Split.whole _ | exact Split.front _ _ rfl | exact Split.back _ _ rfl | exact Split.app_nil _ | apply Split.skip)) (hrest (sv3, A3) hown3)
                · have hmem : mget labels lab = none := by have hq := hc7; rw [mgetS_kv] at hq; simpa using hq
                  refine cw_regseq ?_
                  refine ow_y (y_move rfl) rfl rfl rfl ?_
                  refine ow_strne rfl rfl rfl rfl (fun h84 => ?_) (fun h84 => ?_)
                  · refine ow_nil ?_
                    refine cw_if_t rfl ?_
                    refine cw_draw [(b17, cb [sv, .map (some b15), .int .i64 (dbl : Int)] 60)] (by kernel_rfl) rfl ?_
                    refine any_take 0 rfl (by kernel_rfl) (by kernel_rfl) (by kernel_rfl) rfl rfl rfl (by repeat (first | exact Split.nil | (apply Split.cons; · repeat (first | exact Pick.here | apply Pick.there)) | exact Split.whole _ | exact Split.front _ _ rfl | exact Split.back _ _ rfl | exact Split.app_nil _ | apply Split.skip)) (y_move rfl) ?_
                    refine any_take 1 rfl (by kernel_rfl) (by kernel_rfl) (by kernel_rfl) rfl rfl rfl (by repeat (first | exact Split.nil | (apply Split.cons; · repeat (first | exact Pick.here | apply Pick.there)) | exact Split.whole _ | exact Split.front _ _ rfl | exact Split.back _ _ rfl | exact Split.app_nil _ | apply Split.skip)) (y_nilCheck rfl) ?_
                    refine any_take 2 rfl (by kernel_rfl) (by kernel_rfl) (by kernel_rfl) rfl rfl rfl (by repeat (first | exact Split.nil | (apply Split.cons; · repeat (first | exact Pick.here | apply Pick.there)) | exact Split.whole _ | exact Split.front _ _ rfl | exact Split.back _ _ rfl | exact Split.app_nil _ | apply Split.skip)) (y_fieldAddr 1 rfl ft_60_1 rfl) ?_
                    refine any_take 3 rfl (by kernel_rfl) (by kernel_rfl) (by kernel_rfl) rfl rfl rfl (by repeat (first | exact Split.nil | (apply Split.cons; · repeat (first | exact Pick.here | apply Pick.there)) | exact Split.whole _ | exact Split.front _ _ rfl | exact Split.back _ _ rfl | exact Split.app_nil _ | apply Split.skip)) (y_load rfl pt_58 (by first | (apply In.own; (repeat (first | exact List.Mem.head _ | apply List.Mem.tail)); done) | (apply In.ro; (repeat (first | exact List.Mem.head _ | apply List.Mem.tail)); done)) rfl) ?_
                    refine any_take 4 rfl (by kernel_rfl) (by kernel_rfl) (by kernel_rfl) rfl rfl rfl (by repeat (first | exact Split.nil | (apply Split.cons; · repeat (first | exact Pick.here | apply Pick.there)) | exact Split.whole _ | exact Split.front _ _ rfl | exact Split.back _ _ rfl | exact Split.app_nil _ | apply Split.skip)) (y_move rfl) ?_
                    refine any_take 5 rfl (by kernel_rfl) (by kernel_rfl) (by kernel_rfl) rfl rfl rfl (by repeat (first | exact Split.nil | (apply Split.cons; · repeat (first | exact Pick.here | apply Pick.there)) | exact Split.whole _ | exact Split.front _ _ rfl | exact Split.back _ _ rfl | exact Split.app_nil _ | apply Split.skip)) (y_move rfl) ?_
                    refine any_take 6 rfl (by kernel_rfl) (by kernel_rfl) (by kernel_rfl) rfl rfl rfl (by repeat (first | exact Split.nil | (apply Split.cons; · repeat (first | exact Pick.here | apply Pick.there)) | exact Split.whole _ | exact Split.front _ _ rfl | exact Split.back _ _ rfl | exact Split.app_nil _ | apply Split.skip)) (y_nilCheck rfl) ?_
                    refine any_take 7 rfl (by kernel_rfl) (by kernel_rfl) (by kernel_rfl) rfl rfl rfl (by repeat (first | exact Split.nil | (apply Split.cons; · repeat (first | exact Pick.here | apply Pick.there)) | exact Split.whole _ | exact Split.front _ _ rfl | exact Split.back _ _ rfl | exact Split.app_nil _ | apply Split.skip)) (y_fieldAddr 0 rfl ft_60_0 rfl) ?_
                    refine any_take 8 rfl (by kernel_rfl) (by kernel_rfl) (by kernel_rfl) rfl rfl rfl (by repeat (first | exact Split.nil | (apply Split.cons; · repeat (first | exact Pick.here | apply Pick.there)) | exact Split.whole _ | exact Split.front _ _ rfl | exact Split.back _ _ rfl | exact Split.app_nil _ | apply Split.skip)) (y_load rfl pt_57 (by first | (apply In.own; (repeat (first | exact List.Mem.head _ | apply List.Mem.tail)); done) | (apply In.ro; (repeat (first | exact List.Mem.head _ | apply List.Mem.tail)); done)) rfl) ?_
                    obtain ⟨ia, ic, hsv0⟩ := own_slice hown
                    refine any_take 9 rfl (by kernel_rfl) (by kernel_rfl) (by kernel_rfl) rfl rfl rfl (by repeat (first | exact Split.nil | (apply Split.cons; · repeat (first | exact Pick.here | apply Pick.there)) | exact Split.whole _ | exact Split.front _ _ rfl | exact Split.back _ _ rfl | exact Split.app_nil _ | apply Split.skip)) (y_lenSl (congrArg some hsv0) el_57) ?_
                    refine any_one 10 rfl (by kernel_rfl) ?_
                    refine ow_mapUpdateS rfl rfl rfl rfl ms_58 (by repeat (first | exact Pick.here | apply Pick.there)) hmap (fun es2 clk2 hk2 => ?_)
                    refine ow_nil ?_
                    refine nextW (by repeat (first | exact Split.nil | (apply Split.cons; · repeat (first | exact Pick.here | apply Pick.there)) | exact Split.whole _ | exact Split.front _ _ rfl | exact Split.back _ _ rfl | exact Split.app_nil _ | apply Split.skip)) ?_
                    refine any_done (by kernel_rfl) ?_
                    repeat with_reducible first | refine thenQ_ret ?_ | refine thenQ_normal ?_ | refine thenQ_exit ?_ | refine blockQ_ret ?_ | refine blockQ_normal ?_ | refine blockQ_exit_same ?_ | refine blockQ_exit_ne rfl ?_
                    refine cw_regseq ?_
                    refine ow_y (y_move rfl) rfl rfl rfl ?_
                    refine ow_ptrne rfl rfl rfl rfl pp_85 ?_
                    refine ow_nil ?_
                    refine cw_if_t rfl ?_
                    refine cw_draw [(bi, cb (encIt i) 64)] (by kernel_rfl) rfl ?_
                    refine any_take 0 rfl (by kernel_rfl) (by kernel_rfl) (by kernel_rfl) rfl rfl rfl (by repeat (first | exact Split.nil | (apply Split.cons; · repeat (first | exact Pick.here | apply Pick.there)) | exact Split.whole _ | exact Split.front _ _ rfl | exact Split.back _ _ rfl | exact Split.app_nil _ | apply Split.skip)) (y_move rfl) ?_
                    refine any_take 1 rfl (by kernel_rfl) (by kernel_rfl) (by kernel_rfl) rfl rfl rfl (by repeat (first | exact Split.nil | (apply Split.cons; · repeat (first | exact Pick.here | apply Pick.there)) | exact Split.whole _ | exact Split.front _ _ rfl | exact Split.back _ _ rfl | exact Split.app_nil _ | apply Split.skip)) (y_move rfl) ?_
                    refine any_take 2 rfl (by kernel_rfl) (by kernel_rfl) (by kernel_rfl) rfl rfl rfl (by repeat (first | exact Split.nil | (apply Split.cons; · repeat (first | exact Pick.here | apply Pick.there)) | exact Split.whole _ | exact Split.front _ _ rfl | exact Split.back _ _ rfl | exact Split.app_nil _ | apply Split.skip)) (y_nilCheck rfl) ?_
                    refine any_take 3 rfl (by kernel_rfl) (by kernel_rfl) (by kernel_rfl) rfl rfl rfl (by repeat (first | exact Split.nil | (apply Split.cons; · repeat (first | exact Pick.here | apply Pick.there)) | exact Split.whole _ | exact Split.front _ _ rfl | exact Split.back _ _ rfl | exact Split.app_nil _ | apply Split.skip)) (y_fieldAddr 0 rfl ft_60_0 rfl) ?_
                    refine any_take 5 rfl (by kernel_rfl) (by kernel_rfl) (by kernel_rfl) rfl rfl rfl (by repeat (first | exact Split.nil | (apply Split.cons; · repeat (first | exact Pick.here | apply Pick.there)) | exact Split.whole _ | exact Split.front _ _ rfl | exact Split.back _ _ rfl | exact Split.app_nil _ | apply Split.skip)) (y_move rfl) ?_
                    refine any_take 6 rfl (by kernel_rfl) (by kernel_rfl) (by kernel_rfl) rfl rfl rfl (by repeat (first | exact Split.nil | (apply Split.cons; · repeat (first | exact Pick.here | apply Pick.there)) | exact Split.whole _ | exact Split.front _ _ rfl | exact Split.back _ _ rfl | exact Split.app_nil _ | apply Split.skip)) (y_nilCheck rfl) ?_
                    refine any_take 7 rfl (by kernel_rfl) (by kernel_rfl) (by kernel_rfl) rfl rfl rfl (by repeat (first | exact Split.nil | (apply Split.cons; · repeat (first | exact Pick.here | apply Pick.there)) | exact Split.whole _ | exact Split.front _ _ rfl | exact Split.back _ _ rfl | exact Split.app_nil _ | apply Split.skip)) (y_loadAgg rfl at_64 sz_64 (by first | (apply In.own; (repeat (first | exact List.Mem.head _ | apply List.Mem.tail)); done) | (apply In.ro; (repeat (first | exact List.Mem.head _ | apply List.Mem.tail)); done)) (by repeat (first | exact Sub.nil | apply Sub.take | apply Sub.skip))) ?_
                    refine any_share (α := Value × Heap) (fun x => [(5, .pointer (some ⟨b17, 0, none⟩)), (19, .slice (some ⟨b19, 0, none⟩) lines.length lines.length), (20, .int .i64 (lines.length : Int)), (21, .int .i64 (k : Int)), (97, .pointer (some ⟨b17, 0, none⟩)), (106, x.1)]) (fun x => (b17, cb [sv, .map (some b15), .int .i64 (dbl : Int)] 60) :: (b15, .map es2 clk2) :: (b19, cb (lines.map str) 9) :: (bi, cb (encIt i) 64) :: x.2) (fun x => OwnS 64 10 x.1 x.2 (items.length + 1) (flatI items ++ encIt i)) 3 #[true, true, true, true, true, true, true, true, true, true, false, false, false] ?_ (fun hrest => ?_)
                    · rintro ⟨sv3, A3⟩ hown3
                      simp only at hown3
                      refine any_take 10 rfl (by kernel_rfl) (by kernel_rfl) (by kernel_rfl) rfl rfl rfl (by repeat (first | exact Split.nil | (apply Split.cons; · repeat (first | exact Pick.here | apply Pick.there)) | exact Split.whole _ | exact Split.front _ _ rfl | exact Split.back _ _ rfl | exact Split.app_nil _ | apply Split.skip)) (y_nilCheck rfl) ?_
                      refine any_take 11 rfl (by kernel_rfl) (by kernel_rfl) (by kernel_rfl) rfl rfl rfl (by repeat (first | exact Split.nil | (apply Split.cons; · repeat (first | exact Pick.here | apply Pick.there)) | exact Split.whole _ | exact Split.front _ _ rfl | exact Split.back _ _ rfl | exact Split.app_nil _ | apply Split.skip)) (y_fieldAddr 0 rfl ft_60_0 rfl) ?_
                      refine any_one 12 rfl (by kernel_rfl) ?_
                      refine ow_store rfl rfl rfl sz_57 (OwnS_one hown3) (by repeat (first | exact Upd.here | apply Upd.there)) (by repeat (first | exact SetL.here | apply SetL.there)) ?_
                      refine ow_nil ?_
                      refine nextW (by repeat (first | exact Split.nil | (apply Split.cons; · repeat (first | exact Pick.here | apply Pick.there)) | exact Split.whole _ | exact Split.front _ _ rfl | exact Split.back _ _ rfl | exact Split.app_nil _ | apply Split.skip)) ?_
                      refine any_done (by kernel_rfl) ?_
                      repeat with_reducible first | refine thenQ_ret ?_ | refine thenQ_normal ?_ | refine thenQ_exit ?_ | refine blockQ_ret ?_ | refine blockQ_normal ?_ | refine blockQ_exit_same ?_ | refine blockQ_exit_ne rfl ?_
                      refine cw_region ?_
                      refine ow_y (y_add64 rfl rfl (by omega)) rfl rfl rfl ?_
                      refine ow_y (y_move rfl) rfl rfl rfl ?_
                      refine ow_nil ?_
                      repeat with_reducible first | refine thenQ_ret ?_ | refine thenQ_normal ?_ | refine thenQ_exit ?_ | refine blockQ_ret ?_ | refine blockQ_normal ?_ | refine blockQ_exit_same ?_ | refine blockQ_exit_ne rfl ?_
                      refine ⟨(k + 1, (items ++ [i]), (labels ++ [(lab, items.length)]), dbl, sv3, A3, es2, clk2), _, ?_, ?_, (by repeat (first | exact EnvLe.nil _ | refine EnvLe.cons rfl ?_)), (by repeat (first | exact Split.nil | (apply Split.cons; · repeat (first | exact Pick.here | apply Pick.there)) | exact Split.whole _ | exact Split.front _ _ rfl | exact Split.back _ _ rfl | exact Split.app_nil _ | apply Split.skip))⟩
                      · refine ⟨by simp only; omega, (by rw [List.length_append, flatI_snoc]; exact hown3), (by rw [← msetS_kv _ _ _ hmem]; exact hk2), ?_, by simp only [List.length_append, List.length_cons, List.length_nil]; omega, by simp only; omega, (fun q hq => (List.mem_append.1 hq).elim (fun h => Nat.le_succ_of_le (hlbs q h)) (fun h => by rw [List.mem_singleton.1 h]; exact Nat.le_succ_of_le hil))⟩
                        have hlb : addLabel ⟨items, labels, dbl⟩ lab (k + 1) = ⟨items, labels ++ [(lab, items.length)], dbl⟩ := lab_new h69 hmem
                        rw [← hgo, at_drop hs, go_ok hsc hline, hlb]
                        rfl
                      · simp only; omega
                    · refine any_two 4 8 rfl rfl (by kernel_rfl) ?_ ?_
                      · refine ow_y (y_load rfl pt_57 (by first | (apply In.own; (repeat (first | exact List.Mem.head _ | apply List.Mem.tail)); done) | (apply In.ro; (repeat (first | exact List.Mem.head _ | apply List.Mem.tail)); done)) rfl) rfl rfl rfl ?_
                        refine ow_nil ?_
                        refine nextW (by repeat (first | exact Split.nil | (apply Split.cons; · repeat (first | exact Pick.here | apply Pick.there)) | exact Split.whole _ | exact Split.front _ _ rfl | exact Split.back _ _ rfl | exact Split.app_nil _ | apply Split.skip)) ?_
                        refine any_one 8 rfl (by kernel_rfl) ?_
                        refine ow_buildSlice (el := 64) (zs := [.int .i64 0, .int .i64 0, .int .i64 0, .int .i64 0, .int .i64 0, .int .i64 0, .int .i64 0, .string ⟨#[]⟩, .bool false, .int .u32 0]) (fun i => some (i * 10, 10)) rfl rfl (by repeat (first | exact EvPs.nil | apply EvPs.cons rfl)) (by repeat (first | exact FillL.nil | (apply FillL.cons rfl rfl rfl; · repeat (first | exact SetLs.nil | (apply SetLs.cons; · repeat (first | exact SetL.here | apply SetL.there)))))) (fun _ => by kernel_rfl) (fun b105 => ?_)
                        refine ow_nil ?_
                        refine nextW (by repeat (first | exact Split.nil | (apply Split.cons; · repeat (first | exact Pick.here | apply Pick.there)) | exact Split.whole _ | exact Split.front _ _ rfl | exact Split.back _ _ rfl | exact Split.app_nil _ | apply Split.skip)) ?_
                        refine any_one 9 rfl (by kernel_rfl) ?_
                        refine ow_append' (xs := flatI items) (n := items.length) (news := encIt i) rfl rfl rfl rfl rw_57 hown (by repeat (first | exact Split.nil | (apply Split.cons; · repeat (first | exact Pick.here | apply Pick.there)) | exact Split.whole _ | exact Split.front _ _ rfl | exact Split.back _ _ rfl | exact Split.app_nil _ | apply Split.skip)) (by first | (apply In.own; (repeat (first | exact List.Mem.head _ | apply List.Mem.tail)); done) | (apply In.ro; (repeat (first | exact List.Mem.head _ | apply List.Mem.tail)); done)) rfl rfl (by intro u hu; simp only [encIt, List.mem_cons, List.not_mem_nil, or_false] at hu; rcases hu with h | h | h | h | h | h | h | h | h | h <;> subst h <;> rfl) (by omega) (by simp only [maxLen]; omega) (by omega) (fun sv3 A3 hown3 => ?_)
                        refine ow_nil ?_
                        refine nextW (by repeat (first | exact Split.nil | (apply Split.cons; · repeat (first | exact Pick.here | apply Pick.there)) | exact Split.whole _ | exact Split.front _ _ rfl | exact Split.back _ _ rfl | exact Split.app_nil _ | apply Split.skip)) ?_
                        exact any_cut (by kernel_rfl) (by repeat (first | exact EnvLe.nil _ | refine EnvLe.cons rfl ?_)) (by repeat (first | exact Split.nil | (apply Split.cons; · repeat (first | exact Pick.here | apply Pick.there)) | exact Split.whole _ | exact Split.front _ _ rfl | exact Split.back _ _ rfl | exact Split.app_nil _ | apply Split.skip)) (hrest (sv3, A3) hown3)
                      · refine ow_buildSlice (el := 64) (zs := [.int .i64 0, .int .i64 0, .int .i64 0, .int .i64 0, .int .i64 0, .int .i64 0, .int .i64 0, .string ⟨#[]⟩, .bool false, .int .u32 0]) (fun i => some (i * 10, 10)) rfl rfl (by repeat (first | exact EvPs.nil | apply EvPs.cons rfl)) (by repeat (first | exact FillL.nil | (apply FillL.cons rfl rfl rfl; · repeat (first | exact SetLs.nil | (apply SetLs.cons; · repeat (first | exact SetL.here | apply SetL.there)))))) (fun _ => by kernel_rfl) (fun b105 => ?_)
                        refine ow_nil ?_
                        refine nextW (by repeat (first | exact Split.nil | (apply Split.cons; · repeat (first | exact Pick.here | apply Pick.there)) | exact Split.whole _ | exact Split.front _ _ rfl | exact Split.back _ _ rfl | exact Split.app_nil _ | apply Split.skip)) ?_
                        refine any_one 4 rfl (by kernel_rfl) ?_
                        refine ow_y (y_load rfl pt_57 (by first | (apply In.own; (repeat (first | exact List.Mem.head _ | apply List.Mem.tail)); done) | (apply In.ro; (repeat (first | exact List.Mem.head _ | apply List.Mem.tail)); done)) rfl) rfl rfl rfl ?_
                        refine ow_nil ?_
                        refine nextW (by repeat (first | exact Split.nil | (apply Split.cons; · repeat (first | exact Pick.here | apply Pick.there)) | exact Split.whole _ | exact Split.front _ _ rfl | exact Split.back _ _ rfl | exact Split.app_nil _ | apply Split.skip)) ?_
                        refine any_one 9 rfl (by kernel_rfl) ?_
                        refine ow_append' (xs := flatI items) (n := items.length) (news := encIt i) rfl rfl rfl rfl rw_57 hown (by repeat (first | exact Split.nil | (apply Split.cons; · repeat (first | exact Pick.here | apply Pick.there)) | exact Split.whole _ | exact Split.front _ _ rfl | exact Split.back _ _ rfl | exact Split.app_nil _ | apply Split.skip)) (by first | (apply In.own; (repeat (first | exact List.Mem.head _ | apply List.Mem.tail)); done) | (apply In.ro; (repeat (first | exact List.Mem.head _ | apply List.Mem.tail)); done)) rfl rfl (by intro u hu; simp only [encIt, List.mem_cons, List.not_mem_nil, or_false] at hu; rcases hu with h | h | h | h | h | h | h | h | h | h <;> subst h <;> rfl) (by omega) (by simp only [maxLen]; omega) (by omega) (fun sv3 A3 hown3 => ?_)
                        refine ow_nil ?_
                        refine nextW (by repeat (first | exact Split.nil | (apply Split.cons; · repeat (first | exact Pick.here | apply Pick.there)) | exact Split.whole _ | exact Split.front _ _ rfl | exact Split.back _ _ rfl | exact Split.app_nil _ | apply Split.skip)) ?_
                        exact any_cut (by kernel_rfl) (by repeat (first | exact EnvLe.nil _ | refine EnvLe.cons rfl ?_)) (by repeat (first | exact Split.nil | (apply Split.cons; · repeat (first | exact Pick.here | apply Pick.there)) | exact Split.whole _ | exact Split.front _ _ rfl | exact Split.back _ _ rfl | exact Split.app_nil _ | apply Split.skip)) (hrest (sv3, A3) hown3)
                  · exact absurd h84 h69
              · refine ow_y (y_move rfl) rfl rfl rfl ?_
                refine ow_skip rfl rfl rfl ?_
                refine ow_y (y_pick_f rfl rfl) rfl rfl rfl ?_
                refine ow_nil ?_
                refine cw_if_f rfl ?_
                refine cw_regseq ?_
                refine ow_y (y_move rfl) rfl rfl rfl ?_
                refine ow_strne rfl rfl rfl rfl (fun h84 => ?_) (fun h84 => ?_)
                · exact absurd h69 h84
                · refine ow_nil ?_
                  refine cw_if_f rfl ?_
                  refine cw_skip ?_
                  repeat with_reducible first | refine thenQ_ret ?_ | refine thenQ_normal ?_ | refine thenQ_exit ?_ | refine blockQ_ret ?_ | refine blockQ_normal ?_ | refine blockQ_exit_same ?_ | refine blockQ_exit_ne rfl ?_
                  refine cw_regseq ?_
                  refine ow_y (y_move rfl) rfl rfl rfl ?_
                  refine ow_ptrne rfl rfl rfl rfl pp_85 ?_
                  refine ow_nil ?_
                  refine cw_if_t rfl ?_
                  refine cw_draw [(bi, cb (encIt i) 64)] (by kernel_rfl) rfl ?_
                  refine any_take 0 rfl (by kernel_rfl) (by kernel_rfl) (by kernel_rfl) rfl rfl rfl (by repeat (first | exact Split.nil | (apply Split.cons; · repeat (first | exact Pick.here | apply Pick.there)) | exact Split.whole _ | exact Split.front _ _ rfl | exact Split.back _ _ rfl | exact Split.app_nil _ | apply Split.skip)) (y_move rfl) ?_
                  refine any_take 1 rfl (by kernel_rfl) (by kernel_rfl) (by kernel_rfl) rfl rfl rfl (by repeat (first | exact Split.nil | (apply Split.cons; · repeat (first | exact Pick.here | apply Pick.there)) | exact Split.whole _ | exact Split.front _ _ rfl | exact Split.back _ _ rfl | exact Split.app_nil _ | apply Split.skip)) (y_move rfl) ?_
                  refine any_take 2 rfl (by kernel_rfl) (by kernel_rfl) (by kernel_rfl) rfl rfl rfl (by repeat (first | exact Split.nil | (apply Split.cons; · repeat (first | exact Pick.here | apply Pick.there)) | exact Split.whole _ | exact Split.front _ _ rfl | exact Split.back _ _ rfl | exact Split.app_nil _ | apply Split.skip)) (y_nilCheck rfl) ?_
                  refine any_take 3 rfl (by kernel_rfl) (by kernel_rfl) (by kernel_rfl) rfl rfl rfl (by repeat (first | exact Split.nil | (apply Split.cons; · repeat (first | exact Pick.here | apply Pick.there)) | exact Split.whole _ | exact Split.front _ _ rfl | exact Split.back _ _ rfl | exact Split.app_nil _ | apply Split.skip)) (y_fieldAddr 0 rfl ft_60_0 rfl) ?_
                  refine any_take 5 rfl (by kernel_rfl) (by kernel_rfl) (by kernel_rfl) rfl rfl rfl (by repeat (first | exact Split.nil | (apply Split.cons; · repeat (first | exact Pick.here | apply Pick.there)) | exact Split.whole _ | exact Split.front _ _ rfl | exact Split.back _ _ rfl | exact Split.app_nil _ | apply Split.skip)) (y_move rfl) ?_
                  refine any_take 6 rfl (by kernel_rfl) (by kernel_rfl) (by kernel_rfl) rfl rfl rfl (by repeat (first | exact Split.nil | (apply Split.cons; · repeat (first | exact Pick.here | apply Pick.there)) | exact Split.whole _ | exact Split.front _ _ rfl | exact Split.back _ _ rfl | exact Split.app_nil _ | apply Split.skip)) (y_nilCheck rfl) ?_
                  refine any_take 7 rfl (by kernel_rfl) (by kernel_rfl) (by kernel_rfl) rfl rfl rfl (by repeat (first | exact Split.nil | (apply Split.cons; · repeat (first | exact Pick.here | apply Pick.there)) | exact Split.whole _ | exact Split.front _ _ rfl | exact Split.back _ _ rfl | exact Split.app_nil _ | apply Split.skip)) (y_loadAgg rfl at_64 sz_64 (by first | (apply In.own; (repeat (first | exact List.Mem.head _ | apply List.Mem.tail)); done) | (apply In.ro; (repeat (first | exact List.Mem.head _ | apply List.Mem.tail)); done)) (by repeat (first | exact Sub.nil | apply Sub.take | apply Sub.skip))) ?_
                  refine any_share (α := Value × Heap) (fun x => [(5, .pointer (some ⟨b17, 0, none⟩)), (19, .slice (some ⟨b19, 0, none⟩) lines.length lines.length), (20, .int .i64 (lines.length : Int)), (21, .int .i64 (k : Int)), (97, .pointer (some ⟨b17, 0, none⟩)), (106, x.1)]) (fun x => (b17, cb [sv, .map (some b15), .int .i64 (dbl : Int)] 60) :: (b15, .map es clk) :: (b19, cb (lines.map str) 9) :: (bi, cb (encIt i) 64) :: x.2) (fun x => OwnS 64 10 x.1 x.2 (items.length + 1) (flatI items ++ encIt i)) 3 #[true, true, true, true, true, true, true, true, true, true, false, false, false] ?_ (fun hrest => ?_)
                  · rintro ⟨sv3, A3⟩ hown3
                    simp only at hown3
                    refine any_take 10 rfl (by kernel_rfl) (by kernel_rfl) (by kernel_rfl) rfl rfl rfl (by repeat (first | exact Split.nil | (apply Split.cons; · repeat (first | exact Pick.here | apply Pick.there)) | exact Split.whole _ | exact Split.front _ _ rfl | exact Split.back _ _ rfl | exact Split.app_nil _ | apply Split.skip)) (y_nilCheck rfl) ?_
                    refine any_take 11 rfl (by kernel_rfl) (by kernel_rfl) (by kernel_rfl) rfl rfl rfl (by repeat (first | exact Split.nil | (apply Split.cons; · repeat (first | exact Pick.here | apply Pick.there)) | exact Split.whole _ | exact Split.front _ _ rfl | exact Split.back _ _ rfl | exact Split.app_nil _ | apply Split.skip)) (y_fieldAddr 0 rfl ft_60_0 rfl) ?_
                    refine any_one 12 rfl (by kernel_rfl) ?_
                    refine ow_store rfl rfl rfl sz_57 (OwnS_one hown3) (by repeat (first | exact Upd.here | apply Upd.there)) (by repeat (first | exact SetL.here | apply SetL.there)) ?_
                    refine ow_nil ?_
                    refine nextW (by repeat (first | exact Split.nil | (apply Split.cons; · repeat (first | exact Pick.here | apply Pick.there)) | exact Split.whole _ | exact Split.front _ _ rfl | exact Split.back _ _ rfl | exact Split.app_nil _ | apply Split.skip)) ?_
                    refine any_done (by kernel_rfl) ?_
                    repeat with_reducible first | refine thenQ_ret ?_ | refine thenQ_normal ?_ | refine thenQ_exit ?_ | refine blockQ_ret ?_ | refine blockQ_normal ?_ | refine blockQ_exit_same ?_ | refine blockQ_exit_ne rfl ?_
                    refine cw_region ?_
                    refine ow_y (y_add64 rfl rfl (by omega)) rfl rfl rfl ?_
                    refine ow_y (y_move rfl) rfl rfl rfl ?_
                    refine ow_nil ?_
                    repeat with_reducible first | refine thenQ_ret ?_ | refine thenQ_normal ?_ | refine thenQ_exit ?_ | refine blockQ_ret ?_ | refine blockQ_normal ?_ | refine blockQ_exit_same ?_ | refine blockQ_exit_ne rfl ?_
                    refine ⟨(k + 1, (items ++ [i]), labels, dbl, sv3, A3, es, clk), _, ?_, ?_, (by repeat (first | exact EnvLe.nil _ | refine EnvLe.cons rfl ?_)), (by repeat (first | exact Split.nil | (apply Split.cons; · repeat (first | exact Pick.here | apply Pick.there)) | exact Split.whole _ | exact Split.front _ _ rfl | exact Split.back _ _ rfl | exact Split.app_nil _ | apply Split.skip))⟩
                    · refine ⟨by simp only; omega, (by rw [List.length_append, flatI_snoc]; exact hown3), hmap, ?_, by simp only [List.length_append, List.length_cons, List.length_nil]; omega, by simp only; omega, (fun q hq => Nat.le_succ_of_le (hlbs q hq))⟩
                      have hlb : addLabel ⟨items, labels, dbl⟩ lab (k + 1) = ⟨items, labels, dbl⟩ := by rw [h69]; rfl
                      rw [← hgo, at_drop hs, go_ok hsc hline, hlb]
                      rfl
                    · simp only; omega
                  · refine any_two 4 8 rfl rfl (by kernel_rfl) ?_ ?_
                    · refine ow_y (y_load rfl pt_57 (by first | (apply In.own; (repeat (first | exact List.Mem.head _ | apply List.Mem.tail)); done) | (apply In.ro; (repeat (first | exact List.Mem.head _ | apply List.Mem.tail)); done)) rfl) rfl rfl rfl ?_
                      refine ow_nil ?_
                      refine nextW (by repeat (first | exact Split.nil | (apply Split.cons; · repeat (first | exact Pick.here | apply Pick.there)) | exact Split.whole _ | exact Split.front _ _ rfl | exact Split.back _ _ rfl | exact Split.app_nil _ | apply Split.skip)) ?_
                      refine any_one 8 rfl (by kernel_rfl) ?_
                      refine ow_buildSlice (el := 64) (zs := [.int .i64 0, .int .i64 0, .int .i64 0, .int .i64 0, .int .i64 0, .int .i64 0, .int .i64 0, .string ⟨#[]⟩, .bool false, .int .u32 0]) (fun i => some (i * 10, 10)) rfl rfl (by repeat (first | exact EvPs.nil | apply EvPs.cons rfl)) (by repeat (first | exact FillL.nil | (apply FillL.cons rfl rfl rfl; · repeat (first | exact SetLs.nil | (apply SetLs.cons; · repeat (first | exact SetL.here | apply SetL.there)))))) (fun _ => by kernel_rfl) (fun b105 => ?_)
                      refine ow_nil ?_
                      refine nextW (by repeat (first | exact Split.nil | (apply Split.cons; · repeat (first | exact Pick.here | apply Pick.there)) | exact Split.whole _ | exact Split.front _ _ rfl | exact Split.back _ _ rfl | exact Split.app_nil _ | apply Split.skip)) ?_
                      refine any_one 9 rfl (by kernel_rfl) ?_
                      refine ow_append' (xs := flatI items) (n := items.length) (news := encIt i) rfl rfl rfl rfl rw_57 hown (by repeat (first | exact Split.nil | (apply Split.cons; · repeat (first | exact Pick.here | apply Pick.there)) | exact Split.whole _ | exact Split.front _ _ rfl | exact Split.back _ _ rfl | exact Split.app_nil _ | apply Split.skip)) (by first | (apply In.own; (repeat (first | exact List.Mem.head _ | apply List.Mem.tail)); done) | (apply In.ro; (repeat (first | exact List.Mem.head _ | apply List.Mem.tail)); done)) rfl rfl (by intro u hu; simp only [encIt, List.mem_cons, List.not_mem_nil, or_false] at hu; rcases hu with h | h | h | h | h | h | h | h | h | h <;> subst h <;> rfl) (by omega) (by simp only [maxLen]; omega) (by omega) (fun sv3 A3 hown3 => ?_)
                      refine ow_nil ?_
                      refine nextW (by repeat (first | exact Split.nil | (apply Split.cons; · repeat (first | exact Pick.here | apply Pick.there)) | exact Split.whole _ | exact Split.front _ _ rfl | exact Split.back _ _ rfl | exact Split.app_nil _ | apply Split.skip)) ?_
                      exact any_cut (by kernel_rfl) (by repeat (first | exact EnvLe.nil _ | refine EnvLe.cons rfl ?_)) (by repeat (first | exact Split.nil | (apply Split.cons; · repeat (first | exact Pick.here | apply Pick.there)) | exact Split.whole _ | exact Split.front _ _ rfl | exact Split.back _ _ rfl | exact Split.app_nil _ | apply Split.skip)) (hrest (sv3, A3) hown3)
                    · refine ow_buildSlice (el := 64) (zs := [.int .i64 0, .int .i64 0, .int .i64 0, .int .i64 0, .int .i64 0, .int .i64 0, .int .i64 0, .string ⟨#[]⟩, .bool false, .int .u32 0]) (fun i => some (i * 10, 10)) rfl rfl (by repeat (first | exact EvPs.nil | apply EvPs.cons rfl)) (by repeat (first | exact FillL.nil | (apply FillL.cons rfl rfl rfl; · repeat (first | exact SetLs.nil | (apply SetLs.cons; · repeat (first | exact SetL.here | apply SetL.there)))))) (fun _ => by kernel_rfl) (fun b105 => ?_)
                      refine ow_nil ?_
                      refine nextW (by repeat (first | exact Split.nil | (apply Split.cons; · repeat (first | exact Pick.here | apply Pick.there)) | exact Split.whole _ | exact Split.front _ _ rfl | exact Split.back _ _ rfl | exact Split.app_nil _ | apply Split.skip)) ?_
                      refine any_one 4 rfl (by kernel_rfl) ?_
                      refine ow_y (y_load rfl pt_57 (by first | (apply In.own; (repeat (first | exact List.Mem.head _ | apply List.Mem.tail)); done) | (apply In.ro; (repeat (first | exact List.Mem.head _ | apply List.Mem.tail)); done)) rfl) rfl rfl rfl ?_
                      refine ow_nil ?_
                      refine nextW (by repeat (first | exact Split.nil | (apply Split.cons; · repeat (first | exact Pick.here | apply Pick.there)) | exact Split.whole _ | exact Split.front _ _ rfl | exact Split.back _ _ rfl | exact Split.app_nil _ | apply Split.skip)) ?_
                      refine any_one 9 rfl (by kernel_rfl) ?_
                      refine ow_append' (xs := flatI items) (n := items.length) (news := encIt i) rfl rfl rfl rfl rw_57 hown (by repeat (first | exact Split.nil | (apply Split.cons; · repeat (first | exact Pick.here | apply Pick.there)) | exact Split.whole _ | exact Split.front _ _ rfl | exact Split.back _ _ rfl | exact Split.app_nil _ | apply Split.skip)) (by first | (apply In.own; (repeat (first | exact List.Mem.head _ | apply List.Mem.tail)); done) | (apply In.ro; (repeat (first | exact List.Mem.head _ | apply List.Mem.tail)); done)) rfl rfl (by intro u hu; simp only [encIt, List.mem_cons, List.not_mem_nil, or_false] at hu; rcases hu with h | h | h | h | h | h | h | h | h | h <;> subst h <;> rfl) (by omega) (by simp only [maxLen]; omega) (by omega) (fun sv3 A3 hown3 => ?_)
                      refine ow_nil ?_
                      refine nextW (by repeat (first | exact Split.nil | (apply Split.cons; · repeat (first | exact Pick.here | apply Pick.there)) | exact Split.whole _ | exact Split.front _ _ rfl | exact Split.back _ _ rfl | exact Split.app_nil _ | apply Split.skip)) ?_
                      exact any_cut (by kernel_rfl) (by repeat (first | exact EnvLe.nil _ | refine EnvLe.cons rfl ?_)) (by repeat (first | exact Split.nil | (apply Split.cons; · repeat (first | exact Pick.here | apply Pick.there)) | exact Split.whole _ | exact Split.front _ _ rfl | exact Split.back _ _ rfl | exact Split.app_nil _ | apply Split.skip)) (hrest (sv3, A3) hown3)
    · simp only [cmpP] at h22
      refine ow_nil ?_
      refine cw_seq ?_
      refine cw_if_f rfl ?_
      refine cw_exit ?_
      repeat with_reducible first | refine thenQ_ret ?_ | refine thenQ_normal ?_ | refine thenQ_exit ?_ | refine blockQ_ret ?_ | refine blockQ_normal ?_ | refine blockQ_exit_same ?_ | refine blockQ_exit_ne rfl ?_
      refine cw_regseq ?_
      refine ow_y (y_move rfl) rfl rfl rfl ?_
      refine ow_y (y_assign rfl) rfl rfl rfl ?_
      refine ow_y (y_assign rfl) rfl rfl rfl ?_
      refine ow_y (y_assign rfl) rfl rfl rfl ?_
      refine ow_nil ?_
      refine cw_ret ?_
      repeat with_reducible first | refine thenQ_ret ?_ | refine thenQ_normal ?_ | refine thenQ_exit ?_ | refine blockQ_ret ?_ | refine blockQ_normal ?_ | refine blockQ_exit_same ?_ | refine blockQ_exit_ne rfl ?_
      refine body_ret (.three (.tmp rfl) (.tmp rfl) (.tmp rfl)) ?_
      have hkl : k = lines.length := by omega
      subst hkl
      rw [List.drop_length, readGo] at hgo
      refine ⟨(b17, cb [sv, .map (some b15), .int .i64 (dbl : Int)] 60) :: (b15, .map es clk) :: A, _, (by repeat (first | exact Split.nil | (apply Split.cons; · repeat (first | exact Pick.here | apply Pick.there)) | exact Split.whole _ | exact Split.front _ _ rfl | exact Split.back _ _ rfl | exact Split.app_nil _ | apply Split.skip)), ?_⟩
      rw [ReadPost, ← hgo]
      exact ⟨b17, b15, sv, es, clk, A, rfl, rfl, hown, hmap, by simp only; omega, by simp only; omega, fun q hq => by have := hlbs q hq; omega⟩

end Go.Proofs.YtgppllppddaodaaGreatDoor

/-
  The walk of Assemble.
-/
namespace Go.Proofs.YtgppllppddaodaaGreatDoor
open Sl Am
open Go
theorem ct_21 : callT Tryz.prog 21 = true := by kernel_rfl
theorem ct_22 : callT Tryz.prog 22 = true := by kernel_rfl
theorem ft_62_0 : fieldT Tryz.prog 62 0 = some 0 := by kernel_rfl
theorem ft_62_1 : fieldT Tryz.prog 62 1 = some 1 := by kernel_rfl
theorem ft_64_0 : fieldT Tryz.prog 64 0 = some 0 := by kernel_rfl
theorem ft_64_1 : fieldT Tryz.prog 64 1 = some 1 := by kernel_rfl
theorem ft_64_2 : fieldT Tryz.prog 64 2 = some 6 := by kernel_rfl
theorem ft_64_3 : fieldT Tryz.prog 64 3 = some 8 := by kernel_rfl
theorem ft_64_4 : fieldT Tryz.prog 64 4 = some 9 := by kernel_rfl
theorem pt_36 : plainT Tryz.prog 36 = true := by kernel_rfl
theorem rw_22 : rowT Tryz.prog 22 = some (36, 1, 4) := by kernel_rfl
theorem zt_64 : zeroT Tryz.prog 64 = some (.agg #[.int .i64 0, .int .i64 0, .int .i64 0, .int .i64 0, .int .i64 0, .int .i64 0, .int .i64 0, .string ⟨#[]⟩, .bool false, .int .u32 0]) := by kernel_rfl
theorem read_c (R : Heap) (src : List UInt8) (hR : Glob R) (hs : src.length ≤ 65536) : FnW Tryz.prog 21 [str src] R [] (ReadPost src) :=
  (read_w R src hR hs).drop fun _v _L' ⟨L'', F, h1, h2⟩ => ⟨L'', F, h1, h2⟩
theorem y_mul64 {P : Program} {N : Nat} {R : Heap} {e : Env} {L : Heap} {d : Nat} {x y : Operand} {ty pos af g} {t t' : TypeId} {m n : Int} (hx : ev e x = some (.int .i64 m)) (hy : ev e y = some (.int .i64 n)) (hb : -9223372036854775808 ≤ m * n ∧ m * n < 9223372036854775808) : Yld P N R ⟨some d, .binOp .mul t x y t', ty, pos, af, g⟩ e L (.int .i64 (m * n)) := by
  have := y_mul (P := P) (N := N) (R := R) (L := L) (d := d) (ty := ty) (pos := pos) (af := af) (g := g) (t := t) (t' := t') hx hy
  rwa [wrap64_id hb.1 hb.2] at this
theorem readGo_err : ∀ (ls : List (List UInt8)) (k : Nat) (p : Pg) (n : Nat) (e : Int), readGo k ls p = .inr (n, e) → e ≠ 0
  | [], k, p, n, e, h => by cases h
  | s :: ls, k, p, n, e, h => by
    rw [readGo] at h
    split at h
    · cases h; decide
    · dsimp only at h
      split at h
      · cases h; decide
      · split at h
        · cases h; decide
        · exact readGo_err ls _ _ n e h
theorem own_row {T : TypeId} {sz n : Nat} {v : Value} {A : Heap} {xs : List Value} (h : OwnS T sz v A n xs) (h0 : 0 < n) : ∃ b cap cells, v = .slice (some ⟨b, 0, none⟩) n cap ∧ A = [(b, cb cells T)] ∧ n ≤ cap ∧ cells.take (n * sz) = xs := by
  cases h with
  | nil => omega
  | row b cap n cells xs h1 h2 h3 h4 => exact ⟨b, cap, cells, rfl, rfl, h1, h4⟩
theorem sub_of : ∀ (o : Nat) (l vs : List Value) (n : Nat), 0 < n → (l.drop o).take n = vs → vs.length = n → Sub l o n vs
  | 0, l, vs, n, h0, h, hl => by
    rw [List.drop_zero] at h
    exact sub_take n l vs (by have := congrArg List.length h; rw [List.length_take] at this; omega) h
  | o + 1, [], vs, n, h0, h, hl => by
    simp at h; subst h; simp at hl; omega
  | o + 1, v :: l, vs, n, h0, h, hl => .skip (sub_of o l vs n h0 (by simpa using h) hl)
theorem flat_at : ∀ (items : List Am.Item) (k : Nat) (it : Am.Item), items[k]? = some it → ((flatI items).drop (k * 10)).take 10 = encIt it
  | [], k, it, h => by simp at h
  | a :: l, 0, it, h => by
    simp only [List.getElem?_cons_zero, Option.some.injEq] at h
    subst h
    simp [flatI, encIt]
  | a :: l, k + 1, it, h => by
    have ih := flat_at l k it (by simpa using h)
    have : (flatI (a :: l)).drop ((k + 1) * 10) = (flatI l).drop (k * 10) := by
      have e : (k + 1) * 10 = 10 + k * 10 := by omega
      rw [e, ← List.drop_drop]
      congr 1
    rw [this, ih]
theorem sub_item {cells : List Value} {items : List Am.Item} {k : Nat} {it : Am.Item} (hc : cells.take (items.length * 10) = flatI items) (h : items[k]? = some it) : Sub cells (0 + k * 10) 10 (encIt it) := by
  have hlt : k < items.length := by
    rcases Nat.lt_or_ge k items.length with h' | h'
    · exact h'
    · simp [List.getElem?_eq_none h'] at h
  have h1 := flat_at items k it h
  rw [← hc, List.drop_take, List.take_take] at h1
  have e : min 10 (items.length * 10 - k * 10) = 10 := by omega
  rw [e] at h1
  rw [Nat.zero_add]
  exact sub_of _ _ _ _ (by omega) h1 rfl
def u32V (ws : List Int) : List Value := ws.map (Value.int .u32)
/-- What Assemble answers. -/
def AsmPost (base : Int) (src : List UInt8) (v : Value) (A : Heap) : Prop := ∃ sv, v = .tuple #[sv, .int .i64 (assemble base src).2.1, .int .i64 (assemble base src).2.2] ∧ OwnS 36 1 sv A (assemble base src).1.length (u32V (assemble base src).1)
theorem asm_nil {base : Int} {src : List UInt8} {n e : Int} (h : assemble base src = ([], n, e)) : AsmPost base src (.tuple #[.slice none 0 0, .int .i64 n, .int .i64 e]) [] := by
  rw [AsmPost, h]; exact ⟨_, rfl, .nil⟩
theorem asm_arg {base : Int} {src : List UInt8} (h : base < 0 ∨ base ≥ 65536) : assemble base src = ([], 0, 1) := by rw [assemble, if_pos h]
theorem asm_long {base : Int} {src : List UInt8} (h : ¬ (base < 0 ∨ base ≥ 65536)) (h2 : src.length > 4000) : assemble base src = ([], 0, 2) := by rw [assemble, if_neg h, if_pos h2]
theorem asm_err {base : Int} {src : List UInt8} {n : Nat} {e : Int} (h : ¬ (base < 0 ∨ base ≥ 65536)) (h2 : ¬ src.length > 4000) (h3 : Am.read src = .inr (n, e)) : assemble base src = ([], (n : Int), e) := by rw [assemble, if_neg h, if_neg h2, h3]
theorem asm_dbl {base : Int} {src : List UInt8} {p : Pg} (h : ¬ (base < 0 ∨ base ≥ 65536)) (h2 : ¬ src.length > 4000) (h3 : Am.read src = .inl p) (h4 : p.double > 0) : assemble base src = ([], (p.double : Int), 62) := by rw [assemble, if_neg h, if_neg h2, h3]; exact if_pos h4
theorem asm_lab {base : Int} {src : List UInt8} {p : Pg} {n : Int} (h : ¬ (base < 0 ∨ base ≥ 65536)) (h2 : ¬ src.length > 4000) (h3 : Am.read src = .inl p) (h4 : ¬ p.double > 0) (h5 : wordsGo base p p.items [] = .inr n) : assemble base src = ([], n, 62) := by rw [assemble, if_neg h, if_neg h2, h3]; simp only [if_neg h4, h5]
theorem asm_ok {base : Int} {src : List UInt8} {p : Pg} {ws : List Int} (h : ¬ (base < 0 ∨ base ≥ 65536)) (h2 : ¬ src.length > 4000) (h3 : Am.read src = .inl p) (h4 : ¬ p.double > 0) (h5 : wordsGo base p p.items [] = .inl ws) : assemble base src = (ws, 0, 0) := by rw [assemble, if_neg h, if_neg h2, h3]; simp only [if_neg h4, h5]
theorem items_at {l : List Am.Item} {k : Nat} {s : Am.Item} (h : l[k]? = some s) : l.drop k = s :: l.drop (k + 1) := by
  have hlt : k < l.length := by
    rcases Nat.lt_or_ge k l.length with h' | h'
    · exact h'
    · simp [List.getElem?_eq_none h'] at h
  rw [List.getElem?_eq_getElem hlt] at h
  rw [List.drop_eq_getElem_cons hlt, Option.some.inj h]
theorem go_word {base : Int} {p : Pg} {it : Am.Item} {l : List Am.Item} {ws : List Int} {w : Int} (h : itemWord base p it = some w) : wordsGo base p (it :: l) ws = wordsGo base p l (ws ++ [w]) := by rw [wordsGo, h]
theorem go_bad {base : Int} {p : Pg} {it : Am.Item} {l : List Am.Item} {ws : List Int} (h : itemWord base p it = none) : wordsGo base p (it :: l) ws = .inr it.line := by rw [wordsGo, h]
theorem iw_plain {base : Int} {p : Pg} {it : Am.Item} (h : it.plain = true) : itemWord base p it = some it.w := by rw [itemWord, if_pos h]
theorem iw_num {base : Int} {p : Pg} {it : Am.Item} (h : it.plain = false) (h2 : it.v.2 = []) : itemWord base p it = some (encode ⟨it.i.op, it.i.a, it.i.b, it.i.c, it.v.1⟩).1 := by rw [itemWord, if_neg (by rw [h]; simp), if_pos h2]
theorem iw_none {base : Int} {p : Pg} {it : Am.Item} (h : it.plain = false) (h2 : it.v.2 ≠ []) (h3 : mget p.labels it.v.2 = none) : itemWord base p it = none := by rw [itemWord, if_neg (by rw [h]; simp), if_neg h2, h3]
theorem iw_far {base : Int} {p : Pg} {it : Am.Item} {n : Nat} (h : it.plain = false) (h2 : it.v.2 ≠ []) (h3 : mget p.labels it.v.2 = some n) (h4 : base + 4 * n ≥ 65536) : itemWord base p it = none := by rw [itemWord, if_neg (by rw [h]; simp), if_neg h2, h3]; exact if_pos h4
theorem iw_lab {base : Int} {p : Pg} {it : Am.Item} {n : Nat} (h : it.plain = false) (h2 : it.v.2 ≠ []) (h3 : mget p.labels it.v.2 = some n) (h4 : ¬ base + 4 * n ≥ 65536) : itemWord base p it = some (encode ⟨it.i.op, it.i.a, it.i.b, it.i.c, base + 4 * n⟩).1 := by rw [itemWord, if_neg (by rw [h]; simp), if_neg h2, h3]; exact if_neg h4
theorem mget_le {l : List (List UInt8 × Nat)} {k : List UInt8} {n m : Nat} (h : mget l k = some n) (hl : ∀ q ∈ l, q.2 ≤ m) : n ≤ m := by
  unfold mget at h
  cases hf : l.find? (fun p => decide (k = p.1)) with
  | none => rw [hf] at h; cases h
  | some q =>
    rw [hf] at h
    simp only [Option.map_some, Option.some.injEq] at h
    rw [← h]; exact hl q (List.mem_of_find?_eq_some hf)

set_option maxRecDepth 100000 in
set_option maxHeartbeats 4000000 in
theorem asm_w : ∀ (R : Heap) (base : Int) (src : List UInt8), Glob R → FnW Tryz.prog 12 [.int .i64 base, str src] R [] fun v L' => ∃ L'' F, Split L' L'' F ∧ AsmPost base src v L'' := by
  intro R base src hR
  refine fn_of_body Tryz.func12 rfl Tryz.ntmps12 Tryz.results12 (by rfl) ?_
  refine cw_regseq ?_
  refine ow_y (y_assign rfl) rfl rfl rfl ?_
  refine ow_y (y_assign rfl) rfl rfl rfl ?_
  refine ow_y (y_assign rfl) rfl rfl rfl ?_
  refine ow_nil ?_
  refine cw_seq ?_
  refine cw_block ?_
  refine cw_regseq ?_
  refine ow_y (y_move rfl) rfl rfl rfl ?_
  refine ow_cmp rfl rfl rfl rfl rfl (fun h16 => ?_) (fun h16 => ?_)
  · simp only [cmpP] at h16
    refine ow_y (y_move rfl) rfl rfl rfl ?_
    refine ow_skip rfl rfl rfl ?_
    refine ow_skip rfl rfl rfl ?_
    refine ow_y (y_pick_t rfl rfl) rfl rfl rfl ?_
    refine ow_y (y_assign rfl) rfl rfl rfl ?_
    refine ow_nil ?_
    refine cw_if_t rfl ?_
    refine cw_regseq ?_
    refine ow_y (y_assign rfl) rfl rfl rfl ?_
    refine ow_y (y_assign rfl) rfl rfl rfl ?_
    refine ow_y (y_assign rfl) rfl rfl rfl ?_
    refine ow_nil ?_
    refine cw_ret ?_
    repeat with_reducible first | refine thenQ_ret ?_ | refine thenQ_normal ?_ | refine thenQ_exit ?_ | refine blockQ_ret ?_ | refine blockQ_normal ?_ | refine blockQ_exit_same ?_ | refine blockQ_exit_ne rfl ?_
    refine body_ret (.three (.tmp rfl) (.tmp rfl) (.tmp rfl)) ?_
    exact ⟨[], _, .nil, asm_nil (asm_arg (by omega))⟩
  · simp only [cmpP] at h16
    refine ow_y (y_move rfl) rfl rfl rfl ?_
    refine ow_y (y_move rfl) rfl rfl rfl ?_
    refine ow_cmp rfl rfl rfl rfl rfl (fun h19 => ?_) (fun h19 => ?_)
    · simp only [cmpP] at h19
      refine ow_y (y_pick_f rfl rfl) rfl rfl rfl ?_
      refine ow_y (y_assign rfl) rfl rfl rfl ?_
      refine ow_nil ?_
      refine cw_if_t rfl ?_
      refine cw_regseq ?_
      refine ow_y (y_assign rfl) rfl rfl rfl ?_
      refine ow_y (y_assign rfl) rfl rfl rfl ?_
      refine ow_y (y_assign rfl) rfl rfl rfl ?_
      refine ow_nil ?_
      refine cw_ret ?_
      repeat with_reducible first | refine thenQ_ret ?_ | refine thenQ_normal ?_ | refine thenQ_exit ?_ | refine blockQ_ret ?_ | refine blockQ_normal ?_ | refine blockQ_exit_same ?_ | refine blockQ_exit_ne rfl ?_
      refine body_ret (.three (.tmp rfl) (.tmp rfl) (.tmp rfl)) ?_
      exact ⟨[], _, .nil, asm_nil (asm_arg (by omega))⟩
    · simp only [cmpP] at h19
      refine ow_y (y_pick_f rfl rfl) rfl rfl rfl ?_
      refine ow_y (y_assign rfl) rfl rfl rfl ?_
      refine ow_nil ?_
      refine cw_if_f rfl ?_
      refine cw_regseq ?_
      refine ow_y (y_move rfl) rfl rfl rfl ?_
      refine ow_y (y_lenStr rfl st_9) rfl rfl rfl ?_
      refine ow_cmp rfl rfl rfl rfl rfl (fun h24 => ?_) (fun h24 => ?_)
      · simp only [cmpP] at h24
        refine ow_y (y_assign rfl) rfl rfl rfl ?_
        refine ow_nil ?_
        refine cw_if_t rfl ?_
        refine cw_regseq ?_
        refine ow_y (y_assign rfl) rfl rfl rfl ?_
        refine ow_y (y_assign rfl) rfl rfl rfl ?_
        refine ow_y (y_assign rfl) rfl rfl rfl ?_
        refine ow_nil ?_
        refine cw_ret ?_
        repeat with_reducible first | refine thenQ_ret ?_ | refine thenQ_normal ?_ | refine thenQ_exit ?_ | refine blockQ_ret ?_ | refine blockQ_normal ?_ | refine blockQ_exit_same ?_ | refine blockQ_exit_ne rfl ?_
        refine body_ret (.three (.tmp rfl) (.tmp rfl) (.tmp rfl)) ?_
        exact ⟨[], _, .nil, asm_nil (asm_long (by omega) (by omega))⟩
      · simp only [cmpP] at h24
        refine ow_y (y_assign rfl) rfl rfl rfl ?_
        refine ow_nil ?_
        refine cw_if_f rfl ?_
        refine cw_skip ?_
        repeat with_reducible first | refine thenQ_ret ?_ | refine thenQ_normal ?_ | refine thenQ_exit ?_ | refine blockQ_ret ?_ | refine blockQ_normal ?_ | refine blockQ_exit_same ?_ | refine blockQ_exit_ne rfl ?_
        refine cw_regseq ?_
        refine ow_y (y_move rfl) rfl rfl rfl ?_
        refine ow_call rfl rfl (by rfl) ct_21 (read_c R src hR (by omega)) ?_
        intro v L2 hrd
        unfold ReadPost at hrd
        cases hread : Am.read src <;> rw [hread] at hrd
        · rename_i p
          obtain ⟨bp, bm, isv, es, clk, AI, rfl, rfl, hown, hmap, hil, hdb, hlbs⟩ := hrd
          refine ow_y (y_move rfl) rfl rfl rfl ?_
          refine ow_y (y_extract rfl rfl) rfl rfl rfl ?_
          refine ow_y (y_extract rfl rfl) rfl rfl rfl ?_
          refine ow_y (y_extract rfl rfl) rfl rfl rfl ?_
          refine ow_y (y_assign rfl) rfl rfl rfl ?_
          refine ow_y (y_assign rfl) rfl rfl rfl ?_
          refine ow_y (y_assign rfl) rfl rfl rfl ?_
          refine ow_nil ?_
          refine cw_seq ?_
          refine cw_regseq ?_
          refine ow_y (y_move rfl) rfl rfl rfl ?_
          refine ow_cmp_f rfl rfl rfl rfl rfl (by simp only [cmpP]; try omega) ?_
          refine ow_nil ?_
          refine cw_if_f rfl ?_
          refine cw_skip ?_
          repeat with_reducible first | refine thenQ_ret ?_ | refine thenQ_normal ?_ | refine thenQ_exit ?_ | refine blockQ_ret ?_ | refine blockQ_normal ?_ | refine blockQ_exit_same ?_ | refine blockQ_exit_ne rfl ?_
          refine cw_seq ?_
          refine cw_regseq ?_
          refine ow_y (y_move rfl) rfl rfl rfl ?_
          refine ow_y (y_nilCheck rfl) rfl rfl rfl ?_
          refine ow_y (y_fieldAddr 2 rfl ft_60_2 rfl) rfl rfl rfl ?_
          refine ow_y (y_load rfl pt_3 (by first | (apply In.own; (repeat (first | exact List.Mem.head _ | apply List.Mem.tail)); done) | (apply In.ro; (repeat (first | exact List.Mem.head _ | apply List.Mem.tail)); done)) rfl) rfl rfl rfl ?_
          refine ow_cmp rfl rfl rfl rfl rfl (fun h39 => ?_) (fun h39 => ?_)
          · simp only [cmpP] at h39
            refine ow_nil ?_
            refine cw_if_t rfl ?_
            refine cw_drawseq [(bp, cb [isv, .map (some bm), .int .i64 (p.double : Int)] 60)] (by kernel_rfl) rfl ?_
            refine any_take 0 rfl (by kernel_rfl) (by kernel_rfl) (by kernel_rfl) rfl rfl rfl (by repeat (first | exact Split.nil | (apply Split.cons; · repeat (first | exact Pick.here | apply Pick.there)) | exact Split.whole _ | exact Split.front _ _ rfl | exact Split.back _ _ rfl | exact Split.app_nil _ | apply Split.skip)) (y_move rfl) ?_
            refine any_take 1 rfl (by kernel_rfl) (by kernel_rfl) (by kernel_rfl) rfl rfl rfl (by repeat (first | exact Split.nil | (apply Split.cons; · repeat (first | exact Pick.here | apply Pick.there)) | exact Split.whole _ | exact Split.front _ _ rfl | exact Split.back _ _ rfl | exact Split.app_nil _ | apply Split.skip)) (y_nilCheck rfl) ?_
            refine any_take 2 rfl (by kernel_rfl) (by kernel_rfl) (by kernel_rfl) rfl rfl rfl (by repeat (first | exact Split.nil | (apply Split.cons; · repeat (first | exact Pick.here | apply Pick.there)) | exact Split.whole _ | exact Split.front _ _ rfl | exact Split.back _ _ rfl | exact Split.app_nil _ | apply Split.skip)) (y_fieldAddr 2 rfl ft_60_2 rfl) ?_
            refine any_take 3 rfl (by kernel_rfl) (by kernel_rfl) (by kernel_rfl) rfl rfl rfl (by repeat (first | exact Split.nil | (apply Split.cons; · repeat (first | exact Pick.here | apply Pick.there)) | exact Split.whole _ | exact Split.front _ _ rfl | exact Split.back _ _ rfl | exact Split.app_nil _ | apply Split.skip)) (y_load rfl pt_3 (by first | (apply In.own; (repeat (first | exact List.Mem.head _ | apply List.Mem.tail)); done) | (apply In.ro; (repeat (first | exact List.Mem.head _ | apply List.Mem.tail)); done)) rfl) ?_
            refine any_take 4 rfl (by kernel_rfl) (by kernel_rfl) (by kernel_rfl) rfl rfl rfl (by repeat (first | exact Split.nil | (apply Split.cons; · repeat (first | exact Pick.here | apply Pick.there)) | exact Split.whole _ | exact Split.front _ _ rfl | exact Split.back _ _ rfl | exact Split.app_nil _ | apply Split.skip)) (y_assign rfl) ?_
            refine any_take 5 rfl (by kernel_rfl) (by kernel_rfl) (by kernel_rfl) rfl rfl rfl (by repeat (first | exact Split.nil | (apply Split.cons; · repeat (first | exact Pick.here | apply Pick.there)) | exact Split.whole _ | exact Split.front _ _ rfl | exact Split.back _ _ rfl | exact Split.app_nil _ | apply Split.skip)) (y_assign rfl) ?_
            refine any_take 6 rfl (by kernel_rfl) (by kernel_rfl) (by kernel_rfl) rfl rfl rfl (by repeat (first | exact Split.nil | (apply Split.cons; · repeat (first | exact Pick.here | apply Pick.there)) | exact Split.whole _ | exact Split.front _ _ rfl | exact Split.back _ _ rfl | exact Split.app_nil _ | apply Split.skip)) (y_assign rfl) ?_
            refine any_done (by kernel_rfl) ?_
            refine cw_ret ?_
            repeat with_reducible first | refine thenQ_ret ?_ | refine thenQ_normal ?_ | refine thenQ_exit ?_ | refine blockQ_ret ?_ | refine blockQ_normal ?_ | refine blockQ_exit_same ?_ | refine blockQ_exit_ne rfl ?_
            refine body_ret (.three (.tmp rfl) (.tmp rfl) (.tmp rfl)) ?_
            exact ⟨[], _, .nil, asm_nil (asm_dbl (by omega) (by omega) hread (by omega))⟩
          · simp only [cmpP] at h39
            refine ow_nil ?_
            refine cw_if_f rfl ?_
            refine cw_skip ?_
            repeat with_reducible first | refine thenQ_ret ?_ | refine thenQ_normal ?_ | refine thenQ_exit ?_ | refine blockQ_ret ?_ | refine blockQ_normal ?_ | refine blockQ_exit_same ?_ | refine blockQ_exit_ne rfl ?_
            refine cw_seq ?_
            refine cw_regseq ?_
            refine ow_y (y_move rfl) rfl rfl rfl ?_
            refine ow_y (y_nilCheck rfl) rfl rfl rfl ?_
            refine ow_y (y_fieldAddr 0 rfl ft_60_0 rfl) rfl rfl rfl ?_
            refine ow_y (y_load rfl pt_57 (by first | (apply In.own; (repeat (first | exact List.Mem.head _ | apply List.Mem.tail)); done) | (apply In.ro; (repeat (first | exact List.Mem.head _ | apply List.Mem.tail)); done)) rfl) rfl rfl rfl ?_
            obtain ⟨ia, ic, hsv0⟩ := own_slice hown
            refine ow_y (y_lenSl (congrArg some hsv0) el_57) rfl rfl rfl ?_
            refine ow_y (y_move rfl) rfl rfl rfl ?_
            refine ow_nil ?_
            refine cw_block ?_
            refine cw_loop (α := Nat × List Int × Value × Heap) (fun x => [(0, .int .i64 base), (4, x.2.2.1), (7, .pointer (some ⟨bp, 0, none⟩)), (47, isv), (48, .int .i64 (p.items.length : Int)), (49, .int .i64 (x.1 : Int))]) (fun x => (bp, cb [isv, .map (some bm), .int .i64 (p.double : Int)] 60) :: (bm, .map es clk) :: (AI ++ x.2.2.2)) (fun x => x.1 ≤ p.items.length ∧ OwnS 36 1 x.2.2.1 x.2.2.2 x.2.1.length (u32V x.2.1) ∧ wordsGo base p (p.items.drop x.1) x.2.1 = wordsGo base p p.items [] ∧ x.2.1.length ≤ x.1) (fun x => p.items.length - x.1) (0, [], .slice none 0 0, []) ?_ (by repeat (first | exact EnvLe.nil _ | refine EnvLe.cons rfl ?_)) (by repeat (first | exact Split.nil | (apply Split.cons; · repeat (first | exact Pick.here | apply Pick.there)) | exact Split.whole _ | exact Split.front _ _ rfl | exact Split.back _ _ rfl | exact Split.app_nil _ | apply Split.skip)) ?_
            · exact ⟨Nat.zero_le _, .nil, by rw [List.drop_zero], by simp⟩
            · rintro ⟨k, ws, sv2, A2⟩ ⟨hk, hown2, hgo, hwl⟩
              simp only at hk hown2 hgo hwl
              refine cw_regseq ?_
              refine ow_cmp rfl rfl rfl rfl rfl (fun h50 => ?_) (fun h50 => ?_)
              · simp only [cmpP] at h50
                refine ow_nil ?_
                refine cw_seq ?_
                refine cw_if_t rfl ?_
                refine cw_skip ?_
                repeat with_reducible first | refine thenQ_ret ?_ | refine thenQ_normal ?_ | refine thenQ_exit ?_ | refine blockQ_ret ?_ | refine blockQ_normal ?_ | refine blockQ_exit_same ?_ | refine blockQ_exit_ne rfl ?_
                refine cw_seq ?_
                refine cw_block ?_
                refine cw_regseq ?_
                obtain ⟨it, hit⟩ : ∃ it, p.items[k]? = some it := ⟨_, List.getElem?_eq_getElem (by omega)⟩
                obtain ⟨ib, icap, cells, hisv, hAI, hcap, hcells⟩ := own_row hown (by omega)
                subst hisv
                subst hAI
                have hsub := sub_item hcells hit
                refine ow_y (y_indexAddr (i := k) rfl rfl el_57 sz_64 (by omega)) rfl rfl rfl ?_
                refine ow_y (y_loadAgg rfl at_64 sz_64 (by first | (apply In.own; (repeat (first | exact List.Mem.head _ | apply List.Mem.tail)); done) | (apply In.ro; (repeat (first | exact List.Mem.head _ | apply List.Mem.tail)); done)) hsub) rfl rfl rfl ?_
                refine ow_alloc rfl rfl zt_64 rfl (fun b9 => ?_)
                refine ow_storeAgg rfl rfl rfl sz_64 rfl rfl (by repeat (first | exact Upd.here | apply Upd.there)) (by repeat (first | exact SetLs.nil | (apply SetLs.cons; · repeat (first | exact SetL.here | apply SetL.there)))) ?_
                refine ow_nil ?_
                refine cw_seq ?_
                refine cw_regseq ?_
                refine ow_y (y_fieldAddr 8 rfl ft_64_3 rfl) rfl rfl rfl ?_
                refine ow_y (y_load rfl pt_4 (by first | (apply In.own; (repeat (first | exact List.Mem.head _ | apply List.Mem.tail)); done) | (apply In.ro; (repeat (first | exact List.Mem.head _ | apply List.Mem.tail)); done)) rfl) rfl rfl rfl ?_
                refine ow_nil ?_
                refine cw_if rfl (fun hc1 => ?_) (fun hc1 => ?_)
                · have hpl : it.plain = _ := hc1
                  refine cw_regseq ?_
                  refine ow_y (y_move rfl) rfl rfl rfl ?_
                  refine ow_y (y_fieldAddr 9 rfl ft_64_4 rfl) rfl rfl rfl ?_
                  refine ow_y (y_load rfl pt_36 (by first | (apply In.own; (repeat (first | exact List.Mem.head _ | apply List.Mem.tail)); done) | (apply In.ro; (repeat (first | exact List.Mem.head _ | apply List.Mem.tail)); done)) rfl) rfl rfl rfl ?_
                  refine ow_buildSlice (el := 36) (zs := [.int .u32 0]) (fun i => some (i * 1, 1)) rfl rfl (by repeat (first | exact EvPs.nil | apply EvPs.cons rfl)) (by repeat (first | exact FillL.nil | (apply FillL.cons rfl rfl rfl; · repeat (first | exact SetLs.nil | (apply SetLs.cons; · repeat (first | exact SetL.here | apply SetL.there)))))) (fun _ => by kernel_rfl) (fun b58 => ?_)
                  refine ow_append' (xs := u32V ws) (n := ws.length) (news := [.int .u32 (it.w)]) rfl rfl rfl rfl rw_22 hown2 (by repeat (first | exact Split.nil | (apply Split.cons; · repeat (first | exact Pick.here | apply Pick.there)) | exact Split.whole _ | exact Split.front _ _ rfl | exact Split.back _ _ rfl | exact Split.app_nil _ | apply Split.skip)) (by first | (apply In.own; (repeat (first | exact List.Mem.head _ | apply List.Mem.tail)); done) | (apply In.ro; (repeat (first | exact List.Mem.head _ | apply List.Mem.tail)); done)) rfl rfl (by intro u hu; simp only [List.mem_singleton] at hu; subst hu; rfl) (by omega) (by simp only [maxLen]; omega) (by omega) (fun sv3 A3 hown3 => ?_)
                  refine ow_y (y_assign rfl) rfl rfl rfl ?_
                  refine ow_nil ?_
                  refine cw_exit ?_
                  repeat with_reducible first | refine thenQ_ret ?_ | refine thenQ_normal ?_ | refine thenQ_exit ?_ | refine blockQ_ret ?_ | refine blockQ_normal ?_ | refine blockQ_exit_same ?_ | refine blockQ_exit_ne rfl ?_
                  refine cw_region ?_
                  refine ow_y (y_add64 rfl rfl (by omega)) rfl rfl rfl ?_
                  refine ow_y (y_move rfl) rfl rfl rfl ?_
                  refine ow_nil ?_
                  repeat with_reducible first | refine thenQ_ret ?_ | refine thenQ_normal ?_ | refine thenQ_exit ?_ | refine blockQ_ret ?_ | refine blockQ_normal ?_ | refine blockQ_exit_same ?_ | refine blockQ_exit_ne rfl ?_
                  refine ⟨(k + 1, ws ++ [it.w], sv3, A3), _, ?_, ?_, (by repeat (first | exact EnvLe.nil _ | refine EnvLe.cons rfl ?_)), (by repeat (first | exact Split.nil | (apply Split.cons; · repeat (first | exact Pick.here | apply Pick.there)) | exact Split.whole _ | exact Split.front _ _ rfl | exact Split.back _ _ rfl | exact Split.app_nil _ | apply Split.skip))⟩
                  · refine ⟨by simp only; omega, by simp only [List.length_append, u32V, List.map_append]; exact hown3, ?_, by simp only [List.length_append, List.length_cons, List.length_nil]; omega⟩
                    simp only
                    rw [← hgo, items_at hit, go_word (iw_plain hpl)]
                  · simp only; omega
                · have hpl : it.plain = _ := hc1
                  refine cw_skip ?_
                  repeat with_reducible first | refine thenQ_ret ?_ | refine thenQ_normal ?_ | refine thenQ_exit ?_ | refine blockQ_ret ?_ | refine blockQ_normal ?_ | refine blockQ_exit_same ?_ | refine blockQ_exit_ne rfl ?_
                  refine cw_regseq ?_
                  refine ow_y (y_fieldAddr 6 rfl ft_64_2 rfl) rfl rfl rfl ?_
                  refine ow_y (y_fieldAddr 6 rfl ft_62_0 rfl) rfl rfl rfl ?_
                  refine ow_y (y_load rfl pt_3 (by first | (apply In.own; (repeat (first | exact List.Mem.head _ | apply List.Mem.tail)); done) | (apply In.ro; (repeat (first | exact List.Mem.head _ | apply List.Mem.tail)); done)) rfl) rfl rfl rfl ?_
                  refine ow_y (y_fieldAddr 1 rfl ft_64_1 rfl) rfl rfl rfl ?_
                  refine ow_y (y_fieldAddr 5 rfl ft_33_4 rfl) rfl rfl rfl ?_
                  refine ow_store rfl rfl rfl sz_3 rfl (by repeat (first | exact Upd.here | apply Upd.there)) (by repeat (first | exact SetL.here | apply SetL.there)) ?_
                  refine ow_nil ?_
                  refine cw_seq ?_
                  refine cw_regseq ?_
                  refine ow_y (y_fieldAddr 6 rfl ft_64_2 rfl) rfl rfl rfl ?_
                  refine ow_y (y_fieldAddr 7 rfl ft_62_1 rfl) rfl rfl rfl ?_
                  refine ow_y (y_load rfl pt_9 (by first | (apply In.own; (repeat (first | exact List.Mem.head _ | apply List.Mem.tail)); done) | (apply In.ro; (repeat (first | exact List.Mem.head _ | apply List.Mem.tail)); done)) rfl) rfl rfl rfl ?_
                  refine ow_strne rfl rfl rfl rfl (fun h68 => ?_) (fun h68 => ?_)
                  · refine ow_nil ?_
                    refine cw_if_t rfl ?_
                    refine cw_drawseq [(bp, cb [.slice (some ⟨ib, 0, none⟩) p.items.length icap, .map (some bm), .int .i64 (p.double : Int)] 60), (bm, .map es clk), (b9, cb [.int .i64 it.line, .int .i64 it.i.op, .int .i64 it.i.a, .int .i64 it.i.b, .int .i64 it.i.c, .int .i64 it.v.1, .int .i64 it.v.1, str it.v.2, .bool it.plain, .int .u32 it.w] 64)] (by kernel_rfl) rfl ?_
                    refine any_take 0 rfl (by kernel_rfl) (by kernel_rfl) (by kernel_rfl) rfl rfl rfl (by repeat (first | exact Split.nil | (apply Split.cons; · repeat (first | exact Pick.here | apply Pick.there)) | exact Split.whole _ | exact Split.front _ _ rfl | exact Split.back _ _ rfl | exact Split.app_nil _ | apply Split.skip)) (y_move rfl) ?_
                    refine any_take 1 rfl (by kernel_rfl) (by kernel_rfl) (by kernel_rfl) rfl rfl rfl (by repeat (first | exact Split.nil | (apply Split.cons; · repeat (first | exact Pick.here | apply Pick.there)) | exact Split.whole _ | exact Split.front _ _ rfl | exact Split.back _ _ rfl | exact Split.app_nil _ | apply Split.skip)) (y_nilCheck rfl) ?_
                    refine any_take 2 rfl (by kernel_rfl) (by kernel_rfl) (by kernel_rfl) rfl rfl rfl (by repeat (first | exact Split.nil | (apply Split.cons; · repeat (first | exact Pick.here | apply Pick.there)) | exact Split.whole _ | exact Split.front _ _ rfl | exact Split.back _ _ rfl | exact Split.app_nil _ | apply Split.skip)) (y_fieldAddr 1 rfl ft_60_1 rfl) ?_
                    refine any_take 3 rfl (by kernel_rfl) (by kernel_rfl) (by kernel_rfl) rfl rfl rfl (by repeat (first | exact Split.nil | (apply Split.cons; · repeat (first | exact Pick.here | apply Pick.there)) | exact Split.whole _ | exact Split.front _ _ rfl | exact Split.back _ _ rfl | exact Split.app_nil _ | apply Split.skip)) (y_load rfl pt_58 (by first | (apply In.own; (repeat (first | exact List.Mem.head _ | apply List.Mem.tail)); done) | (apply In.ro; (repeat (first | exact List.Mem.head _ | apply List.Mem.tail)); done)) rfl) ?_
                    refine any_take 4 rfl (by kernel_rfl) (by kernel_rfl) (by kernel_rfl) rfl rfl rfl (by repeat (first | exact Split.nil | (apply Split.cons; · repeat (first | exact Pick.here | apply Pick.there)) | exact Split.whole _ | exact Split.front _ _ rfl | exact Split.back _ _ rfl | exact Split.app_nil _ | apply Split.skip)) (y_fieldAddr 6 rfl ft_64_2 rfl) ?_
                    refine any_take 5 rfl (by kernel_rfl) (by kernel_rfl) (by kernel_rfl) rfl rfl rfl (by repeat (first | exact Split.nil | (apply Split.cons; · repeat (first | exact Pick.here | apply Pick.there)) | exact Split.whole _ | exact Split.front _ _ rfl | exact Split.back _ _ rfl | exact Split.app_nil _ | apply Split.skip)) (y_fieldAddr 7 rfl ft_62_1 rfl) ?_
                    refine any_take 6 rfl (by kernel_rfl) (by kernel_rfl) (by kernel_rfl) rfl rfl rfl (by repeat (first | exact Split.nil | (apply Split.cons; · repeat (first | exact Pick.here | apply Pick.there)) | exact Split.whole _ | exact Split.front _ _ rfl | exact Split.back _ _ rfl | exact Split.app_nil _ | apply Split.skip)) (y_load rfl pt_9 (by first | (apply In.own; (repeat (first | exact List.Mem.head _ | apply List.Mem.tail)); done) | (apply In.ro; (repeat (first | exact List.Mem.head _ | apply List.Mem.tail)); done)) rfl) ?_
                    cases hmg : mget p.labels it.v.2
                    · refine any_take 7 rfl (by kernel_rfl) (by kernel_rfl) (by kernel_rfl) rfl rfl rfl (by repeat (first | exact Split.nil | (apply Split.cons; · repeat (first | exact Pick.here | apply Pick.there)) | exact Split.whole _ | exact Split.front _ _ rfl | exact Split.back _ _ rfl | exact Split.app_nil _ | apply Split.skip)) (y_lookupS rfl rfl ms_58 zt_3 (by first | (apply In.own; (repeat (first | exact List.Mem.head _ | apply List.Mem.tail)); done) | (apply In.ro; (repeat (first | exact List.Mem.head _ | apply List.Mem.tail)); done)) hmap) ?_
                      rw [mgetS_kv, hmg]
                      refine any_take 8 rfl (by kernel_rfl) (by kernel_rfl) (by kernel_rfl) rfl rfl rfl (by repeat (first | exact Split.nil | (apply Split.cons; · repeat (first | exact Pick.here | apply Pick.there)) | exact Split.whole _ | exact Split.front _ _ rfl | exact Split.back _ _ rfl | exact Split.app_nil _ | apply Split.skip)) (y_move rfl) ?_
                      refine any_take 9 rfl (by kernel_rfl) (by kernel_rfl) (by kernel_rfl) rfl rfl rfl (by repeat (first | exact Split.nil | (apply Split.cons; · repeat (first | exact Pick.here | apply Pick.there)) | exact Split.whole _ | exact Split.front _ _ rfl | exact Split.back _ _ rfl | exact Split.app_nil _ | apply Split.skip)) (y_extract rfl rfl) ?_
                      refine any_take 10 rfl (by kernel_rfl) (by kernel_rfl) (by kernel_rfl) rfl rfl rfl (by repeat (first | exact Split.nil | (apply Split.cons; · repeat (first | exact Pick.here | apply Pick.there)) | exact Split.whole _ | exact Split.front _ _ rfl | exact Split.back _ _ rfl | exact Split.app_nil _ | apply Split.skip)) (y_extract rfl rfl) ?_
                      refine any_take 11 rfl (by kernel_rfl) (by kernel_rfl) (by kernel_rfl) rfl rfl rfl (by repeat (first | exact Split.nil | (apply Split.cons; · repeat (first | exact Pick.here | apply Pick.there)) | exact Split.whole _ | exact Split.front _ _ rfl | exact Split.back _ _ rfl | exact Split.app_nil _ | apply Split.skip)) (y_assign rfl) ?_
                      refine any_take 12 rfl (by kernel_rfl) (by kernel_rfl) (by kernel_rfl) rfl rfl rfl (by repeat (first | exact Split.nil | (apply Split.cons; · repeat (first | exact Pick.here | apply Pick.there)) | exact Split.whole _ | exact Split.front _ _ rfl | exact Split.back _ _ rfl | exact Split.app_nil _ | apply Split.skip)) (y_assign rfl) ?_
                      refine any_done (by kernel_rfl) ?_
                      refine cw_regseq ?_
                      refine ow_y (y_move rfl) rfl rfl rfl ?_
                      refine ow_y (y_move rfl) rfl rfl rfl ?_
                      refine ow_y (y_mul64 rfl rfl (by omega)) rfl rfl rfl ?_
                      refine ow_y (y_add64 rfl rfl (by omega)) rfl rfl rfl ?_
                      refine ow_y (y_fieldAddr 1 rfl ft_64_1 rfl) rfl rfl rfl ?_
                      refine ow_y (y_fieldAddr 5 rfl ft_33_4 rfl) rfl rfl rfl ?_
                      refine ow_store rfl rfl rfl sz_3 rfl (by repeat (first | exact Upd.here | apply Upd.there)) (by repeat (first | exact SetL.here | apply SetL.there)) ?_
                      refine ow_nil ?_
                      refine cw_regseq ?_
                      refine ow_y (y_move rfl) rfl rfl rfl ?_
                      refine ow_y (y_not rfl) rfl rfl rfl ?_
                      refine ow_y (y_move rfl) rfl rfl rfl ?_
                      refine ow_skip rfl rfl rfl ?_
                      refine ow_skip rfl rfl rfl ?_
                      refine ow_skip rfl rfl rfl ?_
                      refine ow_skip rfl rfl rfl ?_
                      refine ow_y (y_pick_t rfl rfl) rfl rfl rfl ?_
                      refine ow_nil ?_
                      refine cw_if_t rfl ?_
                      refine cw_drawseq [(b9, cb [.int .i64 it.line, .int .i64 it.i.op, .int .i64 it.i.a, .int .i64 it.i.b, .int .i64 it.i.c, .int .i64 (base + 4 * 0), .int .i64 it.v.1, str it.v.2, .bool it.plain, .int .u32 it.w] 64)] (by kernel_rfl) rfl ?_
                      refine any_take 0 rfl (by kernel_rfl) (by kernel_rfl) (by kernel_rfl) rfl rfl rfl (by repeat (first | exact Split.nil | (apply Split.cons; · repeat (first | exact Pick.here | apply Pick.there)) | exact Split.whole _ | exact Split.front _ _ rfl | exact Split.back _ _ rfl | exact Split.app_nil _ | apply Split.skip)) (y_fieldAddr 0 rfl ft_64_0 rfl) ?_
                      refine any_take 1 rfl (by kernel_rfl) (by kernel_rfl) (by kernel_rfl) rfl rfl rfl (by repeat (first | exact Split.nil | (apply Split.cons; · repeat (first | exact Pick.here | apply Pick.there)) | exact Split.whole _ | exact Split.front _ _ rfl | exact Split.back _ _ rfl | exact Split.app_nil _ | apply Split.skip)) (y_load rfl pt_3 (by first | (apply In.own; (repeat (first | exact List.Mem.head _ | apply List.Mem.tail)); done) | (apply In.ro; (repeat (first | exact List.Mem.head _ | apply List.Mem.tail)); done)) rfl) ?_
                      refine any_take 2 rfl (by kernel_rfl) (by kernel_rfl) (by kernel_rfl) rfl rfl rfl (by repeat (first | exact Split.nil | (apply Split.cons; · repeat (first | exact Pick.here | apply Pick.there)) | exact Split.whole _ | exact Split.front _ _ rfl | exact Split.back _ _ rfl | exact Split.app_nil _ | apply Split.skip)) (y_assign rfl) ?_
                      refine any_take 3 rfl (by kernel_rfl) (by kernel_rfl) (by kernel_rfl) rfl rfl rfl (by repeat (first | exact Split.nil | (apply Split.cons; · repeat (first | exact Pick.here | apply Pick.there)) | exact Split.whole _ | exact Split.front _ _ rfl | exact Split.back _ _ rfl | exact Split.app_nil _ | apply Split.skip)) (y_assign rfl) ?_
                      refine any_take 4 rfl (by kernel_rfl) (by kernel_rfl) (by kernel_rfl) rfl rfl rfl (by repeat (first | exact Split.nil | (apply Split.cons; · repeat (first | exact Pick.here | apply Pick.there)) | exact Split.whole _ | exact Split.front _ _ rfl | exact Split.back _ _ rfl | exact Split.app_nil _ | apply Split.skip)) (y_assign rfl) ?_
                      refine any_done (by kernel_rfl) ?_
                      refine cw_ret ?_
                      repeat with_reducible first | refine thenQ_ret ?_ | refine thenQ_normal ?_ | refine thenQ_exit ?_ | refine blockQ_ret ?_ | refine blockQ_normal ?_ | refine blockQ_exit_same ?_ | refine blockQ_exit_ne rfl ?_
                      refine body_ret (.three (.tmp rfl) (.tmp rfl) (.tmp rfl)) ?_
                      rw [items_at hit, go_bad (iw_none hpl h68 hmg)] at hgo
                      exact ⟨[], _, .nil, asm_nil (asm_lab (by omega) (by omega) hread (by omega) hgo.symm)⟩
                    · rename_i n
                      have hnle := mget_le hmg hlbs
                      refine any_take 7 rfl (by kernel_rfl) (by kernel_rfl) (by kernel_rfl) rfl rfl rfl (by repeat (first | exact Split.nil | (apply Split.cons; · repeat (first | exact Pick.here | apply Pick.there)) | exact Split.whole _ | exact Split.front _ _ rfl | exact Split.back _ _ rfl | exact Split.app_nil _ | apply Split.skip)) (y_lookupS rfl rfl ms_58 zt_3 (by first | (apply In.own; (repeat (first | exact List.Mem.head _ | apply List.Mem.tail)); done) | (apply In.ro; (repeat (first | exact List.Mem.head _ | apply List.Mem.tail)); done)) hmap) ?_
                      rw [mgetS_kv, hmg]
                      refine any_take 8 rfl (by kernel_rfl) (by kernel_rfl) (by kernel_rfl) rfl rfl rfl (by repeat (first | exact Split.nil | (apply Split.cons; · repeat (first | exact Pick.here | apply Pick.there)) | exact Split.whole _ | exact Split.front _ _ rfl | exact Split.back _ _ rfl | exact Split.app_nil _ | apply Split.skip)) (y_move rfl) ?_
                      refine any_take 9 rfl (by kernel_rfl) (by kernel_rfl) (by kernel_rfl) rfl rfl rfl (by repeat (first | exact Split.nil | (apply Split.cons; · repeat (first | exact Pick.here | apply Pick.there)) | exact Split.whole _ | exact Split.front _ _ rfl | exact Split.back _ _ rfl | exact Split.app_nil _ | apply Split.skip)) (y_extract rfl rfl) ?_
                      refine any_take 10 rfl (by kernel_rfl) (by kernel_rfl) (by kernel_rfl) rfl rfl rfl (by repeat (first | exact Split.nil | (apply Split.cons; · repeat (first | exact Pick.here | apply Pick.there)) | exact Split.whole _ | exact Split.front _ _ rfl | exact Split.back _ _ rfl | exact Split.app_nil _ | apply Split.skip)) (y_extract rfl rfl) ?_
                      refine any_take 11 rfl (by kernel_rfl) (by kernel_rfl) (by kernel_rfl) rfl rfl rfl (by repeat (first | exact Split.nil | (apply Split.cons; · repeat (first | exact Pick.here | apply Pick.there)) | exact Split.whole _ | exact Split.front _ _ rfl | exact Split.back _ _ rfl | exact Split.app_nil _ | apply Split.skip)) (y_assign rfl) ?_
                      refine any_take 12 rfl (by kernel_rfl) (by kernel_rfl) (by kernel_rfl) rfl rfl rfl (by repeat (first | exact Split.nil | (apply Split.cons; · repeat (first | exact Pick.here | apply Pick.there)) | exact Split.whole _ | exact Split.front _ _ rfl | exact Split.back _ _ rfl | exact Split.app_nil _ | apply Split.skip)) (y_assign rfl) ?_
                      refine any_done (by kernel_rfl) ?_
                      refine cw_regseq ?_
                      refine ow_y (y_move rfl) rfl rfl rfl ?_
                      refine ow_y (y_move rfl) rfl rfl rfl ?_
                      refine ow_y (y_mul64 rfl rfl (by omega)) rfl rfl rfl ?_
                      refine ow_y (y_add64 rfl rfl (by omega)) rfl rfl rfl ?_
                      refine ow_y (y_fieldAddr 1 rfl ft_64_1 rfl) rfl rfl rfl ?_
                      refine ow_y (y_fieldAddr 5 rfl ft_33_4 rfl) rfl rfl rfl ?_
                      refine ow_store rfl rfl rfl sz_3 rfl (by repeat (first | exact Upd.here | apply Upd.there)) (by repeat (first | exact SetL.here | apply SetL.there)) ?_
                      refine ow_nil ?_
                      refine cw_regseq ?_
                      refine ow_y (y_move rfl) rfl rfl rfl ?_
                      refine ow_y (y_not rfl) rfl rfl rfl ?_
                      refine ow_y (y_move rfl) rfl rfl rfl ?_
                      refine ow_y (y_fieldAddr 1 rfl ft_64_1 rfl) rfl rfl rfl ?_
                      refine ow_y (y_fieldAddr 5 rfl ft_33_4 rfl) rfl rfl rfl ?_
                      refine ow_y (y_load rfl pt_3 (by first | (apply In.own; (repeat (first | exact List.Mem.head _ | apply List.Mem.tail)); done) | (apply In.ro; (repeat (first | exact List.Mem.head _ | apply List.Mem.tail)); done)) rfl) rfl rfl rfl ?_
                      refine ow_cmp rfl rfl rfl rfl rfl (fun h92 => ?_) (fun h92 => ?_)
                      · simp only [cmpP] at h92
                        refine ow_y (y_pick_f rfl rfl) rfl rfl rfl ?_
                        refine ow_nil ?_
                        refine cw_if_t rfl ?_
                        refine cw_drawseq [(b9, cb [.int .i64 it.line, .int .i64 it.i.op, .int .i64 it.i.a, .int .i64 it.i.b, .int .i64 it.i.c, .int .i64 (base + 4 * (n : Int)), .int .i64 it.v.1, str it.v.2, .bool it.plain, .int .u32 it.w] 64)] (by kernel_rfl) rfl ?_
                        refine any_take 0 rfl (by kernel_rfl) (by kernel_rfl) (by kernel_rfl) rfl rfl rfl (by repeat (first | exact Split.nil | (apply Split.cons; · repeat (first | exact Pick.here | apply Pick.there)) | exact Split.whole _ | exact Split.front _ _ rfl | exact Split.back _ _ rfl | exact Split.app_nil _ | apply Split.skip)) (y_fieldAddr 0 rfl ft_64_0 rfl) ?_
                        refine any_take 1 rfl (by kernel_rfl) (by kernel_rfl) (by kernel_rfl) rfl rfl rfl (by repeat (first | exact Split.nil | (apply Split.cons; · repeat (first | exact Pick.here | apply Pick.there)) | exact Split.whole _ | exact Split.front _ _ rfl | exact Split.back _ _ rfl | exact Split.app_nil _ | apply Split.skip)) (y_load rfl pt_3 (by first | (apply In.own; (repeat (first | exact List.Mem.head _ | apply List.Mem.tail)); done) | (apply In.ro; (repeat (first | exact List.Mem.head _ | apply List.Mem.tail)); done)) rfl) ?_
                        refine any_take 2 rfl (by kernel_rfl) (by kernel_rfl) (by kernel_rfl) rfl rfl rfl (by repeat (first | exact Split.nil | (apply Split.cons; · repeat (first | exact Pick.here | apply Pick.there)) | exact Split.whole _ | exact Split.front _ _ rfl | exact Split.back _ _ rfl | exact Split.app_nil _ | apply Split.skip)) (y_assign rfl) ?_
                        refine any_take 3 rfl (by kernel_rfl) (by kernel_rfl) (by kernel_rfl) rfl rfl rfl (by repeat (first | exact Split.nil | (apply Split.cons; · repeat (first | exact Pick.here | apply Pick.there)) | exact Split.whole _ | exact Split.front _ _ rfl | exact Split.back _ _ rfl | exact Split.app_nil _ | apply Split.skip)) (y_assign rfl) ?_
                        refine any_take 4 rfl (by kernel_rfl) (by kernel_rfl) (by kernel_rfl) rfl rfl rfl (by repeat (first | exact Split.nil | (apply Split.cons; · repeat (first | exact Pick.here | apply Pick.there)) | exact Split.whole _ | exact Split.front _ _ rfl | exact Split.back _ _ rfl | exact Split.app_nil _ | apply Split.skip)) (y_assign rfl) ?_
                        refine any_done (by kernel_rfl) ?_
                        refine cw_ret ?_
                        repeat with_reducible first | refine thenQ_ret ?_ | refine thenQ_normal ?_ | refine thenQ_exit ?_ | refine blockQ_ret ?_ | refine blockQ_normal ?_ | refine blockQ_exit_same ?_ | refine blockQ_exit_ne rfl ?_
                        refine body_ret (.three (.tmp rfl) (.tmp rfl) (.tmp rfl)) ?_
                        rw [items_at hit, go_bad (iw_far hpl h68 hmg (by omega))] at hgo
                        exact ⟨[], _, .nil, asm_nil (asm_lab (by omega) (by omega) hread (by omega) hgo.symm)⟩
                      · simp only [cmpP] at h92
                        refine ow_y (y_pick_f rfl rfl) rfl rfl rfl ?_
                        refine ow_nil ?_
                        refine cw_if_f rfl ?_
                        refine cw_skip ?_
                        repeat with_reducible first | refine thenQ_ret ?_ | refine thenQ_normal ?_ | refine thenQ_exit ?_ | refine blockQ_ret ?_ | refine blockQ_normal ?_ | refine blockQ_exit_same ?_ | refine blockQ_exit_ne rfl ?_
                        refine cw_regseq ?_
                        refine ow_y (y_fieldAddr 1 rfl ft_64_1 rfl) rfl rfl rfl ?_
                        refine ow_y (y_loadAgg rfl at_33 sz_33 (by first | (apply In.own; (repeat (first | exact List.Mem.head _ | apply List.Mem.tail)); done) | (apply In.ro; (repeat (first | exact List.Mem.head _ | apply List.Mem.tail)); done)) (by repeat (first | exact Sub.nil | apply Sub.take | apply Sub.skip))) rfl rfl rfl ?_
                        refine ow_call rfl rfl (by rfl) ct_22 (Encode_c R _ hR ⟨it.i.op, it.i.a, it.i.b, it.i.c, (base + 4 * (n : Int))⟩) ?_
                        rintro _ _ ⟨rfl, rfl⟩
                        refine ow_y (y_move rfl) rfl rfl rfl ?_
                        refine ow_y (y_extract rfl rfl) rfl rfl rfl ?_
                        refine ow_y (y_extract rfl rfl) rfl rfl rfl ?_
                        refine ow_y (y_assign rfl) rfl rfl rfl ?_
                        refine ow_y (y_assign rfl) rfl rfl rfl ?_
                        refine ow_nil ?_
                        refine cw_region ?_
                        refine ow_y (y_move rfl) rfl rfl rfl ?_
                        refine ow_y (y_move rfl) rfl rfl rfl ?_
                        refine ow_buildSlice (el := 36) (zs := [.int .u32 0]) (fun i => some (i * 1, 1)) rfl rfl (by repeat (first | exact EvPs.nil | apply EvPs.cons rfl)) (by repeat (first | exact FillL.nil | (apply FillL.cons rfl rfl rfl; · repeat (first | exact SetLs.nil | (apply SetLs.cons; · repeat (first | exact SetL.here | apply SetL.there)))))) (fun _ => by kernel_rfl) (fun b104 => ?_)
                        refine ow_append' (xs := u32V ws) (n := ws.length) (news := [.int .u32 ((encode ⟨it.i.op, it.i.a, it.i.b, it.i.c, (base + 4 * (n : Int))⟩).1)]) rfl rfl rfl rfl rw_22 hown2 (by repeat (first | exact Split.nil | (apply Split.cons; · repeat (first | exact Pick.here | apply Pick.there)) | exact Split.whole _ | exact Split.front _ _ rfl | exact Split.back _ _ rfl | exact Split.app_nil _ | apply Split.skip)) (by first | (apply In.own; (repeat (first | exact List.Mem.head _ | apply List.Mem.tail)); done) | (apply In.ro; (repeat (first | exact List.Mem.head _ | apply List.Mem.tail)); done)) rfl rfl (by intro u hu; simp only [List.mem_singleton] at hu; subst hu; rfl) (by omega) (by simp only [maxLen]; omega) (by omega) (fun sv3 A3 hown3 => ?_)
                        refine ow_y (y_assign rfl) rfl rfl rfl ?_
                        refine ow_nil ?_
                        repeat with_reducible first | refine thenQ_ret ?_ | refine thenQ_normal ?_ | refine thenQ_exit ?_ | refine blockQ_ret ?_ | refine blockQ_normal ?_ | refine blockQ_exit_same ?_ | refine blockQ_exit_ne rfl ?_
                        refine cw_region ?_
                        refine ow_y (y_add64 rfl rfl (by omega)) rfl rfl rfl ?_
                        refine ow_y (y_move rfl) rfl rfl rfl ?_
                        refine ow_nil ?_
                        repeat with_reducible first | refine thenQ_ret ?_ | refine thenQ_normal ?_ | refine thenQ_exit ?_ | refine blockQ_ret ?_ | refine blockQ_normal ?_ | refine blockQ_exit_same ?_ | refine blockQ_exit_ne rfl ?_
                        refine ⟨(k + 1, ws ++ [(encode ⟨it.i.op, it.i.a, it.i.b, it.i.c, (base + 4 * (n : Int))⟩).1], sv3, A3), _, ?_, ?_, (by repeat (first | exact EnvLe.nil _ | refine EnvLe.cons rfl ?_)), (by repeat (first | exact Split.nil | (apply Split.cons; · repeat (first | exact Pick.here | apply Pick.there)) | exact Split.whole _ | exact Split.front _ _ rfl | exact Split.back _ _ rfl | exact Split.app_nil _ | apply Split.skip))⟩
                        · refine ⟨by simp only; omega, by simp only [List.length_append, u32V, List.map_append]; exact hown3, ?_, by simp only [List.length_append, List.length_cons, List.length_nil]; omega⟩
                          simp only
                          rw [← hgo, items_at hit, go_word (iw_lab hpl h68 hmg (by omega))]
                        · simp only; omega
                  · refine ow_nil ?_
                    refine cw_if_f rfl ?_
                    refine cw_skip ?_
                    repeat with_reducible first | refine thenQ_ret ?_ | refine thenQ_normal ?_ | refine thenQ_exit ?_ | refine blockQ_ret ?_ | refine blockQ_normal ?_ | refine blockQ_exit_same ?_ | refine blockQ_exit_ne rfl ?_
                    refine cw_regseq ?_
                    refine ow_y (y_fieldAddr 1 rfl ft_64_1 rfl) rfl rfl rfl ?_
                    refine ow_y (y_loadAgg rfl at_33 sz_33 (by first | (apply In.own; (repeat (first | exact List.Mem.head _ | apply List.Mem.tail)); done) | (apply In.ro; (repeat (first | exact List.Mem.head _ | apply List.Mem.tail)); done)) (by repeat (first | exact Sub.nil | apply Sub.take | apply Sub.skip))) rfl rfl rfl ?_
                    refine ow_call rfl rfl (by rfl) ct_22 (Encode_c R _ hR ⟨it.i.op, it.i.a, it.i.b, it.i.c, it.v.1⟩) ?_
                    rintro _ _ ⟨rfl, rfl⟩
                    refine ow_y (y_move rfl) rfl rfl rfl ?_
                    refine ow_y (y_extract rfl rfl) rfl rfl rfl ?_
                    refine ow_y (y_extract rfl rfl) rfl rfl rfl ?_
                    refine ow_y (y_assign rfl) rfl rfl rfl ?_
                    refine ow_y (y_assign rfl) rfl rfl rfl ?_
                    refine ow_nil ?_
                    refine cw_region ?_
                    refine ow_y (y_move rfl) rfl rfl rfl ?_
                    refine ow_y (y_move rfl) rfl rfl rfl ?_
                    refine ow_buildSlice (el := 36) (zs := [.int .u32 0]) (fun i => some (i * 1, 1)) rfl rfl (by repeat (first | exact EvPs.nil | apply EvPs.cons rfl)) (by repeat (first | exact FillL.nil | (apply FillL.cons rfl rfl rfl; · repeat (first | exact SetLs.nil | (apply SetLs.cons; · repeat (first | exact SetL.here | apply SetL.there)))))) (fun _ => by kernel_rfl) (fun b104 => ?_)
                    refine ow_append' (xs := u32V ws) (n := ws.length) (news := [.int .u32 ((encode ⟨it.i.op, it.i.a, it.i.b, it.i.c, it.v.1⟩).1)]) rfl rfl rfl rfl rw_22 hown2 (by repeat (first | exact Split.nil | (apply Split.cons; · repeat (first | exact Pick.here | apply Pick.there)) | exact Split.whole _ | exact Split.front _ _ rfl | exact Split.back _ _ rfl | exact Split.app_nil _ | apply Split.skip)) (by first | (apply In.own; (repeat (first | exact List.Mem.head _ | apply List.Mem.tail)); done) | (apply In.ro; (repeat (first | exact List.Mem.head _ | apply List.Mem.tail)); done)) rfl rfl (by intro u hu; simp only [List.mem_singleton] at hu; subst hu; rfl) (by omega) (by simp only [maxLen]; omega) (by omega) (fun sv3 A3 hown3 => ?_)
                    refine ow_y (y_assign rfl) rfl rfl rfl ?_
                    refine ow_nil ?_
                    repeat with_reducible first | refine thenQ_ret ?_ | refine thenQ_normal ?_ | refine thenQ_exit ?_ | refine blockQ_ret ?_ | refine blockQ_normal ?_ | refine blockQ_exit_same ?_ | refine blockQ_exit_ne rfl ?_
                    refine cw_region ?_
                    refine ow_y (y_add64 rfl rfl (by omega)) rfl rfl rfl ?_
                    refine ow_y (y_move rfl) rfl rfl rfl ?_
                    refine ow_nil ?_
                    repeat with_reducible first | refine thenQ_ret ?_ | refine thenQ_normal ?_ | refine thenQ_exit ?_ | refine blockQ_ret ?_ | refine blockQ_normal ?_ | refine blockQ_exit_same ?_ | refine blockQ_exit_ne rfl ?_
                    refine ⟨(k + 1, ws ++ [(encode ⟨it.i.op, it.i.a, it.i.b, it.i.c, it.v.1⟩).1], sv3, A3), _, ?_, ?_, (by repeat (first | exact EnvLe.nil _ | refine EnvLe.cons rfl ?_)), (by repeat (first | exact Split.nil | (apply Split.cons; · repeat (first | exact Pick.here | apply Pick.there)) | exact Split.whole _ | exact Split.front _ _ rfl | exact Split.back _ _ rfl | exact Split.app_nil _ | apply Split.skip))⟩
                    · refine ⟨by simp only; omega, by simp only [List.length_append, u32V, List.map_append]; exact hown3, ?_, by simp only [List.length_append, List.length_cons, List.length_nil]; omega⟩
                      simp only
                      rw [← hgo, items_at hit, go_word (iw_num hpl h68)]
                    · simp only; omega
              · simp only [cmpP] at h50
                refine ow_nil ?_
                refine cw_seq ?_
                refine cw_if_f rfl ?_
                refine cw_exit ?_
                repeat with_reducible first | refine thenQ_ret ?_ | refine thenQ_normal ?_ | refine thenQ_exit ?_ | refine blockQ_ret ?_ | refine blockQ_normal ?_ | refine blockQ_exit_same ?_ | refine blockQ_exit_ne rfl ?_
                refine cw_regseq ?_
                refine ow_y (y_move rfl) rfl rfl rfl ?_
                refine ow_y (y_assign rfl) rfl rfl rfl ?_
                refine ow_y (y_assign rfl) rfl rfl rfl ?_
                refine ow_y (y_assign rfl) rfl rfl rfl ?_
                refine ow_nil ?_
                refine cw_ret ?_
                repeat with_reducible first | refine thenQ_ret ?_ | refine thenQ_normal ?_ | refine thenQ_exit ?_ | refine blockQ_ret ?_ | refine blockQ_normal ?_ | refine blockQ_exit_same ?_ | refine blockQ_exit_ne rfl ?_
                refine body_ret (.three (.tmp rfl) (.tmp rfl) (.tmp rfl)) ?_
                have hkl : k = p.items.length := by omega
                subst hkl
                rw [List.drop_length, wordsGo] at hgo
                refine ⟨A2, _, (by repeat (first | exact Split.nil | (apply Split.cons; · repeat (first | exact Pick.here | apply Pick.there)) | exact Split.whole _ | exact Split.front _ _ rfl | exact Split.back _ _ rfl | exact Split.app_nil _ | apply Split.skip)), ?_⟩
                rw [AsmPost, asm_ok (by omega) (by omega) hread (by omega) hgo.symm]
                exact ⟨sv2, rfl, hown2⟩
        · rename_i ne
          obtain ⟨n, e⟩ := ne
          obtain ⟨rfl, rfl⟩ := hrd
          have he := readGo_err _ _ _ _ _ hread
          refine ow_y (y_move rfl) rfl rfl rfl ?_
          refine ow_y (y_extract rfl rfl) rfl rfl rfl ?_
          refine ow_y (y_extract rfl rfl) rfl rfl rfl ?_
          refine ow_y (y_extract rfl rfl) rfl rfl rfl ?_
          refine ow_y (y_assign rfl) rfl rfl rfl ?_
          refine ow_y (y_assign rfl) rfl rfl rfl ?_
          refine ow_y (y_assign rfl) rfl rfl rfl ?_
          refine ow_nil ?_
          refine cw_seq ?_
          refine cw_regseq ?_
          refine ow_y (y_move rfl) rfl rfl rfl ?_
          refine ow_cmp_t rfl rfl rfl rfl rfl (by simp only [cmpP]; try omega) ?_
          refine ow_nil ?_
          refine cw_if_t rfl ?_
          refine cw_regseq ?_
          refine ow_y (y_move rfl) rfl rfl rfl ?_
          refine ow_y (y_move rfl) rfl rfl rfl ?_
          refine ow_y (y_assign rfl) rfl rfl rfl ?_
          refine ow_y (y_assign rfl) rfl rfl rfl ?_
          refine ow_y (y_assign rfl) rfl rfl rfl ?_
          refine ow_nil ?_
          refine cw_ret ?_
          repeat with_reducible first | refine thenQ_ret ?_ | refine thenQ_normal ?_ | refine thenQ_exit ?_ | refine blockQ_ret ?_ | refine blockQ_normal ?_ | refine blockQ_exit_same ?_ | refine blockQ_exit_ne rfl ?_
          refine body_ret (.three (.tmp rfl) (.tmp rfl) (.tmp rfl)) ?_
          exact ⟨[], _, .nil, asm_nil (asm_err (by omega) (by omega) hread)⟩

theorem asm_c (R : Heap) (base : Int) (src : List UInt8) (hR : Glob R) : FnW Tryz.prog 12 [.int .i64 base, str src] R [] (AsmPost base src) :=
  (asm_w R base src hR).drop fun _v _L' ⟨L'', F, h1, h2⟩ => ⟨L'', F, h1, h2⟩

end Go.Proofs.YtgppllppddaodaaGreatDoor

/-
  The walks of a strings.Builder.
-/
namespace Go.Proofs.YtgppllppddaodaaGreatDoor
open Sl Am
open Go
theorem br_30 : byteRowT Tryz.prog 30 = some 5 := by kernel_rfl
theorem cof_5 : Tryz.prog.cellsOf 5 = 1 := by kernel_rfl
theorem ct_27 : callT Tryz.prog 27 = true := by kernel_rfl
theorem ft_44_0 : fieldT Tryz.prog 44 0 = some 0 := by kernel_rfl
theorem ft_44_1 : fieldT Tryz.prog 44 1 = some 1 := by kernel_rfl
theorem lie_44 : liesAt Tryz.prog Tryz.prog.depth 44 (2 / Tryz.prog.cellsOf 44) 0 44 1 = true := by kernel_rfl
theorem pp_42 : ptrT Tryz.prog 42 = true := by kernel_rfl
theorem pt_30 : plainT Tryz.prog 30 = true := by kernel_rfl
theorem pt_42 : plainT Tryz.prog 42 = true := by kernel_rfl
theorem pto_42_44 : ptrTo Tryz.prog 42 44 = true := by kernel_rfl
theorem pto_78_5 : ptrTo Tryz.prog 78 5 = true := by kernel_rfl
theorem sz_30 : sizeT Tryz.prog 30 = some 1 := by kernel_rfl
theorem sz_42 : sizeT Tryz.prog 42 = some 1 := by kernel_rfl
theorem uns_92 : unsT Tryz.prog 92 = true := by kernel_rfl
theorem run_41 (v : Value) (w : World) : (callFunc 41 #[v]).run Tryz.prog w = .ok (.value v) w := by
  rw [run_callFunc_extern Tryz.func41 (by kernel_rfl) (by kernel_rfl) (by kernel_rfl) (e := Extern.AbiNoEscape.same) (by kernel_rfl)]
  rw [Lib.run_noEscape]
  rfl

set_option maxRecDepth 100000 in
set_option maxHeartbeats 400000 in
theorem copyCheck_new : ∀ (R : Heap) (b : Nat) (sv : Value), FnW Tryz.prog 27 [.pointer (some ⟨b, 0, none⟩)] R [(b, cb [.pointer none, sv] 44)] fun v L' => v = .tuple #[] ∧ L' = [(b, cb [.pointer (some ⟨b, 0, none⟩), sv] 44)] := by
  intro R b sv
  refine fn_of_body Tryz.func27 rfl Tryz.ntmps27 Tryz.results27 (by rfl) ?_
  refine cw_regseq ?_
  refine ow_y (y_move rfl) rfl rfl rfl ?_
  refine ow_y (y_nilCheck rfl) rfl rfl rfl ?_
  refine ow_y (y_fieldAddr 0 rfl ft_44_0 rfl) rfl rfl rfl ?_
  refine ow_y (y_load rfl pt_42 (by first | (apply In.own; (repeat (first | exact List.Mem.head _ | apply List.Mem.tail)); done) | (apply In.ro; (repeat (first | exact List.Mem.head _ | apply List.Mem.tail)); done)) rfl) rfl rfl rfl ?_
  refine ow_ptreq rfl rfl rfl rfl pp_42 ?_
  refine ow_nil ?_
  refine cw_if_t rfl ?_
  refine cw_region ?_
  refine ow_y (y_move rfl) rfl rfl rfl ?_
  refine ow_y (y_move rfl) rfl rfl rfl ?_
  refine ow_y (y_toUnsafe rfl pto_42_44 uns_92 (by first | (apply In.own; (repeat (first | exact List.Mem.head _ | apply List.Mem.tail)); done) | (apply In.ro; (repeat (first | exact List.Mem.head _ | apply List.Mem.tail)); done)) (by simp)) rfl rfl rfl ?_
  refine ow_y (y_extern rfl (run_41 _)) rfl rfl rfl ?_
  refine ow_y (y_fromUnsafe rfl uns_92 pto_42_44 (by first | (apply In.own; (repeat (first | exact List.Mem.head _ | apply List.Mem.tail)); done) | (apply In.ro; (repeat (first | exact List.Mem.head _ | apply List.Mem.tail)); done)) lie_44) rfl rfl rfl ?_
  refine ow_y (y_nilCheck rfl) rfl rfl rfl ?_
  refine ow_y (y_fieldAddr 0 rfl ft_44_0 rfl) rfl rfl rfl ?_
  refine ow_store rfl rfl rfl sz_42 rfl (by repeat (first | exact Upd.here | apply Upd.there)) (by repeat (first | exact SetL.here | apply SetL.there)) ?_
  refine ow_nil ?_
  repeat with_reducible first | refine thenQ_ret ?_ | refine thenQ_normal ?_ | refine thenQ_exit ?_ | refine blockQ_ret ?_ | refine blockQ_normal ?_ | refine blockQ_exit_same ?_ | refine blockQ_exit_ne rfl ?_
  refine body_end (.none) ?_
  exact ⟨rfl, rfl⟩

set_option maxRecDepth 100000 in
set_option maxHeartbeats 400000 in
theorem copyCheck_old : ∀ (R : Heap) (b : Nat) (sv : Value), FnW Tryz.prog 27 [.pointer (some ⟨b, 0, none⟩)] R [(b, cb [.pointer (some ⟨b, 0, none⟩), sv] 44)] fun v L' => v = .tuple #[] ∧ L' = [(b, cb [.pointer (some ⟨b, 0, none⟩), sv] 44)] := by
  intro R b sv
  refine fn_of_body Tryz.func27 rfl Tryz.ntmps27 Tryz.results27 (by rfl) ?_
  refine cw_regseq ?_
  refine ow_y (y_move rfl) rfl rfl rfl ?_
  refine ow_y (y_nilCheck rfl) rfl rfl rfl ?_
  refine ow_y (y_fieldAddr 0 rfl ft_44_0 rfl) rfl rfl rfl ?_
  refine ow_y (y_load rfl pt_42 (by first | (apply In.own; (repeat (first | exact List.Mem.head _ | apply List.Mem.tail)); done) | (apply In.ro; (repeat (first | exact List.Mem.head _ | apply List.Mem.tail)); done)) rfl) rfl rfl rfl ?_
  refine ow_ptreq rfl rfl rfl rfl pp_42 ?_
  refine ow_nil ?_
  refine cw_if_f rfl ?_
  refine cw_regseq ?_
  refine ow_y (y_move rfl) rfl rfl rfl ?_
  refine ow_y (y_nilCheck rfl) rfl rfl rfl ?_
  refine ow_y (y_fieldAddr 0 rfl ft_44_0 rfl) rfl rfl rfl ?_
  refine ow_y (y_load rfl pt_42 (by first | (apply In.own; (repeat (first | exact List.Mem.head _ | apply List.Mem.tail)); done) | (apply In.ro; (repeat (first | exact List.Mem.head _ | apply List.Mem.tail)); done)) rfl) rfl rfl rfl ?_
  refine ow_y (y_move rfl) rfl rfl rfl ?_
  refine ow_y (y_nePtrSame rfl rfl pto_42_44) rfl rfl rfl ?_
  refine ow_nil ?_
  refine cw_if_f rfl ?_
  refine cw_skip ?_
  repeat with_reducible first | refine thenQ_ret ?_ | refine thenQ_normal ?_ | refine thenQ_exit ?_ | refine blockQ_ret ?_ | refine blockQ_normal ?_ | refine blockQ_exit_same ?_ | refine blockQ_exit_ne rfl ?_
  refine body_end (.none) ?_
  exact ⟨rfl, rfl⟩

def BAd (b : Nat) (ad : Value) : Prop := ad = .pointer none ∨ ad = .pointer (some ⟨b, 0, none⟩)
theorem copyCheck_c (R L F : Heap) (b : Nat) (ad sv : Value) (h : BAd b ad) (hs : Split L [(b, cb [ad, sv] 44)] F) : FnW Tryz.prog 27 [.pointer (some ⟨b, 0, none⟩)] R L fun v L' => v = .tuple #[] ∧ L' = (b, cb [.pointer (some ⟨b, 0, none⟩), sv] 44) :: F := by
  rcases h with rfl | rfl
  · exact ((copyCheck_new R b sv).frame hs (fun _ hp => .inl hp)).mono fun v L' ⟨A', ⟨hv, hA⟩, hL⟩ => ⟨hv, by rw [hL, hA]; rfl⟩
  · exact ((copyCheck_old R b sv).frame hs (fun _ hp => .inl hp)).mono fun v L' ⟨A', ⟨hv, hA⟩, hL⟩ => ⟨hv, by rw [hL, hA]; rfl⟩

set_option maxRecDepth 100000 in
set_option maxHeartbeats 400000 in
theorem writeString_w : ∀ (R A : Heap) (b : Nat) (ad sv : Value) (out s : List UInt8), BAd b ad → OwnS 5 1 sv A out.length (byteV out) → out.length + s.length ≤ 140737488355328 → FnW Tryz.prog 16 [.pointer (some ⟨b, 0, none⟩), str s] R ((b, cb [ad, sv] 44) :: A) fun _v L' => ∃ sv' A', L' = (b, cb [.pointer (some ⟨b, 0, none⟩), sv'] 44) :: A' ∧ OwnS 5 1 sv' A' (out.length + s.length) (byteV out ++ byteV s) := by
  intro R A b ad sv out s hb hown hlen
  refine fn_of_body Tryz.func16 rfl Tryz.ntmps16 Tryz.results16 (by rfl) ?_
  refine cw_regseq ?_
  refine ow_y (y_assign rfl) rfl rfl rfl ?_
  refine ow_y (y_assign rfl) rfl rfl rfl ?_
  refine ow_nil ?_
  refine cw_regseq ?_
  refine ow_y (y_move rfl) rfl rfl rfl ?_
  refine ow_call rfl rfl (by rfl) ct_27 (copyCheck_c R _ _ b ad sv hb (by repeat (first | exact Split.nil | (apply Split.cons; · repeat (first | exact Pick.here | apply Pick.there)) | exact Split.whole _ | exact Split.front _ _ rfl | exact Split.back _ _ rfl | exact Split.app_nil _ | apply Split.skip))) ?_
  rintro _ _ ⟨rfl, rfl⟩
  refine ow_nil ?_
  refine cw_regseq ?_
  refine ow_y (y_move rfl) rfl rfl rfl ?_
  refine ow_y (y_move rfl) rfl rfl rfl ?_
  refine ow_y (y_nilCheck rfl) rfl rfl rfl ?_
  refine ow_y (y_fieldAddr 1 rfl ft_44_1 rfl) rfl rfl rfl ?_
  refine ow_y (y_load rfl pt_30 (by first | (apply In.own; (repeat (first | exact List.Mem.head _ | apply List.Mem.tail)); done) | (apply In.ro; (repeat (first | exact List.Mem.head _ | apply List.Mem.tail)); done)) rfl) rfl rfl rfl ?_
  refine ow_y (y_move rfl) rfl rfl rfl ?_
  refine ow_appendStr' rfl rfl rfl rfl br_30 st_9 hown (by repeat (first | exact Split.nil | (apply Split.cons; · repeat (first | exact Pick.here | apply Pick.there)) | exact Split.whole _ | exact Split.front _ _ rfl | exact Split.back _ _ rfl | exact Split.app_nil _ | apply Split.skip)) hlen (fun sv2 A2 hown2 => ?_)
  refine ow_y (y_nilCheck rfl) rfl rfl rfl ?_
  refine ow_y (y_fieldAddr 1 rfl ft_44_1 rfl) rfl rfl rfl ?_
  refine ow_store rfl rfl rfl sz_30 (OwnS_one hown2) (by repeat (first | exact Upd.here | apply Upd.there)) (by repeat (first | exact SetL.here | apply SetL.there)) ?_
  refine ow_nil ?_
  refine cw_regseq ?_
  refine ow_y (y_move rfl) rfl rfl rfl ?_
  refine ow_y (y_lenStr rfl st_9) rfl rfl rfl ?_
  refine ow_y (y_assign rfl) rfl rfl rfl ?_
  refine ow_y (y_assign rfl) rfl rfl rfl ?_
  refine ow_nil ?_
  refine cw_ret ?_
  repeat with_reducible first | refine thenQ_ret ?_ | refine thenQ_normal ?_ | refine thenQ_exit ?_ | refine blockQ_ret ?_ | refine blockQ_normal ?_ | refine blockQ_exit_same ?_ | refine blockQ_exit_ne rfl ?_
  refine body_ret (.two (.tmp rfl) (.tmp rfl)) ?_
  exact ⟨sv2, A2, rfl, hown2⟩

theorem writeString_c {R L A F : Heap} {b : Nat} {ad sv : Value} {out : List UInt8} (s : List UInt8) (hb : BAd b ad) (hown : OwnS 5 1 sv A out.length (byteV out)) (hlen : out.length + s.length ≤ 140737488355328) (hs : Split L ((b, cb [ad, sv] 44) :: A) F) :
    FnW Tryz.prog 16 [.pointer (some ⟨b, 0, none⟩), str s] R L fun _v L' => ∃ sv' A', L' = (b, cb [.pointer (some ⟨b, 0, none⟩), sv'] 44) :: (F ++ A') ∧ OwnS 5 1 sv' A' (out ++ s).length (byteV (out ++ s)) :=
  ((writeString_w R A b ad sv out s hb hown hlen).frame hs (fun _ hp => .inl hp)).post_perm fun v L' ⟨B, ⟨sv', A', hB, hO⟩, hL⟩ =>
    ⟨(b, cb [.pointer (some ⟨b, 0, none⟩), sv'] 44) :: (F ++ A'), by rw [hL, hB]; exact (List.perm_append_comm).cons _, sv', A', rfl, by rw [List.length_append, byteV, List.map_append]; exact hO⟩

set_option maxRecDepth 100000 in
set_option maxHeartbeats 400000 in
theorem string_nil : ∀ (R : Heap) (b : Nat) (ad : Value), FnW Tryz.prog 20 [.pointer (some ⟨b, 0, none⟩)] R [(b, cb [ad, .slice none 0 0] 44)] fun v _ => v = str [] := by
  intro R b ad
  refine fn_of_body Tryz.func20 rfl Tryz.ntmps20 Tryz.results20 (by rfl) ?_
  refine cw_regseq ?_
  refine ow_y (y_assign rfl) rfl rfl rfl ?_
  refine ow_nil ?_
  refine cw_drawseq [(b, cb [ad, .slice none 0 0] 44)] (by kernel_rfl) rfl ?_
  refine any_take 0 rfl (by kernel_rfl) (by kernel_rfl) (by kernel_rfl) rfl rfl rfl (by repeat (first | exact Split.nil | (apply Split.cons; · repeat (first | exact Pick.here | apply Pick.there)) | exact Split.whole _ | exact Split.front _ _ rfl | exact Split.back _ _ rfl | exact Split.app_nil _ | apply Split.skip)) (y_move rfl) ?_
  refine any_take 1 rfl (by kernel_rfl) (by kernel_rfl) (by kernel_rfl) rfl rfl rfl (by repeat (first | exact Split.nil | (apply Split.cons; · repeat (first | exact Pick.here | apply Pick.there)) | exact Split.whole _ | exact Split.front _ _ rfl | exact Split.back _ _ rfl | exact Split.app_nil _ | apply Split.skip)) (y_nilCheck rfl) ?_
  refine any_take 2 rfl (by kernel_rfl) (by kernel_rfl) (by kernel_rfl) rfl rfl rfl (by repeat (first | exact Split.nil | (apply Split.cons; · repeat (first | exact Pick.here | apply Pick.there)) | exact Split.whole _ | exact Split.front _ _ rfl | exact Split.back _ _ rfl | exact Split.app_nil _ | apply Split.skip)) (y_fieldAddr 1 rfl ft_44_1 rfl) ?_
  refine any_take 3 rfl (by kernel_rfl) (by kernel_rfl) (by kernel_rfl) rfl rfl rfl (by repeat (first | exact Split.nil | (apply Split.cons; · repeat (first | exact Pick.here | apply Pick.there)) | exact Split.whole _ | exact Split.front _ _ rfl | exact Split.back _ _ rfl | exact Split.app_nil _ | apply Split.skip)) (y_load rfl pt_30 (by first | (apply In.own; (repeat (first | exact List.Mem.head _ | apply List.Mem.tail)); done) | (apply In.ro; (repeat (first | exact List.Mem.head _ | apply List.Mem.tail)); done)) rfl) ?_
  refine any_take 4 rfl (by kernel_rfl) (by kernel_rfl) (by kernel_rfl) rfl rfl rfl (by repeat (first | exact Split.nil | (apply Split.cons; · repeat (first | exact Pick.here | apply Pick.there)) | exact Split.whole _ | exact Split.front _ _ rfl | exact Split.back _ _ rfl | exact Split.app_nil _ | apply Split.skip)) (y_sliceData_nil rfl) ?_
  refine any_take 5 rfl (by kernel_rfl) (by kernel_rfl) (by kernel_rfl) rfl rfl rfl (by repeat (first | exact Split.nil | (apply Split.cons; · repeat (first | exact Pick.here | apply Pick.there)) | exact Split.whole _ | exact Split.front _ _ rfl | exact Split.back _ _ rfl | exact Split.app_nil _ | apply Split.skip)) (y_move rfl) ?_
  refine any_take 6 rfl (by kernel_rfl) (by kernel_rfl) (by kernel_rfl) rfl rfl rfl (by repeat (first | exact Split.nil | (apply Split.cons; · repeat (first | exact Pick.here | apply Pick.there)) | exact Split.whole _ | exact Split.front _ _ rfl | exact Split.back _ _ rfl | exact Split.app_nil _ | apply Split.skip)) (y_nilCheck rfl) ?_
  refine any_take 7 rfl (by kernel_rfl) (by kernel_rfl) (by kernel_rfl) rfl rfl rfl (by repeat (first | exact Split.nil | (apply Split.cons; · repeat (first | exact Pick.here | apply Pick.there)) | exact Split.whole _ | exact Split.front _ _ rfl | exact Split.back _ _ rfl | exact Split.app_nil _ | apply Split.skip)) (y_fieldAddr 1 rfl ft_44_1 rfl) ?_
  refine any_take 8 rfl (by kernel_rfl) (by kernel_rfl) (by kernel_rfl) rfl rfl rfl (by repeat (first | exact Split.nil | (apply Split.cons; · repeat (first | exact Pick.here | apply Pick.there)) | exact Split.whole _ | exact Split.front _ _ rfl | exact Split.back _ _ rfl | exact Split.app_nil _ | apply Split.skip)) (y_load rfl pt_30 (by first | (apply In.own; (repeat (first | exact List.Mem.head _ | apply List.Mem.tail)); done) | (apply In.ro; (repeat (first | exact List.Mem.head _ | apply List.Mem.tail)); done)) rfl) ?_
  refine any_take 9 rfl (by kernel_rfl) (by kernel_rfl) (by kernel_rfl) rfl rfl rfl (by repeat (first | exact Split.nil | (apply Split.cons; · repeat (first | exact Pick.here | apply Pick.there)) | exact Split.whole _ | exact Split.front _ _ rfl | exact Split.back _ _ rfl | exact Split.app_nil _ | apply Split.skip)) (y_lenSl rfl el_30) ?_
  refine any_take 10 rfl (by kernel_rfl) (by kernel_rfl) (by kernel_rfl) rfl rfl rfl (by repeat (first | exact Split.nil | (apply Split.cons; · repeat (first | exact Pick.here | apply Pick.there)) | exact Split.whole _ | exact Split.front _ _ rfl | exact Split.back _ _ rfl | exact Split.app_nil _ | apply Split.skip)) (y_unsafeString_nil rfl rfl) ?_
  refine any_take 11 rfl (by kernel_rfl) (by kernel_rfl) (by kernel_rfl) rfl rfl rfl (by repeat (first | exact Split.nil | (apply Split.cons; · repeat (first | exact Pick.here | apply Pick.there)) | exact Split.whole _ | exact Split.front _ _ rfl | exact Split.back _ _ rfl | exact Split.app_nil _ | apply Split.skip)) (y_assign rfl) ?_
  refine any_done (by kernel_rfl) ?_
  refine cw_ret ?_
  repeat with_reducible first | refine thenQ_ret ?_ | refine thenQ_normal ?_ | refine thenQ_exit ?_ | refine blockQ_ret ?_ | refine blockQ_normal ?_ | refine blockQ_exit_same ?_ | refine blockQ_exit_ne rfl ?_
  refine body_ret (.one (.tmp rfl)) ?_
  rfl

set_option maxRecDepth 100000 in
set_option maxHeartbeats 400000 in
theorem string_row : ∀ (R : Heap) (b rb cap : Nat) (ad : Value) (l : List UInt8) (cells : List Value), l ≠ [] → l.length ≤ cap → l.length ≤ 140737488355328 → cells.take l.length = byteV l → FnW Tryz.prog 20 [.pointer (some ⟨b, 0, none⟩)] R [(b, cb [ad, .slice (some ⟨rb, 0, none⟩) l.length cap] 44), (rb, cb cells 5)] fun v _ => v = str l := by
  intro R b rb cap ad l cells hne hcap hlen hcells
  have hpos := List.length_pos_iff.2 hne
  refine fn_of_body Tryz.func20 rfl Tryz.ntmps20 Tryz.results20 (by rfl) ?_
  refine cw_regseq ?_
  refine ow_y (y_assign rfl) rfl rfl rfl ?_
  refine ow_nil ?_
  refine cw_drawseq [(b, cb [ad, .slice (some ⟨rb, 0, none⟩) l.length cap] 44)] (by kernel_rfl) rfl ?_
  refine any_take 0 rfl (by kernel_rfl) (by kernel_rfl) (by kernel_rfl) rfl rfl rfl (by repeat (first | exact Split.nil | (apply Split.cons; · repeat (first | exact Pick.here | apply Pick.there)) | exact Split.whole _ | exact Split.front _ _ rfl | exact Split.back _ _ rfl | exact Split.app_nil _ | apply Split.skip)) (y_move rfl) ?_
  refine any_take 1 rfl (by kernel_rfl) (by kernel_rfl) (by kernel_rfl) rfl rfl rfl (by repeat (first | exact Split.nil | (apply Split.cons; · repeat (first | exact Pick.here | apply Pick.there)) | exact Split.whole _ | exact Split.front _ _ rfl | exact Split.back _ _ rfl | exact Split.app_nil _ | apply Split.skip)) (y_nilCheck rfl) ?_
  refine any_take 2 rfl (by kernel_rfl) (by kernel_rfl) (by kernel_rfl) rfl rfl rfl (by repeat (first | exact Split.nil | (apply Split.cons; · repeat (first | exact Pick.here | apply Pick.there)) | exact Split.whole _ | exact Split.front _ _ rfl | exact Split.back _ _ rfl | exact Split.app_nil _ | apply Split.skip)) (y_fieldAddr 1 rfl ft_44_1 rfl) ?_
  refine any_take 3 rfl (by kernel_rfl) (by kernel_rfl) (by kernel_rfl) rfl rfl rfl (by repeat (first | exact Split.nil | (apply Split.cons; · repeat (first | exact Pick.here | apply Pick.there)) | exact Split.whole _ | exact Split.front _ _ rfl | exact Split.back _ _ rfl | exact Split.app_nil _ | apply Split.skip)) (y_load rfl pt_30 (by first | (apply In.own; (repeat (first | exact List.Mem.head _ | apply List.Mem.tail)); done) | (apply In.ro; (repeat (first | exact List.Mem.head _ | apply List.Mem.tail)); done)) rfl) ?_
  refine any_take 4 rfl (by kernel_rfl) (by kernel_rfl) (by kernel_rfl) rfl rfl rfl (by repeat (first | exact Split.nil | (apply Split.cons; · repeat (first | exact Pick.here | apply Pick.there)) | exact Split.whole _ | exact Split.front _ _ rfl | exact Split.back _ _ rfl | exact Split.app_nil _ | apply Split.skip)) (y_sliceData rfl (by omega)) ?_
  refine any_take 5 rfl (by kernel_rfl) (by kernel_rfl) (by kernel_rfl) rfl rfl rfl (by repeat (first | exact Split.nil | (apply Split.cons; · repeat (first | exact Pick.here | apply Pick.there)) | exact Split.whole _ | exact Split.front _ _ rfl | exact Split.back _ _ rfl | exact Split.app_nil _ | apply Split.skip)) (y_move rfl) ?_
  refine any_take 6 rfl (by kernel_rfl) (by kernel_rfl) (by kernel_rfl) rfl rfl rfl (by repeat (first | exact Split.nil | (apply Split.cons; · repeat (first | exact Pick.here | apply Pick.there)) | exact Split.whole _ | exact Split.front _ _ rfl | exact Split.back _ _ rfl | exact Split.app_nil _ | apply Split.skip)) (y_nilCheck rfl) ?_
  refine any_take 7 rfl (by kernel_rfl) (by kernel_rfl) (by kernel_rfl) rfl rfl rfl (by repeat (first | exact Split.nil | (apply Split.cons; · repeat (first | exact Pick.here | apply Pick.there)) | exact Split.whole _ | exact Split.front _ _ rfl | exact Split.back _ _ rfl | exact Split.app_nil _ | apply Split.skip)) (y_fieldAddr 1 rfl ft_44_1 rfl) ?_
  refine any_take 8 rfl (by kernel_rfl) (by kernel_rfl) (by kernel_rfl) rfl rfl rfl (by repeat (first | exact Split.nil | (apply Split.cons; · repeat (first | exact Pick.here | apply Pick.there)) | exact Split.whole _ | exact Split.front _ _ rfl | exact Split.back _ _ rfl | exact Split.app_nil _ | apply Split.skip)) (y_load rfl pt_30 (by first | (apply In.own; (repeat (first | exact List.Mem.head _ | apply List.Mem.tail)); done) | (apply In.ro; (repeat (first | exact List.Mem.head _ | apply List.Mem.tail)); done)) rfl) ?_
  refine any_take 9 rfl (by kernel_rfl) (by kernel_rfl) (by kernel_rfl) rfl rfl rfl (by repeat (first | exact Split.nil | (apply Split.cons; · repeat (first | exact Pick.here | apply Pick.there)) | exact Split.whole _ | exact Split.front _ _ rfl | exact Split.back _ _ rfl | exact Split.app_nil _ | apply Split.skip)) (y_lenSl rfl el_30) ?_
  refine any_one 10 rfl (by kernel_rfl) ?_
  refine ow_unsafeString rfl rfl rfl rfl pto_78_5 cof_5 hne (by omega) hcells (by repeat (first | exact Upd.here | apply Upd.there)) ?_
  refine ow_nil ?_
  refine nextW (by repeat (first | exact Split.nil | (apply Split.cons; · repeat (first | exact Pick.here | apply Pick.there)) | exact Split.whole _ | exact Split.front _ _ rfl | exact Split.back _ _ rfl | exact Split.app_nil _ | apply Split.skip)) ?_
  refine any_take 11 rfl (by kernel_rfl) (by kernel_rfl) (by kernel_rfl) rfl rfl rfl (by repeat (first | exact Split.nil | (apply Split.cons; · repeat (first | exact Pick.here | apply Pick.there)) | exact Split.whole _ | exact Split.front _ _ rfl | exact Split.back _ _ rfl | exact Split.app_nil _ | apply Split.skip)) (y_assign rfl) ?_
  refine any_done (by kernel_rfl) ?_
  refine cw_ret ?_
  repeat with_reducible first | refine thenQ_ret ?_ | refine thenQ_normal ?_ | refine thenQ_exit ?_ | refine blockQ_ret ?_ | refine blockQ_normal ?_ | refine blockQ_exit_same ?_ | refine blockQ_exit_ne rfl ?_
  refine body_ret (.one (.tmp rfl)) ?_
  rfl

theorem string_c {R L A F : Heap} {b : Nat} {ad sv : Value} {out : List UInt8} (hown : OwnS 5 1 sv A out.length (byteV out)) (hne : out = [] → sv = .slice none 0 0) (hlen : out.length ≤ 140737488355328) (hs : Split L ((b, cb [ad, sv] 44) :: A) F) :
    FnW Tryz.prog 20 [.pointer (some ⟨b, 0, none⟩)] R L fun v _ => v = str out := by
  have key : FnW Tryz.prog 20 [.pointer (some ⟨b, 0, none⟩)] R ((b, cb [ad, sv] 44) :: A) fun v _ => v = str out := by
    by_cases ho : out = []
    · have hsv := hne ho
      subst ho; subst hsv
      exact ((string_nil R b ad).frame (L := (b, cb [ad, .slice none 0 0] 44) :: A) (.cons .here .nil) (fun _ hp => .inl hp)).mono fun v L' ⟨A', hv, _⟩ => hv
    · obtain ⟨rb, cap, cells, h1, h2, h3, h4⟩ := own_row hown (List.length_pos_iff.2 ho)
      subst h1; subst h2
      exact string_row R b rb cap ad out cells ho h3 hlen (by rw [Nat.mul_one] at h4; exact h4)
  exact (key.frame hs (fun _ hp => .inl hp)).mono fun v L' ⟨A', hv, _⟩ => hv

end Go.Proofs.YtgppllppddaodaaGreatDoor
