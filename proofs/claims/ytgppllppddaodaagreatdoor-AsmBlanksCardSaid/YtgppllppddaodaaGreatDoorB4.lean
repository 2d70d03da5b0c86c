/-
  Lemmas and walks that the seat's cards rest on, merged: W9, W10, W11. No statement of the set is proved here.
-/
import Derived.Test.YtgppllppddaodaaGreatDoorB3
import Derived.Test.YtgppllppddaodaaGreatDoorB2
import Derived.Test.YtgppllppddaodaaGreatDoorB1
/-
  The walks of the library: ParseUint at base 16.
-/
namespace Go.Proofs.YtgppllppddaodaaGreatDoor
open Sl Am
open Go
theorem cc_158 : concreteT Tryz.prog 158 = true := by kernel_rfl
theorem ct_102 : callT Tryz.prog 102 = true := by kernel_rfl
theorem cv_3_5 : convT Tryz.prog 3 5 .u8 = true := by kernel_rfl
theorem cv_3_51 : convT Tryz.prog 3 51 .u64 = true := by kernel_rfl
theorem cv_3_68 : convT Tryz.prog 3 68 .u64 = true := by kernel_rfl
theorem cv_5_51 : convT Tryz.prog 5 51 .u64 = true := by kernel_rfl
theorem el_30 : elemT Tryz.prog 30 = some 5 := by kernel_rfl
theorem pt_5 : plainT Tryz.prog 5 = true := by kernel_rfl
theorem ru_9_30 : rowU8 Tryz.prog 9 30 5 = true := by kernel_rfl
theorem sz_5 : sizeT Tryz.prog 5 = some 1 := by kernel_rfl
theorem y_conv_u8 {P : Program} {N : Nat} {R : Heap} {e : Env} {L : Heap} {d : Nat} {x : Operand} {s t : TypeId} {ty pos af g} {k' : IntKind} {n : Int} (hx : ev e x = some (.int k' n)) (ht : convT P s t .u8 = true) (h0 : 0 ≤ n) (h1 : n < 256) : Yld P N R ⟨some d, .convert s t x, ty, pos, af, g⟩ e L (.int .u8 n) := by
  have h := y_convInt (P := P) (N := N) (R := R) (d := d) (ty := ty) (pos := pos) (af := af) (g := g) (L := L) hx ht
  have : IntKind.u8.wrap n = n := by simp only [IntKind.wrap, IntKind.bits, IntKind.signed]; simp; omega
  rwa [this] at h
theorem wrapu64_id {n : Int} (h0 : 0 ≤ n) (h1 : n < 18446744073709551616) : IntKind.u64.wrap n = n := by simp only [IntKind.wrap, IntKind.bits, IntKind.signed]; simp; omega
theorem wrapu8_id {n : Int} (h0 : 0 ≤ n) (h1 : n < 256) : IntKind.u8.wrap n = n := by simp only [IntKind.wrap, IntKind.bits, IntKind.signed]; simp; omega
theorem y_conv_u64 {P : Program} {N : Nat} {R : Heap} {e : Env} {L : Heap} {d : Nat} {x : Operand} {s t : TypeId} {ty pos af g} {k' : IntKind} {n : Int} (hx : ev e x = some (.int k' n)) (ht : convT P s t .u64 = true) (h0 : 0 ≤ n) (h1 : n < 18446744073709551616) : Yld P N R ⟨some d, .convert s t x, ty, pos, af, g⟩ e L (.int .u64 n) := by
  have h := y_convInt (P := P) (N := N) (R := R) (d := d) (ty := ty) (pos := pos) (af := af) (g := g) (L := L) hx ht
  rwa [wrapu64_id h0 h1] at h
theorem run_sub8 {P : Program} (t : TypeId) {a b : Int} (h0 : 0 ≤ a - b) (h1 : a - b < 256) (w : World) : (binOp .sub t (.int .u8 a) (.int .u8 b)).run P w = .ok (.int .u8 (a - b)) w := by
  have := (run_bin_arith (P := P) (op := .sub) t .u8 a b w).2.1 rfl
  rwa [wrapu8_id h0 h1] at this
theorem run_add8 {P : Program} (t : TypeId) {a b : Int} (h0 : 0 ≤ a + b) (h1 : a + b < 256) (w : World) : (binOp .add t (.int .u8 a) (.int .u8 b)).run P w = .ok (.int .u8 (a + b)) w := by
  have := (run_bin_arith (P := P) (op := .add) t .u8 a b w).1 rfl
  rwa [wrapu8_id h0 h1] at this
theorem run_add64 {P : Program} (t : TypeId) {a b : Int} (h0 : 0 ≤ a + b) (h1 : a + b < 18446744073709551616) (w : World) : (binOp .add t (.int .u64 a) (.int .u64 b)).run P w = .ok (.int .u64 (a + b)) w := by
  have := (run_bin_arith (P := P) (op := .add) t .u64 a b w).1 rfl
  rwa [wrapu64_id h0 h1] at this
theorem run_mul64 {P : Program} (t : TypeId) {a b : Int} (h0 : 0 ≤ a * b) (h1 : a * b < 18446744073709551616) (w : World) : (binOp .mul t (.int .u64 a) (.int .u64 b)).run P w = .ok (.int .u64 (a * b)) w := by
  have := (run_bin_arith (P := P) (op := .mul) t .u64 a b w).2.2 rfl
  rwa [wrapu64_id h0 h1] at this
theorem run_shl_all {P : Program} (t : TypeId) (w : World) : (binOp .shl t (.int .u64 1) (.int .u64 64)).run P w = .ok (.int .u64 0) w := by
  rw [run_shl64 t 1 64 (by omega) (by omega) w]; rfl
theorem run_sub_all {P : Program} (t : TypeId) (w : World) : (binOp .sub t (.int .u64 0) (.int .u64 1)).run P w = .ok (.int .u64 18446744073709551615) w := by
  have := (run_bin_arith (P := P) (op := .sub) t .u64 0 1 w).2.1 rfl
  rw [this]; rfl
def lowB (c : UInt8) : UInt8 := c ||| 32
set_option maxRecDepth 100000 in
theorem low_or (c : UInt8) : IntKind.u8.wrap ((BitVec.ofInt 8 (c.toNat : Int) ||| BitVec.ofInt 8 32).toNat : Int) = ((lowB c).toNat : Int) := by
  have : ∀ n, n < 256 → IntKind.u8.wrap ((BitVec.ofInt 8 (((UInt8.ofNat n).toNat : Nat) : Int) ||| BitVec.ofInt 8 32).toNat : Int) = ((lowB (UInt8.ofNat n)).toNat : Int) := by decide
  have h := this c.toNat c.toNat_lt
  rwa [UInt8.ofNat_toNat] at h
set_option maxRecDepth 100000 in
theorem low_hex (c : UInt8) : isHex c = true → 57 < c.toNat → (lowB c).toNat = c.toNat ∧ 97 ≤ c.toNat ∧ c.toNat ≤ 102 := by
  have : ∀ n, n < 256 → (isHex (UInt8.ofNat n) = true → 57 < (UInt8.ofNat n).toNat → (lowB (UInt8.ofNat n)).toNat = (UInt8.ofNat n).toNat ∧ 97 ≤ (UInt8.ofNat n).toNat ∧ (UInt8.ofNat n).toNat ≤ 102) := by decide
  have h := this c.toNat c.toNat_lt
  rwa [UInt8.ofNat_toNat] at h
theorem hex_low {c : UInt8} (h : isHex c = true) : 48 ≤ c.toNat := by
  simp only [isHex, isDig, Bool.or_eq_true, Bool.and_eq_true, decide_eq_true_eq] at h; omega
theorem run_or8 {P : Program} (t : TypeId) (c : UInt8) (w : World) : (binOp .or t (.int .u8 c.toNat) (.int .u8 32)).run P w = .ok (.int .u8 (lowB c).toNat) w := by
  rw [← low_or]; simp only [binOp, Op.intBits]; rfl
theorem hexOk_at {s : List UInt8} {p : Nat} {c : UInt8} (h : hexOk s = true) (hc : s[p]? = some c) : isHex c = true := by
  simp only [hexOk, Bool.and_eq_true] at h
  exact List.all_eq_true.1 h.2 c (List.mem_of_getElem? hc)
theorem hexV_succ {s : List UInt8} {p : Nat} {c : UInt8} (h : s[p]? = some c) : hexV (s.take (p + 1)) = hexV (s.take p) * 16 + hexD c := by
  have hlt : p < s.length := by
    rcases Nat.lt_or_ge p s.length with h' | h'
    · exact h'
    · simp [List.getElem?_eq_none h'] at h
  rw [List.getElem?_eq_getElem hlt] at h
  unfold hexV
  rw [List.take_succ_eq_append_getElem hlt, List.foldl_append, Option.some.inj h]
  rfl
theorem hexD_lt {c : UInt8} (h : isHex c = true) : hexD c < 16 := by
  simp only [isHex, isDig, Bool.or_eq_true, Bool.and_eq_true, decide_eq_true_eq] at h
  unfold hexD; split <;> omega
theorem hexV_lt (s : List UInt8) (hs : s.all isHex = true) : ∀ p, p ≤ s.length → hexV (s.take p) < 16 ^ p
  | 0, _ => by simp [hexV]
  | p + 1, h => by
    have hlt : p < s.length := h
    have hc : s[p]? = some s[p] := List.getElem?_eq_getElem hlt
    rw [hexV_succ hc]
    have := hexV_lt s hs p (by omega)
    have hd := hexD_lt (List.all_eq_true.1 hs s[p] (List.getElem_mem hlt))
    rw [Nat.pow_succ]; omega
theorem hexV_small {s : List UInt8} (h : hexOk s = true) (p : Nat) (hp : p ≤ s.length) : hexV (s.take p) < 4294967296 := by
  simp only [hexOk, Bool.and_eq_true, decide_eq_true_eq] at h
  have h1 := hexV_lt s h.2 p hp
  have h2 : 16 ^ p ≤ 16 ^ 8 := Nat.pow_le_pow_right (by omega) (by omega)
  have h3 : (16 : Nat) ^ 8 = 4294967296 := by decide
  omega
/-- ParseUint at base 16: where the digits are right, their number. -/
def P16 (s : List UInt8) (v : Value) : Prop := (∃ n : Nat, n < 18446744073709551616 ∧ v = .tuple #[.int .u64 n, .nilIface] ∧ (hexOk s = true → n = hexV s)) ∨ (hexOk s = false ∧ ∃ (n k : Int), (k = 1 ∨ k = 2) ∧ v = .tuple #[.int .u64 n, .iface 158 (.int .i64 k)])
theorem P16.ok {s : List UInt8} {m : Int} (n : Nat) (h : n < 18446744073709551616) (hm : m = n) (hv : hexOk s = true → n = hexV s) : P16 s (.tuple #[.int .u64 m, .nilIface]) := by subst hm; exact .inl ⟨n, h, rfl, hv⟩

set_option maxRecDepth 100000 in
set_option maxHeartbeats 400000 in
theorem lower_w : ∀ (R : Heap) (c : UInt8), FnW Tryz.prog 102 [.int .u8 c.toNat] R [] fun v _ => v = .int .u8 (lowB c).toNat := by
  intro R c
  refine fn_of_body Tryz.func102 rfl Tryz.ntmps102 Tryz.results102 (by rfl) ?_
  refine cw_regseq ?_
  refine ow_y (y_assign rfl) rfl rfl rfl ?_
  refine ow_nil ?_
  refine cw_regseq ?_
  refine ow_y (y_move rfl) rfl rfl rfl ?_
  refine ow_y (y_bin rfl rfl (fun w => run_guard_int _ _ _ _ _ _ w) (fun w => run_or8 _ c w)) rfl rfl rfl ?_
  refine ow_y (y_assign rfl) rfl rfl rfl ?_
  refine ow_nil ?_
  refine cw_ret ?_
  repeat with_reducible first | refine thenQ_ret ?_ | refine thenQ_normal ?_ | refine thenQ_exit ?_ | refine blockQ_ret ?_ | refine blockQ_normal ?_ | refine blockQ_exit_same ?_ | refine blockQ_exit_ne rfl ?_
  refine body_ret (.one (.tmp rfl)) ?_
  rfl

theorem lower_c (R L : Heap) (c : UInt8) : FnW Tryz.prog 102 [.int .u8 c.toNat] R L fun v L' => v = .int .u8 (lowB c).toNat ∧ L' = L := FnW.gen (lower_w R c) L

set_option maxRecDepth 100000 in
set_option maxHeartbeats 400000 in
theorem parse16_in : ∀ (R : Heap) (s : List UInt8), s.length ≤ 281474976710656 → FnW Tryz.prog 97 [str s, .int .i64 16, .int .i64 64] R [] fun v _ => P16 s v := by
  intro R s hs
  refine fn_of_body Tryz.func97 rfl Tryz.ntmps97 Tryz.results97 (by rfl) ?_
  refine cw_regseq ?_
  refine ow_y (y_assign rfl) rfl rfl rfl ?_
  refine ow_y (y_assign rfl) rfl rfl rfl ?_
  refine ow_nil ?_
  refine cw_seq ?_
  refine cw_regseq ?_
  refine ow_y (y_move rfl) rfl rfl rfl ?_
  refine ow_streq rfl rfl rfl rfl (fun h19 => ?_) (fun h19 => ?_)
  · refine ow_nil ?_
    refine cw_if_t rfl ?_
    refine cw_regseq ?_
    refine ow_y (y_makeInterface rfl cc_158) rfl rfl rfl ?_
    refine ow_y (y_assign rfl) rfl rfl rfl ?_
    refine ow_y (y_assign rfl) rfl rfl rfl ?_
    refine ow_nil ?_
    refine cw_ret ?_
    repeat with_reducible first | refine thenQ_ret ?_ | refine thenQ_normal ?_ | refine thenQ_exit ?_ | refine blockQ_ret ?_ | refine blockQ_normal ?_ | refine blockQ_exit_same ?_ | refine blockQ_exit_ne rfl ?_
    refine body_ret (.two (.tmp rfl) (.tmp rfl)) ?_
    subst h19
    exact .inr ⟨by decide, 0, 2, .inr rfl, rfl⟩
  · refine ow_nil ?_
    refine cw_if_f rfl ?_
    refine cw_skip ?_
    repeat with_reducible first | refine thenQ_ret ?_ | refine thenQ_normal ?_ | refine thenQ_exit ?_ | refine blockQ_ret ?_ | refine blockQ_normal ?_ | refine blockQ_exit_same ?_ | refine blockQ_exit_ne rfl ?_
    refine cw_regseq ?_
    refine ow_y (y_move rfl) rfl rfl rfl ?_
    refine ow_cmp_f rfl rfl rfl rfl rfl (by simp only [cmpP]; try omega) ?_
    refine ow_y (y_assign rfl) rfl rfl rfl ?_
    refine ow_nil ?_
    refine cw_regseq ?_
    refine ow_y (y_move rfl) rfl rfl rfl ?_
    refine ow_y (y_assign rfl) rfl rfl rfl ?_
    refine ow_nil ?_
    refine cw_seq ?_
    refine cw_block ?_
    refine cw_regseq ?_
    refine ow_y (y_move rfl) rfl rfl rfl ?_
    refine ow_cmp_t rfl rfl rfl rfl rfl (by simp only [cmpP]; try omega) ?_
    refine ow_y (y_move rfl) rfl rfl rfl ?_
    refine ow_y (y_move rfl) rfl rfl rfl ?_
    refine ow_cmp_t rfl rfl rfl rfl rfl (by simp only [cmpP]; try omega) ?_
    refine ow_y (y_pick_t rfl rfl) rfl rfl rfl ?_
    refine ow_y (y_assign rfl) rfl rfl rfl ?_
    refine ow_nil ?_
    refine cw_if_t rfl ?_
    refine cw_skip ?_
    repeat with_reducible first | refine thenQ_ret ?_ | refine thenQ_normal ?_ | refine thenQ_exit ?_ | refine blockQ_ret ?_ | refine blockQ_normal ?_ | refine blockQ_exit_same ?_ | refine blockQ_exit_ne rfl ?_
    refine cw_seq ?_
    refine cw_regseq ?_
    refine ow_y (y_move rfl) rfl rfl rfl ?_
    refine ow_cmp_f rfl rfl rfl rfl rfl (by simp only [cmpP]; try omega) ?_
    refine ow_nil ?_
    refine cw_if_f rfl ?_
    refine cw_regseq ?_
    refine ow_y (y_move rfl) rfl rfl rfl ?_
    refine ow_cmp_f rfl rfl rfl rfl rfl (by simp only [cmpP]; try omega) ?_
    refine ow_y (y_move rfl) rfl rfl rfl ?_
    refine ow_y (y_move rfl) rfl rfl rfl ?_
    refine ow_cmp_f rfl rfl rfl rfl rfl (by simp only [cmpP]; try omega) ?_
    refine ow_y (y_pick_f rfl rfl) rfl rfl rfl ?_
    refine ow_nil ?_
    refine cw_if_f rfl ?_
    refine cw_skip ?_
    repeat with_reducible first | refine thenQ_ret ?_ | refine thenQ_normal ?_ | refine thenQ_exit ?_ | refine blockQ_ret ?_ | refine blockQ_normal ?_ | refine blockQ_exit_same ?_ | refine blockQ_exit_ne rfl ?_
    refine cw_regseq ?_
    refine ow_y (y_assign rfl) rfl rfl rfl ?_
    refine ow_nil ?_
    refine cw_seq ?_
    refine cw_regseq ?_
    refine ow_y (y_move rfl) rfl rfl rfl ?_
    refine ow_nil ?_
    refine cw_block ?_
    refine cw_regseq ?_
    refine ow_cmp_f rfl rfl rfl rfl rfl (by simp only [cmpP]; try omega) ?_
    refine ow_y (y_assign rfl) rfl rfl rfl ?_
    refine ow_nil ?_
    refine cw_if_f rfl ?_
    refine cw_regseq ?_
    refine ow_cmp_t rfl rfl rfl rfl rfl (by simp only [cmpP]; try omega) ?_
    refine ow_y (y_assign rfl) rfl rfl rfl ?_
    refine ow_nil ?_
    refine cw_if_t rfl ?_
    refine cw_region ?_
    refine ow_y (y_assign rfl) rfl rfl rfl ?_
    refine ow_nil ?_
    repeat with_reducible first | refine thenQ_ret ?_ | refine thenQ_normal ?_ | refine thenQ_exit ?_ | refine blockQ_ret ?_ | refine blockQ_normal ?_ | refine blockQ_exit_same ?_ | refine blockQ_exit_ne rfl ?_
    refine cw_regseq ?_
    refine ow_y (y_move rfl) rfl rfl rfl ?_
    refine ow_y (y_conv_u64 rfl cv_3_68 (by omega) (by omega)) rfl rfl rfl ?_
    refine ow_y (y_bin rfl rfl (fun w => run_guard_int _ _ _ _ _ _ w) (fun w => run_shl_all _ w)) rfl rfl rfl ?_
    refine ow_y (y_bin rfl rfl (fun w => run_guard_int _ _ _ _ _ _ w) (fun w => run_sub_all _ w)) rfl rfl rfl ?_
    refine ow_y (y_assign rfl) rfl rfl rfl ?_
    refine ow_nil ?_
    refine cw_regseq ?_
    refine ow_y (y_assign rfl) rfl rfl rfl ?_
    refine ow_nil ?_
    refine cw_regseq ?_
    refine ow_y (y_assign rfl) rfl rfl rfl ?_
    refine ow_nil ?_
    refine cw_seq ?_
    refine cw_regseq ?_
    refine ow_y (y_move rfl) rfl rfl rfl ?_
    refine ow_strBytes rfl rfl rfl ru_9_30 (fun b99 cap ex fz hcap => ?_)
    refine ow_y (y_lenSl rfl el_30) rfl rfl rfl ?_
    refine ow_y (y_move rfl) rfl rfl rfl ?_
    refine ow_nil ?_
    refine cw_block ?_
    refine cw_loop (α := Nat × Int) (fun x => [(1, .int .i64 16), (8, .bool false), (10, .int .u64 1152921504606846976), (11, .int .u64 18446744073709551615), (12, .bool false), (13, .int .u64 x.2), (99, .slice (some ⟨b99, 0, none⟩) s.length cap), (100, .int .i64 s.length), (101, .int .i64 (x.1 : Int))]) (fun x => [(b99, .cells (byteV s ++ ex).toArray 5 fz)]) (fun x => x.1 ≤ s.length ∧ 0 ≤ x.2 ∧ x.2 < 18446744073709551616 ∧ (hexOk s = true → x.2 = (hexV (s.take x.1) : Nat))) (fun x => s.length - x.1) (0, 0) ?_ (by repeat (first | exact EnvLe.nil _ | refine EnvLe.cons rfl ?_)) (by repeat (first | exact Split.nil | (apply Split.cons; · repeat (first | exact Pick.here | apply Pick.there)))) ?_
    · exact ⟨Nat.zero_le _, by simp only; omega, by simp only; omega, fun _ => by simp [hexV]⟩
    · rintro ⟨p, n⟩ ⟨hp, hn0, hn, hhex⟩
      simp only at hp hn hhex
      refine cw_regseq ?_
      refine ow_cmp rfl rfl rfl rfl rfl (fun h102 => ?_) (fun h102 => ?_)
      · simp only [cmpP] at h102
        refine ow_nil ?_
        refine cw_seq ?_
        refine cw_if_t rfl ?_
        refine cw_skip ?_
        repeat with_reducible first | refine thenQ_ret ?_ | refine thenQ_normal ?_ | refine thenQ_exit ?_ | refine blockQ_ret ?_ | refine blockQ_normal ?_ | refine blockQ_exit_same ?_ | refine blockQ_exit_ne rfl ?_
        refine cw_seq ?_
        refine cw_block ?_
        refine cw_regseq ?_
        obtain ⟨c, hc⟩ : ∃ c, s[p]? = some c := ⟨_, List.getElem?_eq_getElem (by omega)⟩
        have hcl := c.toNat_lt
        have hcell : (byteV s ++ ex)[0 + p * 1]? = some (.int .u8 c.toNat) := by rw [Nat.zero_add, Nat.mul_one, List.getElem?_append_left (by simp; omega), List.getElem?_map, hc]; rfl
        refine ow_y (y_indexAddr (i := p) rfl rfl el_30 sz_5 (by omega)) rfl rfl rfl ?_
        refine ow_y (y_load rfl pt_5 (by first | (apply In.own; (repeat (first | exact List.Mem.head _ | apply List.Mem.tail)); done) | (apply In.ro; (repeat (first | exact List.Mem.head _ | apply List.Mem.tail)); done)) hcell) rfl rfl rfl ?_
        refine ow_y (y_assign rfl) rfl rfl rfl ?_
        refine ow_nil ?_
        refine cw_regseq ?_
        refine ow_y (y_assign rfl) rfl rfl rfl ?_
        refine ow_nil ?_
        refine cw_seq ?_
        refine cw_block ?_
        refine cw_regseq ?_
        refine ow_y (y_move rfl) rfl rfl rfl ?_
        refine ow_cmp rfl rfl rfl rfl rfl (fun h108 => ?_) (fun h108 => ?_)
        · simp only [cmpP] at h108
          refine ow_y (y_move rfl) rfl rfl rfl ?_
          refine ow_y (y_move rfl) rfl rfl rfl ?_
          refine ow_y (y_pick_t rfl rfl) rfl rfl rfl ?_
          refine ow_y (y_assign rfl) rfl rfl rfl ?_
          refine ow_nil ?_
          refine cw_if_f rfl ?_
          refine cw_regseq ?_
          refine ow_y (y_move rfl) rfl rfl rfl ?_
          refine ow_cmp rfl rfl rfl rfl rfl (fun h114 => ?_) (fun h114 => ?_)
          · simp only [cmpP] at h114
            refine ow_y (y_move rfl) rfl rfl rfl ?_
            refine ow_y (y_move rfl) rfl rfl rfl ?_
            refine ow_cmp rfl rfl rfl rfl rfl (fun h117 => ?_) (fun h117 => ?_)
            · simp only [cmpP] at h117
              refine ow_y (y_pick_t rfl rfl) rfl rfl rfl ?_
              refine ow_y (y_assign rfl) rfl rfl rfl ?_
              refine ow_nil ?_
              refine cw_if_t rfl ?_
              refine cw_region ?_
              refine ow_y (y_move rfl) rfl rfl rfl ?_
              refine ow_y (y_bin rfl rfl (fun w => run_guard_int _ _ _ _ _ _ w) (fun w => run_sub8 _ (by omega) (by omega) w)) rfl rfl rfl ?_
              refine ow_y (y_assign rfl) rfl rfl rfl ?_
              refine ow_nil ?_
              repeat with_reducible first | refine thenQ_ret ?_ | refine thenQ_normal ?_ | refine thenQ_exit ?_ | refine blockQ_ret ?_ | refine blockQ_normal ?_ | refine blockQ_exit_same ?_ | refine blockQ_exit_ne rfl ?_
              refine cw_seq ?_
              refine cw_regseq ?_
              refine ow_y (y_move rfl) rfl rfl rfl ?_
              refine ow_y (y_move rfl) rfl rfl rfl ?_
              refine ow_y (y_conv_u8 rfl cv_3_5 (by omega) (by omega)) rfl rfl rfl ?_
              refine ow_cmp rfl rfl rfl rfl rfl (fun h137 => ?_) (fun h137 => ?_)
              · simp only [cmpP] at h137
                refine ow_nil ?_
                refine cw_if_t rfl ?_
                refine cw_regseq ?_
                refine ow_y (y_makeInterface rfl cc_158) rfl rfl rfl ?_
                refine ow_y (y_assign rfl) rfl rfl rfl ?_
                refine ow_y (y_assign rfl) rfl rfl rfl ?_
                refine ow_nil ?_
                refine cw_ret ?_
                repeat with_reducible first | refine thenQ_ret ?_ | refine thenQ_normal ?_ | refine thenQ_exit ?_ | refine blockQ_ret ?_ | refine blockQ_normal ?_ | refine blockQ_exit_same ?_ | refine blockQ_exit_ne rfl ?_
                refine body_ret (.two (.tmp rfl) (.tmp rfl)) ?_
                refine .inr ⟨?_, 0, 2, .inr rfl, rfl⟩
                rw [Bool.eq_false_iff]; intro hx
                have hh := hexOk_at hx hc
                have := hex_low hh
                rcases Nat.lt_or_ge 57 c.toNat with hbig | hsm
                · have := low_hex c hh hbig; omega
                · omega
              · simp only [cmpP] at h137
                refine ow_nil ?_
                refine cw_if_f rfl ?_
                refine cw_skip ?_
                repeat with_reducible first | refine thenQ_ret ?_ | refine thenQ_normal ?_ | refine thenQ_exit ?_ | refine blockQ_ret ?_ | refine blockQ_normal ?_ | refine blockQ_exit_same ?_ | refine blockQ_exit_ne rfl ?_
                refine cw_seq ?_
                refine cw_regseq ?_
                refine ow_y (y_move rfl) rfl rfl rfl ?_
                refine ow_y (y_move rfl) rfl rfl rfl ?_
                refine ow_cmp rfl rfl rfl rfl rfl (fun h141 => ?_) (fun h141 => ?_)
                · simp only [cmpP] at h141
                  refine ow_nil ?_
                  refine cw_if_t rfl ?_
                  refine cw_regseq ?_
                  refine ow_y (y_move rfl) rfl rfl rfl ?_
                  refine ow_y (y_makeInterface rfl cc_158) rfl rfl rfl ?_
                  refine ow_y (y_assign rfl) rfl rfl rfl ?_
                  refine ow_y (y_assign rfl) rfl rfl rfl ?_
                  refine ow_nil ?_
                  refine cw_ret ?_
                  repeat with_reducible first | refine thenQ_ret ?_ | refine thenQ_normal ?_ | refine thenQ_exit ?_ | refine blockQ_ret ?_ | refine blockQ_normal ?_ | refine blockQ_exit_same ?_ | refine blockQ_exit_ne rfl ?_
                  refine body_ret (.two (.tmp rfl) (.tmp rfl)) ?_
                  refine .inr ⟨?_, _, 1, .inl rfl, rfl⟩
                  rw [Bool.eq_false_iff]; intro hx
                  have := hexV_small hx p (by omega)
                  have := hhex hx
                  omega
                · simp only [cmpP] at h141
                  refine ow_nil ?_
                  refine cw_if_f rfl ?_
                  refine cw_skip ?_
                  repeat with_reducible first | refine thenQ_ret ?_ | refine thenQ_normal ?_ | refine thenQ_exit ?_ | refine blockQ_ret ?_ | refine blockQ_normal ?_ | refine blockQ_exit_same ?_ | refine blockQ_exit_ne rfl ?_
                  refine cw_regseq ?_
                  refine ow_y (y_move rfl) rfl rfl rfl ?_
                  refine ow_y (y_move rfl) rfl rfl rfl ?_
                  refine ow_y (y_conv_u64 rfl cv_3_51 (by omega) (by omega)) rfl rfl rfl ?_
                  refine ow_y (y_bin rfl rfl (fun w => run_guard_int _ _ _ _ _ _ w) (fun w => run_mul64 _ (by omega) (by omega) w)) rfl rfl rfl ?_
                  refine ow_y (y_assign rfl) rfl rfl rfl ?_
                  refine ow_nil ?_
                  refine cw_regseq ?_
                  refine ow_y (y_move rfl) rfl rfl rfl ?_
                  refine ow_y (y_move rfl) rfl rfl rfl ?_
                  refine ow_y (y_conv_u64 rfl cv_5_51 (by omega) (by omega)) rfl rfl rfl ?_
                  refine ow_y (y_bin rfl rfl (fun w => run_guard_int _ _ _ _ _ _ w) (fun w => run_add64 _ (by omega) (by omega) w)) rfl rfl rfl ?_
                  refine ow_y (y_assign rfl) rfl rfl rfl ?_
                  refine ow_nil ?_
                  refine cw_seq ?_
                  refine cw_regseq ?_
                  refine ow_y (y_move rfl) rfl rfl rfl ?_
                  refine ow_y (y_move rfl) rfl rfl rfl ?_
                  refine ow_cmp_f rfl rfl rfl rfl rfl (by simp only [cmpP]; try omega) ?_
                  refine ow_y (y_move rfl) rfl rfl rfl ?_
                  refine ow_y (y_move rfl) rfl rfl rfl ?_
                  refine ow_y (y_move rfl) rfl rfl rfl ?_
                  refine ow_cmp_f rfl rfl rfl rfl rfl (by simp only [cmpP]; try omega) ?_
                  refine ow_y (y_pick_f rfl rfl) rfl rfl rfl ?_
                  refine ow_nil ?_
                  refine cw_if_f rfl ?_
                  refine cw_skip ?_
                  repeat with_reducible first | refine thenQ_ret ?_ | refine thenQ_normal ?_ | refine thenQ_exit ?_ | refine blockQ_ret ?_ | refine blockQ_normal ?_ | refine blockQ_exit_same ?_ | refine blockQ_exit_ne rfl ?_
                  refine cw_region ?_
                  refine ow_y (y_move rfl) rfl rfl rfl ?_
                  refine ow_y (y_assign rfl) rfl rfl rfl ?_
                  refine ow_nil ?_
                  repeat with_reducible first | refine thenQ_ret ?_ | refine thenQ_normal ?_ | refine thenQ_exit ?_ | refine blockQ_ret ?_ | refine blockQ_normal ?_ | refine blockQ_exit_same ?_ | refine blockQ_exit_ne rfl ?_
                  refine cw_region ?_
                  refine ow_y (y_add64 rfl rfl (by omega)) rfl rfl rfl ?_
                  refine ow_y (y_move rfl) rfl rfl rfl ?_
                  refine ow_nil ?_
                  repeat with_reducible first | refine thenQ_ret ?_ | refine thenQ_normal ?_ | refine thenQ_exit ?_ | refine blockQ_ret ?_ | refine blockQ_normal ?_ | refine blockQ_exit_same ?_ | refine blockQ_exit_ne rfl ?_
                  refine ⟨(p + 1, n * 16 + ((c.toNat : Int) - 48)), _, ?_, ?_, (by repeat (first | exact EnvLe.nil _ | refine EnvLe.cons rfl ?_)), (by repeat (first | exact Split.nil | (apply Split.cons; · repeat (first | exact Pick.here | apply Pick.there))))⟩
                  · refine ⟨by simp only; omega, by simp only; omega, by simp only; omega, fun hx => ?_⟩
                    simp only
                    have hh := hexOk_at hx hc
                    have hv := hhex hx
                    rw [hexV_succ hc]
                    simp only [hexD]
                    rw [if_pos (by omega)]; omega
                  · simp only; omega
            · simp only [cmpP] at h117
              refine ow_y (y_pick_t rfl rfl) rfl rfl rfl ?_
              refine ow_y (y_assign rfl) rfl rfl rfl ?_
              refine ow_nil ?_
              refine cw_if_f rfl ?_
              refine cw_regseq ?_
              refine ow_y (y_move rfl) rfl rfl rfl ?_
              refine ow_call rfl rfl (by rfl) ct_102 (lower_c R _ c) ?_
              rintro _ _ ⟨rfl, rfl⟩
              have hlow := (lowB c).toNat_lt
              refine ow_cmp rfl rfl rfl rfl rfl (fun h124 => ?_) (fun h124 => ?_)
              · simp only [cmpP] at h124
                refine ow_y (y_move rfl) rfl rfl rfl ?_
                refine ow_y (y_move rfl) rfl rfl rfl ?_
                refine ow_call rfl rfl (by rfl) ct_102 (lower_c R _ c) ?_
                rintro _ _ ⟨rfl, rfl⟩
                have hlow := (lowB c).toNat_lt
                refine ow_cmp rfl rfl rfl rfl rfl (fun h128 => ?_) (fun h128 => ?_)
                · simp only [cmpP] at h128
                  refine ow_y (y_pick_t rfl rfl) rfl rfl rfl ?_
                  refine ow_y (y_assign rfl) rfl rfl rfl ?_
                  refine ow_nil ?_
                  refine cw_if_t rfl ?_
                  refine cw_region ?_
                  refine ow_y (y_move rfl) rfl rfl rfl ?_
                  refine ow_call rfl rfl (by rfl) ct_102 (lower_c R _ c) ?_
                  rintro _ _ ⟨rfl, rfl⟩
                  have hlow := (lowB c).toNat_lt
                  refine ow_y (y_bin rfl rfl (fun w => run_guard_int _ _ _ _ _ _ w) (fun w => run_sub8 _ (by omega) (by omega) w)) rfl rfl rfl ?_
                  refine ow_y (y_bin rfl rfl (fun w => run_guard_int _ _ _ _ _ _ w) (fun w => run_add8 _ (by omega) (by omega) w)) rfl rfl rfl ?_
                  refine ow_y (y_assign rfl) rfl rfl rfl ?_
                  refine ow_nil ?_
                  repeat with_reducible first | refine thenQ_ret ?_ | refine thenQ_normal ?_ | refine thenQ_exit ?_ | refine blockQ_ret ?_ | refine blockQ_normal ?_ | refine blockQ_exit_same ?_ | refine blockQ_exit_ne rfl ?_
                  refine cw_seq ?_
                  refine cw_regseq ?_
                  refine ow_y (y_move rfl) rfl rfl rfl ?_
                  refine ow_y (y_move rfl) rfl rfl rfl ?_
                  refine ow_y (y_conv_u8 rfl cv_3_5 (by omega) (by omega)) rfl rfl rfl ?_
                  refine ow_cmp rfl rfl rfl rfl rfl (fun h137 => ?_) (fun h137 => ?_)
                  · simp only [cmpP] at h137
                    refine ow_nil ?_
                    refine cw_if_t rfl ?_
                    refine cw_regseq ?_
                    refine ow_y (y_makeInterface rfl cc_158) rfl rfl rfl ?_
                    refine ow_y (y_assign rfl) rfl rfl rfl ?_
                    refine ow_y (y_assign rfl) rfl rfl rfl ?_
                    refine ow_nil ?_
                    refine cw_ret ?_
                    repeat with_reducible first | refine thenQ_ret ?_ | refine thenQ_normal ?_ | refine thenQ_exit ?_ | refine blockQ_ret ?_ | refine blockQ_normal ?_ | refine blockQ_exit_same ?_ | refine blockQ_exit_ne rfl ?_
                    refine body_ret (.two (.tmp rfl) (.tmp rfl)) ?_
                    refine .inr ⟨?_, 0, 2, .inr rfl, rfl⟩
                    rw [Bool.eq_false_iff]; intro hx
                    have hh := hexOk_at hx hc
                    have := hex_low hh
                    rcases Nat.lt_or_ge 57 c.toNat with hbig | hsm
                    · have := low_hex c hh hbig; omega
                    · omega
                  · simp only [cmpP] at h137
                    refine ow_nil ?_
                    refine cw_if_f rfl ?_
                    refine cw_skip ?_
                    repeat with_reducible first | refine thenQ_ret ?_ | refine thenQ_normal ?_ | refine thenQ_exit ?_ | refine blockQ_ret ?_ | refine blockQ_normal ?_ | refine blockQ_exit_same ?_ | refine blockQ_exit_ne rfl ?_
                    refine cw_seq ?_
                    refine cw_regseq ?_
                    refine ow_y (y_move rfl) rfl rfl rfl ?_
                    refine ow_y (y_move rfl) rfl rfl rfl ?_
                    refine ow_cmp rfl rfl rfl rfl rfl (fun h141 => ?_) (fun h141 => ?_)
                    · simp only [cmpP] at h141
                      refine ow_nil ?_
                      refine cw_if_t rfl ?_
                      refine cw_regseq ?_
                      refine ow_y (y_move rfl) rfl rfl rfl ?_
                      refine ow_y (y_makeInterface rfl cc_158) rfl rfl rfl ?_
                      refine ow_y (y_assign rfl) rfl rfl rfl ?_
                      refine ow_y (y_assign rfl) rfl rfl rfl ?_
                      refine ow_nil ?_
                      refine cw_ret ?_
                      repeat with_reducible first | refine thenQ_ret ?_ | refine thenQ_normal ?_ | refine thenQ_exit ?_ | refine blockQ_ret ?_ | refine blockQ_normal ?_ | refine blockQ_exit_same ?_ | refine blockQ_exit_ne rfl ?_
                      refine body_ret (.two (.tmp rfl) (.tmp rfl)) ?_
                      refine .inr ⟨?_, _, 1, .inl rfl, rfl⟩
                      rw [Bool.eq_false_iff]; intro hx
                      have := hexV_small hx p (by omega)
                      have := hhex hx
                      omega
                    · simp only [cmpP] at h141
                      refine ow_nil ?_
                      refine cw_if_f rfl ?_
                      refine cw_skip ?_
                      repeat with_reducible first | refine thenQ_ret ?_ | refine thenQ_normal ?_ | refine thenQ_exit ?_ | refine blockQ_ret ?_ | refine blockQ_normal ?_ | refine blockQ_exit_same ?_ | refine blockQ_exit_ne rfl ?_
                      refine cw_regseq ?_
                      refine ow_y (y_move rfl) rfl rfl rfl ?_
                      refine ow_y (y_move rfl) rfl rfl rfl ?_
                      refine ow_y (y_conv_u64 rfl cv_3_51 (by omega) (by omega)) rfl rfl rfl ?_
                      refine ow_y (y_bin rfl rfl (fun w => run_guard_int _ _ _ _ _ _ w) (fun w => run_mul64 _ (by omega) (by omega) w)) rfl rfl rfl ?_
                      refine ow_y (y_assign rfl) rfl rfl rfl ?_
                      refine ow_nil ?_
                      refine cw_regseq ?_
                      refine ow_y (y_move rfl) rfl rfl rfl ?_
                      refine ow_y (y_move rfl) rfl rfl rfl ?_
                      refine ow_y (y_conv_u64 rfl cv_5_51 (by omega) (by omega)) rfl rfl rfl ?_
                      refine ow_y (y_bin rfl rfl (fun w => run_guard_int _ _ _ _ _ _ w) (fun w => run_add64 _ (by omega) (by omega) w)) rfl rfl rfl ?_
                      refine ow_y (y_assign rfl) rfl rfl rfl ?_
                      refine ow_nil ?_
                      refine cw_seq ?_
                      refine cw_regseq ?_
                      refine ow_y (y_move rfl) rfl rfl rfl ?_
                      refine ow_y (y_move rfl) rfl rfl rfl ?_
                      refine ow_cmp_f rfl rfl rfl rfl rfl (by simp only [cmpP]; try omega) ?_
                      refine ow_y (y_move rfl) rfl rfl rfl ?_
                      refine ow_y (y_move rfl) rfl rfl rfl ?_
                      refine ow_y (y_move rfl) rfl rfl rfl ?_
                      refine ow_cmp_f rfl rfl rfl rfl rfl (by simp only [cmpP]; try omega) ?_
                      refine ow_y (y_pick_f rfl rfl) rfl rfl rfl ?_
                      refine ow_nil ?_
                      refine cw_if_f rfl ?_
                      refine cw_skip ?_
                      repeat with_reducible first | refine thenQ_ret ?_ | refine thenQ_normal ?_ | refine thenQ_exit ?_ | refine blockQ_ret ?_ | refine blockQ_normal ?_ | refine blockQ_exit_same ?_ | refine blockQ_exit_ne rfl ?_
                      refine cw_region ?_
                      refine ow_y (y_move rfl) rfl rfl rfl ?_
                      refine ow_y (y_assign rfl) rfl rfl rfl ?_
                      refine ow_nil ?_
                      repeat with_reducible first | refine thenQ_ret ?_ | refine thenQ_normal ?_ | refine thenQ_exit ?_ | refine blockQ_ret ?_ | refine blockQ_normal ?_ | refine blockQ_exit_same ?_ | refine blockQ_exit_ne rfl ?_
                      refine cw_region ?_
                      refine ow_y (y_add64 rfl rfl (by omega)) rfl rfl rfl ?_
                      refine ow_y (y_move rfl) rfl rfl rfl ?_
                      refine ow_nil ?_
                      repeat with_reducible first | refine thenQ_ret ?_ | refine thenQ_normal ?_ | refine thenQ_exit ?_ | refine blockQ_ret ?_ | refine blockQ_normal ?_ | refine blockQ_exit_same ?_ | refine blockQ_exit_ne rfl ?_
                      refine ⟨(p + 1, n * 16 + (((lowB c).toNat : Int) - 97 + 10)), _, ?_, ?_, (by repeat (first | exact EnvLe.nil _ | refine EnvLe.cons rfl ?_)), (by repeat (first | exact Split.nil | (apply Split.cons; · repeat (first | exact Pick.here | apply Pick.there))))⟩
                      · refine ⟨by simp only; omega, by simp only; omega, by simp only; omega, fun hx => ?_⟩
                        simp only
                        have hh := hexOk_at hx hc
                        have hv := hhex hx
                        rw [hexV_succ hc]
                        simp only [hexD]
                        have hbig : 57 < c.toNat := by have := hex_low hh; omega
                        have := low_hex c hh hbig
                        rw [if_neg (by omega)]; omega
                      · simp only; omega
                · simp only [cmpP] at h128
                  refine ow_y (y_pick_t rfl rfl) rfl rfl rfl ?_
                  refine ow_y (y_assign rfl) rfl rfl rfl ?_
                  refine ow_nil ?_
                  refine cw_if_f rfl ?_
                  refine cw_regseq ?_
                  refine ow_y (y_makeInterface rfl cc_158) rfl rfl rfl ?_
                  refine ow_y (y_assign rfl) rfl rfl rfl ?_
                  refine ow_y (y_assign rfl) rfl rfl rfl ?_
                  refine ow_nil ?_
                  refine cw_ret ?_
                  repeat with_reducible first | refine thenQ_ret ?_ | refine thenQ_normal ?_ | refine thenQ_exit ?_ | refine blockQ_ret ?_ | refine blockQ_normal ?_ | refine blockQ_exit_same ?_ | refine blockQ_exit_ne rfl ?_
                  refine body_ret (.two (.tmp rfl) (.tmp rfl)) ?_
                  refine .inr ⟨?_, 0, 2, .inr rfl, rfl⟩
                  rw [Bool.eq_false_iff]; intro hx
                  have hh := hexOk_at hx hc
                  have := hex_low hh
                  rcases Nat.lt_or_ge 57 c.toNat with hbig | hsm
                  · have := low_hex c hh hbig; omega
                  · omega
              · simp only [cmpP] at h124
                refine ow_y (y_move rfl) rfl rfl rfl ?_
                refine ow_skip rfl rfl rfl ?_
                refine ow_skip rfl rfl rfl ?_
                refine ow_skip rfl rfl rfl ?_
                refine ow_y (y_pick_f rfl rfl) rfl rfl rfl ?_
                refine ow_y (y_assign rfl) rfl rfl rfl ?_
                refine ow_nil ?_
                refine cw_if_f rfl ?_
                refine cw_regseq ?_
                refine ow_y (y_makeInterface rfl cc_158) rfl rfl rfl ?_
                refine ow_y (y_assign rfl) rfl rfl rfl ?_
                refine ow_y (y_assign rfl) rfl rfl rfl ?_
                refine ow_nil ?_
                refine cw_ret ?_
                repeat with_reducible first | refine thenQ_ret ?_ | refine thenQ_normal ?_ | refine thenQ_exit ?_ | refine blockQ_ret ?_ | refine blockQ_normal ?_ | refine blockQ_exit_same ?_ | refine blockQ_exit_ne rfl ?_
                refine body_ret (.two (.tmp rfl) (.tmp rfl)) ?_
                refine .inr ⟨?_, 0, 2, .inr rfl, rfl⟩
                rw [Bool.eq_false_iff]; intro hx
                have hh := hexOk_at hx hc
                have := hex_low hh
                rcases Nat.lt_or_ge 57 c.toNat with hbig | hsm
                · have := low_hex c hh hbig; omega
                · omega
          · simp only [cmpP] at h114
            refine ow_y (y_move rfl) rfl rfl rfl ?_
            refine ow_skip rfl rfl rfl ?_
            refine ow_skip rfl rfl rfl ?_
            refine ow_y (y_pick_f rfl rfl) rfl rfl rfl ?_
            refine ow_y (y_assign rfl) rfl rfl rfl ?_
            refine ow_nil ?_
            refine cw_if_f rfl ?_
            refine cw_regseq ?_
            refine ow_y (y_move rfl) rfl rfl rfl ?_
            refine ow_call rfl rfl (by rfl) ct_102 (lower_c R _ c) ?_
            rintro _ _ ⟨rfl, rfl⟩
            have hlow := (lowB c).toNat_lt
            refine ow_cmp rfl rfl rfl rfl rfl (fun h124 => ?_) (fun h124 => ?_)
            · simp only [cmpP] at h124
              refine ow_y (y_move rfl) rfl rfl rfl ?_
              refine ow_y (y_move rfl) rfl rfl rfl ?_
              refine ow_call rfl rfl (by rfl) ct_102 (lower_c R _ c) ?_
              rintro _ _ ⟨rfl, rfl⟩
              have hlow := (lowB c).toNat_lt
              refine ow_cmp rfl rfl rfl rfl rfl (fun h128 => ?_) (fun h128 => ?_)
              · simp only [cmpP] at h128
                refine ow_y (y_pick_t rfl rfl) rfl rfl rfl ?_
                refine ow_y (y_assign rfl) rfl rfl rfl ?_
                refine ow_nil ?_
                refine cw_if_t rfl ?_
                refine cw_region ?_
                refine ow_y (y_move rfl) rfl rfl rfl ?_
                refine ow_call rfl rfl (by rfl) ct_102 (lower_c R _ c) ?_
                rintro _ _ ⟨rfl, rfl⟩
                have hlow := (lowB c).toNat_lt
                refine ow_y (y_bin rfl rfl (fun w => run_guard_int _ _ _ _ _ _ w) (fun w => run_sub8 _ (by omega) (by omega) w)) rfl rfl rfl ?_
                refine ow_y (y_bin rfl rfl (fun w => run_guard_int _ _ _ _ _ _ w) (fun w => run_add8 _ (by omega) (by omega) w)) rfl rfl rfl ?_
                refine ow_y (y_assign rfl) rfl rfl rfl ?_
                refine ow_nil ?_
                repeat with_reducible first | refine thenQ_ret ?_ | refine thenQ_normal ?_ | refine thenQ_exit ?_ | refine blockQ_ret ?_ | refine blockQ_normal ?_ | refine blockQ_exit_same ?_ | refine blockQ_exit_ne rfl ?_
                refine cw_seq ?_
                refine cw_regseq ?_
                refine ow_y (y_move rfl) rfl rfl rfl ?_
                refine ow_y (y_move rfl) rfl rfl rfl ?_
                refine ow_y (y_conv_u8 rfl cv_3_5 (by omega) (by omega)) rfl rfl rfl ?_
                refine ow_cmp rfl rfl rfl rfl rfl (fun h137 => ?_) (fun h137 => ?_)
                · simp only [cmpP] at h137
                  refine ow_nil ?_
                  refine cw_if_t rfl ?_
                  refine cw_regseq ?_
                  refine ow_y (y_makeInterface rfl cc_158) rfl rfl rfl ?_
                  refine ow_y (y_assign rfl) rfl rfl rfl ?_
                  refine ow_y (y_assign rfl) rfl rfl rfl ?_
                  refine ow_nil ?_
                  refine cw_ret ?_
                  repeat with_reducible first | refine thenQ_ret ?_ | refine thenQ_normal ?_ | refine thenQ_exit ?_ | refine blockQ_ret ?_ | refine blockQ_normal ?_ | refine blockQ_exit_same ?_ | refine blockQ_exit_ne rfl ?_
                  refine body_ret (.two (.tmp rfl) (.tmp rfl)) ?_
                  refine .inr ⟨?_, 0, 2, .inr rfl, rfl⟩
                  rw [Bool.eq_false_iff]; intro hx
                  have hh := hexOk_at hx hc
                  have := hex_low hh
                  rcases Nat.lt_or_ge 57 c.toNat with hbig | hsm
                  · have := low_hex c hh hbig; omega
                  · omega
                · simp only [cmpP] at h137
                  refine ow_nil ?_
                  refine cw_if_f rfl ?_
                  refine cw_skip ?_
                  repeat with_reducible first | refine thenQ_ret ?_ | refine thenQ_normal ?_ | refine thenQ_exit ?_ | refine blockQ_ret ?_ | refine blockQ_normal ?_ | refine blockQ_exit_same ?_ | refine blockQ_exit_ne rfl ?_
                  refine cw_seq ?_
                  refine cw_regseq ?_
                  refine ow_y (y_move rfl) rfl rfl rfl ?_
                  refine ow_y (y_move rfl) rfl rfl rfl ?_
                  refine ow_cmp rfl rfl rfl rfl rfl (fun h141 => ?_) (fun h141 => ?_)
                  · simp only [cmpP] at h141
                    refine ow_nil ?_
                    refine cw_if_t rfl ?_
                    refine cw_regseq ?_
                    refine ow_y (y_move rfl) rfl rfl rfl ?_
                    refine ow_y (y_makeInterface rfl cc_158) rfl rfl rfl ?_
                    refine ow_y (y_assign rfl) rfl rfl rfl ?_
                    refine ow_y (y_assign rfl) rfl rfl rfl ?_
                    refine ow_nil ?_
                    refine cw_ret ?_
                    repeat with_reducible first | refine thenQ_ret ?_ | refine thenQ_normal ?_ | refine thenQ_exit ?_ | refine blockQ_ret ?_ | refine blockQ_normal ?_ | refine blockQ_exit_same ?_ | refine blockQ_exit_ne rfl ?_
                    refine body_ret (.two (.tmp rfl) (.tmp rfl)) ?_
                    refine .inr ⟨?_, _, 1, .inl rfl, rfl⟩
                    rw [Bool.eq_false_iff]; intro hx
                    have := hexV_small hx p (by omega)
                    have := hhex hx
                    omega
                  · simp only [cmpP] at h141
                    refine ow_nil ?_
                    refine cw_if_f rfl ?_
                    refine cw_skip ?_
                    repeat with_reducible first | refine thenQ_ret ?_ | refine thenQ_normal ?_ | refine thenQ_exit ?_ | refine blockQ_ret ?_ | refine blockQ_normal ?_ | refine blockQ_exit_same ?_ | refine blockQ_exit_ne rfl ?_
                    refine cw_regseq ?_
                    refine ow_y (y_move rfl) rfl rfl rfl ?_
                    refine ow_y (y_move rfl) rfl rfl rfl ?_
                    refine ow_y (y_conv_u64 rfl cv_3_51 (by omega) (by omega)) rfl rfl rfl ?_
                    refine ow_y (y_bin rfl rfl (fun w => run_guard_int _ _ _ _ _ _ w) (fun w => run_mul64 _ (by omega) (by omega) w)) rfl rfl rfl ?_
                    refine ow_y (y_assign rfl) rfl rfl rfl ?_
                    refine ow_nil ?_
                    refine cw_regseq ?_
                    refine ow_y (y_move rfl) rfl rfl rfl ?_
                    refine ow_y (y_move rfl) rfl rfl rfl ?_
                    refine ow_y (y_conv_u64 rfl cv_5_51 (by omega) (by omega)) rfl rfl rfl ?_
                    refine ow_y (y_bin rfl rfl (fun w => run_guard_int _ _ _ _ _ _ w) (fun w => run_add64 _ (by omega) (by omega) w)) rfl rfl rfl ?_
                    refine ow_y (y_assign rfl) rfl rfl rfl ?_
                    refine ow_nil ?_
                    refine cw_seq ?_
                    refine cw_regseq ?_
                    refine ow_y (y_move rfl) rfl rfl rfl ?_
                    refine ow_y (y_move rfl) rfl rfl rfl ?_
                    refine ow_cmp_f rfl rfl rfl rfl rfl (by simp only [cmpP]; try omega) ?_
                    refine ow_y (y_move rfl) rfl rfl rfl ?_
                    refine ow_y (y_move rfl) rfl rfl rfl ?_
                    refine ow_y (y_move rfl) rfl rfl rfl ?_
                    refine ow_cmp_f rfl rfl rfl rfl rfl (by simp only [cmpP]; try omega) ?_
                    refine ow_y (y_pick_f rfl rfl) rfl rfl rfl ?_
                    refine ow_nil ?_
                    refine cw_if_f rfl ?_
                    refine cw_skip ?_
                    repeat with_reducible first | refine thenQ_ret ?_ | refine thenQ_normal ?_ | refine thenQ_exit ?_ | refine blockQ_ret ?_ | refine blockQ_normal ?_ | refine blockQ_exit_same ?_ | refine blockQ_exit_ne rfl ?_
                    refine cw_region ?_
                    refine ow_y (y_move rfl) rfl rfl rfl ?_
                    refine ow_y (y_assign rfl) rfl rfl rfl ?_
                    refine ow_nil ?_
                    repeat with_reducible first | refine thenQ_ret ?_ | refine thenQ_normal ?_ | refine thenQ_exit ?_ | refine blockQ_ret ?_ | refine blockQ_normal ?_ | refine blockQ_exit_same ?_ | refine blockQ_exit_ne rfl ?_
                    refine cw_region ?_
                    refine ow_y (y_add64 rfl rfl (by omega)) rfl rfl rfl ?_
                    refine ow_y (y_move rfl) rfl rfl rfl ?_
                    refine ow_nil ?_
                    repeat with_reducible first | refine thenQ_ret ?_ | refine thenQ_normal ?_ | refine thenQ_exit ?_ | refine blockQ_ret ?_ | refine blockQ_normal ?_ | refine blockQ_exit_same ?_ | refine blockQ_exit_ne rfl ?_
                    refine ⟨(p + 1, n * 16 + (((lowB c).toNat : Int) - 97 + 10)), _, ?_, ?_, (by repeat (first | exact EnvLe.nil _ | refine EnvLe.cons rfl ?_)), (by repeat (first | exact Split.nil | (apply Split.cons; · repeat (first | exact Pick.here | apply Pick.there))))⟩
                    · refine ⟨by simp only; omega, by simp only; omega, by simp only; omega, fun hx => ?_⟩
                      simp only
                      have hh := hexOk_at hx hc
                      have hv := hhex hx
                      rw [hexV_succ hc]
                      simp only [hexD]
                      have hbig : 57 < c.toNat := by have := hex_low hh; omega
                      have := low_hex c hh hbig
                      rw [if_neg (by omega)]; omega
                    · simp only; omega
              · simp only [cmpP] at h128
                refine ow_y (y_pick_t rfl rfl) rfl rfl rfl ?_
                refine ow_y (y_assign rfl) rfl rfl rfl ?_
                refine ow_nil ?_
                refine cw_if_f rfl ?_
                refine cw_regseq ?_
                refine ow_y (y_makeInterface rfl cc_158) rfl rfl rfl ?_
                refine ow_y (y_assign rfl) rfl rfl rfl ?_
                refine ow_y (y_assign rfl) rfl rfl rfl ?_
                refine ow_nil ?_
                refine cw_ret ?_
                repeat with_reducible first | refine thenQ_ret ?_ | refine thenQ_normal ?_ | refine thenQ_exit ?_ | refine blockQ_ret ?_ | refine blockQ_normal ?_ | refine blockQ_exit_same ?_ | refine blockQ_exit_ne rfl ?_
                refine body_ret (.two (.tmp rfl) (.tmp rfl)) ?_
                refine .inr ⟨?_, 0, 2, .inr rfl, rfl⟩
                rw [Bool.eq_false_iff]; intro hx
                have hh := hexOk_at hx hc
                have := hex_low hh
                rcases Nat.lt_or_ge 57 c.toNat with hbig | hsm
                · have := low_hex c hh hbig; omega
                · omega
            · simp only [cmpP] at h124
              refine ow_y (y_move rfl) rfl rfl rfl ?_
              refine ow_skip rfl rfl rfl ?_
              refine ow_skip rfl rfl rfl ?_
              refine ow_skip rfl rfl rfl ?_
              refine ow_y (y_pick_f rfl rfl) rfl rfl rfl ?_
              refine ow_y (y_assign rfl) rfl rfl rfl ?_
              refine ow_nil ?_
              refine cw_if_f rfl ?_
              refine cw_regseq ?_
              refine ow_y (y_makeInterface rfl cc_158) rfl rfl rfl ?_
              refine ow_y (y_assign rfl) rfl rfl rfl ?_
              refine ow_y (y_assign rfl) rfl rfl rfl ?_
              refine ow_nil ?_
              refine cw_ret ?_
              repeat with_reducible first | refine thenQ_ret ?_ | refine thenQ_normal ?_ | refine thenQ_exit ?_ | refine blockQ_ret ?_ | refine blockQ_normal ?_ | refine blockQ_exit_same ?_ | refine blockQ_exit_ne rfl ?_
              refine body_ret (.two (.tmp rfl) (.tmp rfl)) ?_
              refine .inr ⟨?_, 0, 2, .inr rfl, rfl⟩
              rw [Bool.eq_false_iff]; intro hx
              have hh := hexOk_at hx hc
              have := hex_low hh
              rcases Nat.lt_or_ge 57 c.toNat with hbig | hsm
              · have := low_hex c hh hbig; omega
              · omega
        · simp only [cmpP] at h108
          refine ow_y (y_move rfl) rfl rfl rfl ?_
          refine ow_skip rfl rfl rfl ?_
          refine ow_y (y_pick_f rfl rfl) rfl rfl rfl ?_
          refine ow_y (y_assign rfl) rfl rfl rfl ?_
          refine ow_nil ?_
          refine cw_if_f rfl ?_
          refine cw_regseq ?_
          refine ow_y (y_move rfl) rfl rfl rfl ?_
          refine ow_cmp rfl rfl rfl rfl rfl (fun h114 => ?_) (fun h114 => ?_)
          · simp only [cmpP] at h114
            refine ow_y (y_move rfl) rfl rfl rfl ?_
            refine ow_y (y_move rfl) rfl rfl rfl ?_
            refine ow_cmp rfl rfl rfl rfl rfl (fun h117 => ?_) (fun h117 => ?_)
            · simp only [cmpP] at h117
              refine ow_y (y_pick_t rfl rfl) rfl rfl rfl ?_
              refine ow_y (y_assign rfl) rfl rfl rfl ?_
              refine ow_nil ?_
              refine cw_if_t rfl ?_
              refine cw_region ?_
              refine ow_y (y_move rfl) rfl rfl rfl ?_
              refine ow_y (y_bin rfl rfl (fun w => run_guard_int _ _ _ _ _ _ w) (fun w => run_sub8 _ (by omega) (by omega) w)) rfl rfl rfl ?_
              refine ow_y (y_assign rfl) rfl rfl rfl ?_
              refine ow_nil ?_
              repeat with_reducible first | refine thenQ_ret ?_ | refine thenQ_normal ?_ | refine thenQ_exit ?_ | refine blockQ_ret ?_ | refine blockQ_normal ?_ | refine blockQ_exit_same ?_ | refine blockQ_exit_ne rfl ?_
              refine cw_seq ?_
              refine cw_regseq ?_
              refine ow_y (y_move rfl) rfl rfl rfl ?_
              refine ow_y (y_move rfl) rfl rfl rfl ?_
              refine ow_y (y_conv_u8 rfl cv_3_5 (by omega) (by omega)) rfl rfl rfl ?_
              refine ow_cmp rfl rfl rfl rfl rfl (fun h137 => ?_) (fun h137 => ?_)
              · simp only [cmpP] at h137
                refine ow_nil ?_
                refine cw_if_t rfl ?_
                refine cw_regseq ?_
                refine ow_y (y_makeInterface rfl cc_158) rfl rfl rfl ?_
                refine ow_y (y_assign rfl) rfl rfl rfl ?_
                refine ow_y (y_assign rfl) rfl rfl rfl ?_
                refine ow_nil ?_
                refine cw_ret ?_
                repeat with_reducible first | refine thenQ_ret ?_ | refine thenQ_normal ?_ | refine thenQ_exit ?_ | refine blockQ_ret ?_ | refine blockQ_normal ?_ | refine blockQ_exit_same ?_ | refine blockQ_exit_ne rfl ?_
                refine body_ret (.two (.tmp rfl) (.tmp rfl)) ?_
                refine .inr ⟨?_, 0, 2, .inr rfl, rfl⟩
                rw [Bool.eq_false_iff]; intro hx
                have hh := hexOk_at hx hc
                have := hex_low hh
                rcases Nat.lt_or_ge 57 c.toNat with hbig | hsm
                · have := low_hex c hh hbig; omega
                · omega
              · simp only [cmpP] at h137
                refine ow_nil ?_
                refine cw_if_f rfl ?_
                refine cw_skip ?_
                repeat with_reducible first | refine thenQ_ret ?_ | refine thenQ_normal ?_ | refine thenQ_exit ?_ | refine blockQ_ret ?_ | refine blockQ_normal ?_ | refine blockQ_exit_same ?_ | refine blockQ_exit_ne rfl ?_
                refine cw_seq ?_
                refine cw_regseq ?_
                refine ow_y (y_move rfl) rfl rfl rfl ?_
                refine ow_y (y_move rfl) rfl rfl rfl ?_
                refine ow_cmp rfl rfl rfl rfl rfl (fun h141 => ?_) (fun h141 => ?_)
                · simp only [cmpP] at h141
                  refine ow_nil ?_
                  refine cw_if_t rfl ?_
                  refine cw_regseq ?_
                  refine ow_y (y_move rfl) rfl rfl rfl ?_
                  refine ow_y (y_makeInterface rfl cc_158) rfl rfl rfl ?_
                  refine ow_y (y_assign rfl) rfl rfl rfl ?_
                  refine ow_y (y_assign rfl) rfl rfl rfl ?_
                  refine ow_nil ?_
                  refine cw_ret ?_
                  repeat with_reducible first | refine thenQ_ret ?_ | refine thenQ_normal ?_ | refine thenQ_exit ?_ | refine blockQ_ret ?_ | refine blockQ_normal ?_ | refine blockQ_exit_same ?_ | refine blockQ_exit_ne rfl ?_
                  refine body_ret (.two (.tmp rfl) (.tmp rfl)) ?_
                  refine .inr ⟨?_, _, 1, .inl rfl, rfl⟩
                  rw [Bool.eq_false_iff]; intro hx
                  have := hexV_small hx p (by omega)
                  have := hhex hx
                  omega
                · simp only [cmpP] at h141
                  refine ow_nil ?_
                  refine cw_if_f rfl ?_
                  refine cw_skip ?_
                  repeat with_reducible first | refine thenQ_ret ?_ | refine thenQ_normal ?_ | refine thenQ_exit ?_ | refine blockQ_ret ?_ | refine blockQ_normal ?_ | refine blockQ_exit_same ?_ | refine blockQ_exit_ne rfl ?_
                  refine cw_regseq ?_
                  refine ow_y (y_move rfl) rfl rfl rfl ?_
                  refine ow_y (y_move rfl) rfl rfl rfl ?_
                  refine ow_y (y_conv_u64 rfl cv_3_51 (by omega) (by omega)) rfl rfl rfl ?_
                  refine ow_y (y_bin rfl rfl (fun w => run_guard_int _ _ _ _ _ _ w) (fun w => run_mul64 _ (by omega) (by omega) w)) rfl rfl rfl ?_
                  refine ow_y (y_assign rfl) rfl rfl rfl ?_
                  refine ow_nil ?_
                  refine cw_regseq ?_
                  refine ow_y (y_move rfl) rfl rfl rfl ?_
                  refine ow_y (y_move rfl) rfl rfl rfl ?_
                  refine ow_y (y_conv_u64 rfl cv_5_51 (by omega) (by omega)) rfl rfl rfl ?_
                  refine ow_y (y_bin rfl rfl (fun w => run_guard_int _ _ _ _ _ _ w) (fun w => run_add64 _ (by omega) (by omega) w)) rfl rfl rfl ?_
                  refine ow_y (y_assign rfl) rfl rfl rfl ?_
                  refine ow_nil ?_
                  refine cw_seq ?_
                  refine cw_regseq ?_
                  refine ow_y (y_move rfl) rfl rfl rfl ?_
                  refine ow_y (y_move rfl) rfl rfl rfl ?_
                  refine ow_cmp_f rfl rfl rfl rfl rfl (by simp only [cmpP]; try omega) ?_
                  refine ow_y (y_move rfl) rfl rfl rfl ?_
                  refine ow_y (y_move rfl) rfl rfl rfl ?_
                  refine ow_y (y_move rfl) rfl rfl rfl ?_
                  refine ow_cmp_f rfl rfl rfl rfl rfl (by simp only [cmpP]; try omega) ?_
                  refine ow_y (y_pick_f rfl rfl) rfl rfl rfl ?_
                  refine ow_nil ?_
                  refine cw_if_f rfl ?_
                  refine cw_skip ?_
                  repeat with_reducible first | refine thenQ_ret ?_ | refine thenQ_normal ?_ | refine thenQ_exit ?_ | refine blockQ_ret ?_ | refine blockQ_normal ?_ | refine blockQ_exit_same ?_ | refine blockQ_exit_ne rfl ?_
                  refine cw_region ?_
                  refine ow_y (y_move rfl) rfl rfl rfl ?_
                  refine ow_y (y_assign rfl) rfl rfl rfl ?_
                  refine ow_nil ?_
                  repeat with_reducible first | refine thenQ_ret ?_ | refine thenQ_normal ?_ | refine thenQ_exit ?_ | refine blockQ_ret ?_ | refine blockQ_normal ?_ | refine blockQ_exit_same ?_ | refine blockQ_exit_ne rfl ?_
                  refine cw_region ?_
                  refine ow_y (y_add64 rfl rfl (by omega)) rfl rfl rfl ?_
                  refine ow_y (y_move rfl) rfl rfl rfl ?_
                  refine ow_nil ?_
                  repeat with_reducible first | refine thenQ_ret ?_ | refine thenQ_normal ?_ | refine thenQ_exit ?_ | refine blockQ_ret ?_ | refine blockQ_normal ?_ | refine blockQ_exit_same ?_ | refine blockQ_exit_ne rfl ?_
                  refine ⟨(p + 1, n * 16 + ((c.toNat : Int) - 48)), _, ?_, ?_, (by repeat (first | exact EnvLe.nil _ | refine EnvLe.cons rfl ?_)), (by repeat (first | exact Split.nil | (apply Split.cons; · repeat (first | exact Pick.here | apply Pick.there))))⟩
                  · refine ⟨by simp only; omega, by simp only; omega, by simp only; omega, fun hx => ?_⟩
                    simp only
                    have hh := hexOk_at hx hc
                    have hv := hhex hx
                    rw [hexV_succ hc]
                    simp only [hexD]
                    rw [if_pos (by omega)]; omega
                  · simp only; omega
            · simp only [cmpP] at h117
              refine ow_y (y_pick_t rfl rfl) rfl rfl rfl ?_
              refine ow_y (y_assign rfl) rfl rfl rfl ?_
              refine ow_nil ?_
              refine cw_if_f rfl ?_
              refine cw_regseq ?_
              refine ow_y (y_move rfl) rfl rfl rfl ?_
              refine ow_call rfl rfl (by rfl) ct_102 (lower_c R _ c) ?_
              rintro _ _ ⟨rfl, rfl⟩
              have hlow := (lowB c).toNat_lt
              refine ow_cmp rfl rfl rfl rfl rfl (fun h124 => ?_) (fun h124 => ?_)
              · simp only [cmpP] at h124
                refine ow_y (y_move rfl) rfl rfl rfl ?_
                refine ow_y (y_move rfl) rfl rfl rfl ?_
                refine ow_call rfl rfl (by rfl) ct_102 (lower_c R _ c) ?_
                rintro _ _ ⟨rfl, rfl⟩
                have hlow := (lowB c).toNat_lt
                refine ow_cmp rfl rfl rfl rfl rfl (fun h128 => ?_) (fun h128 => ?_)
                · simp only [cmpP] at h128
                  refine ow_y (y_pick_t rfl rfl) rfl rfl rfl ?_
                  refine ow_y (y_assign rfl) rfl rfl rfl ?_
                  refine ow_nil ?_
                  refine cw_if_t rfl ?_
                  refine cw_region ?_
                  refine ow_y (y_move rfl) rfl rfl rfl ?_
                  refine ow_call rfl rfl (by rfl) ct_102 (lower_c R _ c) ?_
                  rintro _ _ ⟨rfl, rfl⟩
                  have hlow := (lowB c).toNat_lt
                  refine ow_y (y_bin rfl rfl (fun w => run_guard_int _ _ _ _ _ _ w) (fun w => run_sub8 _ (by omega) (by omega) w)) rfl rfl rfl ?_
                  refine ow_y (y_bin rfl rfl (fun w => run_guard_int _ _ _ _ _ _ w) (fun w => run_add8 _ (by omega) (by omega) w)) rfl rfl rfl ?_
                  refine ow_y (y_assign rfl) rfl rfl rfl ?_
                  refine ow_nil ?_
                  repeat with_reducible first | refine thenQ_ret ?_ | refine thenQ_normal ?_ | refine thenQ_exit ?_ | refine blockQ_ret ?_ | refine blockQ_normal ?_ | refine blockQ_exit_same ?_ | refine blockQ_exit_ne rfl ?_
                  refine cw_seq ?_
                  refine cw_regseq ?_
                  refine ow_y (y_move rfl) rfl rfl rfl ?_
                  refine ow_y (y_move rfl) rfl rfl rfl ?_
                  refine ow_y (y_conv_u8 rfl cv_3_5 (by omega) (by omega)) rfl rfl rfl ?_
                  refine ow_cmp rfl rfl rfl rfl rfl (fun h137 => ?_) (fun h137 => ?_)
                  · simp only [cmpP] at h137
                    refine ow_nil ?_
                    refine cw_if_t rfl ?_
                    refine cw_regseq ?_
                    refine ow_y (y_makeInterface rfl cc_158) rfl rfl rfl ?_
                    refine ow_y (y_assign rfl) rfl rfl rfl ?_
                    refine ow_y (y_assign rfl) rfl rfl rfl ?_
                    refine ow_nil ?_
                    refine cw_ret ?_
                    repeat with_reducible first | refine thenQ_ret ?_ | refine thenQ_normal ?_ | refine thenQ_exit ?_ | refine blockQ_ret ?_ | refine blockQ_normal ?_ | refine blockQ_exit_same ?_ | refine blockQ_exit_ne rfl ?_
                    refine body_ret (.two (.tmp rfl) (.tmp rfl)) ?_
                    refine .inr ⟨?_, 0, 2, .inr rfl, rfl⟩
                    rw [Bool.eq_false_iff]; intro hx
                    have hh := hexOk_at hx hc
                    have := hex_low hh
                    rcases Nat.lt_or_ge 57 c.toNat with hbig | hsm
                    · have := low_hex c hh hbig; omega
                    · omega
                  · simp only [cmpP] at h137
                    refine ow_nil ?_
                    refine cw_if_f rfl ?_
                    refine cw_skip ?_
                    repeat with_reducible first | refine thenQ_ret ?_ | refine thenQ_normal ?_ | refine thenQ_exit ?_ | refine blockQ_ret ?_ | refine blockQ_normal ?_ | refine blockQ_exit_same ?_ | refine blockQ_exit_ne rfl ?_
                    refine cw_seq ?_
                    refine cw_regseq ?_
                    refine ow_y (y_move rfl) rfl rfl rfl ?_
                    refine ow_y (y_move rfl) rfl rfl rfl ?_
                    refine ow_cmp rfl rfl rfl rfl rfl (fun h141 => ?_) (fun h141 => ?_)
                    · simp only [cmpP] at h141
                      refine ow_nil ?_
                      refine cw_if_t rfl ?_
                      refine cw_regseq ?_
                      refine ow_y (y_move rfl) rfl rfl rfl ?_
                      refine ow_y (y_makeInterface rfl cc_158) rfl rfl rfl ?_
                      refine ow_y (y_assign rfl) rfl rfl rfl ?_
                      refine ow_y (y_assign rfl) rfl rfl rfl ?_
                      refine ow_nil ?_
                      refine cw_ret ?_
                      repeat with_reducible first | refine thenQ_ret ?_ | refine thenQ_normal ?_ | refine thenQ_exit ?_ | refine blockQ_ret ?_ | refine blockQ_normal ?_ | refine blockQ_exit_same ?_ | refine blockQ_exit_ne rfl ?_
                      refine body_ret (.two (.tmp rfl) (.tmp rfl)) ?_
                      refine .inr ⟨?_, _, 1, .inl rfl, rfl⟩
                      rw [Bool.eq_false_iff]; intro hx
                      have := hexV_small hx p (by omega)
                      have := hhex hx
                      omega
                    · simp only [cmpP] at h141
                      refine ow_nil ?_
                      refine cw_if_f rfl ?_
                      refine cw_skip ?_
                      repeat with_reducible first | refine thenQ_ret ?_ | refine thenQ_normal ?_ | refine thenQ_exit ?_ | refine blockQ_ret ?_ | refine blockQ_normal ?_ | refine blockQ_exit_same ?_ | refine blockQ_exit_ne rfl ?_
                      refine cw_regseq ?_
                      refine ow_y (y_move rfl) rfl rfl rfl ?_
                      refine ow_y (y_move rfl) rfl rfl rfl ?_
                      refine ow_y (y_conv_u64 rfl cv_3_51 (by omega) (by omega)) rfl rfl rfl ?_
                      refine ow_y (y_bin rfl rfl (fun w => run_guard_int _ _ _ _ _ _ w) (fun w => run_mul64 _ (by omega) (by omega) w)) rfl rfl rfl ?_
                      refine ow_y (y_assign rfl) rfl rfl rfl ?_
                      refine ow_nil ?_
                      refine cw_regseq ?_
                      refine ow_y (y_move rfl) rfl rfl rfl ?_
                      refine ow_y (y_move rfl) rfl rfl rfl ?_
                      refine ow_y (y_conv_u64 rfl cv_5_51 (by omega) (by omega)) rfl rfl rfl ?_
                      refine ow_y (y_bin rfl rfl (fun w => run_guard_int _ _ _ _ _ _ w) (fun w => run_add64 _ (by omega) (by omega) w)) rfl rfl rfl ?_
                      refine ow_y (y_assign rfl) rfl rfl rfl ?_
                      refine ow_nil ?_
                      refine cw_seq ?_
                      refine cw_regseq ?_
                      refine ow_y (y_move rfl) rfl rfl rfl ?_
                      refine ow_y (y_move rfl) rfl rfl rfl ?_
                      refine ow_cmp_f rfl rfl rfl rfl rfl (by simp only [cmpP]; try omega) ?_
                      refine ow_y (y_move rfl) rfl rfl rfl ?_
                      refine ow_y (y_move rfl) rfl rfl rfl ?_
                      refine ow_y (y_move rfl) rfl rfl rfl ?_
                      refine ow_cmp_f rfl rfl rfl rfl rfl (by simp only [cmpP]; try omega) ?_
                      refine ow_y (y_pick_f rfl rfl) rfl rfl rfl ?_
                      refine ow_nil ?_
                      refine cw_if_f rfl ?_
                      refine cw_skip ?_
                      repeat with_reducible first | refine thenQ_ret ?_ | refine thenQ_normal ?_ | refine thenQ_exit ?_ | refine blockQ_ret ?_ | refine blockQ_normal ?_ | refine blockQ_exit_same ?_ | refine blockQ_exit_ne rfl ?_
                      refine cw_region ?_
                      refine ow_y (y_move rfl) rfl rfl rfl ?_
                      refine ow_y (y_assign rfl) rfl rfl rfl ?_
                      refine ow_nil ?_
                      repeat with_reducible first | refine thenQ_ret ?_ | refine thenQ_normal ?_ | refine thenQ_exit ?_ | refine blockQ_ret ?_ | refine blockQ_normal ?_ | refine blockQ_exit_same ?_ | refine blockQ_exit_ne rfl ?_
                      refine cw_region ?_
                      refine ow_y (y_add64 rfl rfl (by omega)) rfl rfl rfl ?_
                      refine ow_y (y_move rfl) rfl rfl rfl ?_
                      refine ow_nil ?_
                      repeat with_reducible first | refine thenQ_ret ?_ | refine thenQ_normal ?_ | refine thenQ_exit ?_ | refine blockQ_ret ?_ | refine blockQ_normal ?_ | refine blockQ_exit_same ?_ | refine blockQ_exit_ne rfl ?_
                      refine ⟨(p + 1, n * 16 + (((lowB c).toNat : Int) - 97 + 10)), _, ?_, ?_, (by repeat (first | exact EnvLe.nil _ | refine EnvLe.cons rfl ?_)), (by repeat (first | exact Split.nil | (apply Split.cons; · repeat (first | exact Pick.here | apply Pick.there))))⟩
                      · refine ⟨by simp only; omega, by simp only; omega, by simp only; omega, fun hx => ?_⟩
                        simp only
                        have hh := hexOk_at hx hc
                        have hv := hhex hx
                        rw [hexV_succ hc]
                        simp only [hexD]
                        have hbig : 57 < c.toNat := by have := hex_low hh; omega
                        have := low_hex c hh hbig
                        rw [if_neg (by omega)]; omega
                      · simp only; omega
                · simp only [cmpP] at h128
                  refine ow_y (y_pick_t rfl rfl) rfl rfl rfl ?_
                  refine ow_y (y_assign rfl) rfl rfl rfl ?_
                  refine ow_nil ?_
                  refine cw_if_f rfl ?_
                  refine cw_regseq ?_
                  refine ow_y (y_makeInterface rfl cc_158) rfl rfl rfl ?_
                  refine ow_y (y_assign rfl) rfl rfl rfl ?_
                  refine ow_y (y_assign rfl) rfl rfl rfl ?_
                  refine ow_nil ?_
                  refine cw_ret ?_
                  repeat with_reducible first | refine thenQ_ret ?_ | refine thenQ_normal ?_ | refine thenQ_exit ?_ | refine blockQ_ret ?_ | refine blockQ_normal ?_ | refine blockQ_exit_same ?_ | refine blockQ_exit_ne rfl ?_
                  refine body_ret (.two (.tmp rfl) (.tmp rfl)) ?_
                  refine .inr ⟨?_, 0, 2, .inr rfl, rfl⟩
                  rw [Bool.eq_false_iff]; intro hx
                  have hh := hexOk_at hx hc
                  have := hex_low hh
                  rcases Nat.lt_or_ge 57 c.toNat with hbig | hsm
                  · have := low_hex c hh hbig; omega
                  · omega
              · simp only [cmpP] at h124
                refine ow_y (y_move rfl) rfl rfl rfl ?_
                refine ow_skip rfl rfl rfl ?_
                refine ow_skip rfl rfl rfl ?_
                refine ow_skip rfl rfl rfl ?_
                refine ow_y (y_pick_f rfl rfl) rfl rfl rfl ?_
                refine ow_y (y_assign rfl) rfl rfl rfl ?_
                refine ow_nil ?_
                refine cw_if_f rfl ?_
                refine cw_regseq ?_
                refine ow_y (y_makeInterface rfl cc_158) rfl rfl rfl ?_
                refine ow_y (y_assign rfl) rfl rfl rfl ?_
                refine ow_y (y_assign rfl) rfl rfl rfl ?_
                refine ow_nil ?_
                refine cw_ret ?_
                repeat with_reducible first | refine thenQ_ret ?_ | refine thenQ_normal ?_ | refine thenQ_exit ?_ | refine blockQ_ret ?_ | refine blockQ_normal ?_ | refine blockQ_exit_same ?_ | refine blockQ_exit_ne rfl ?_
                refine body_ret (.two (.tmp rfl) (.tmp rfl)) ?_
                refine .inr ⟨?_, 0, 2, .inr rfl, rfl⟩
                rw [Bool.eq_false_iff]; intro hx
                have hh := hexOk_at hx hc
                have := hex_low hh
                rcases Nat.lt_or_ge 57 c.toNat with hbig | hsm
                · have := low_hex c hh hbig; omega
                · omega
          · simp only [cmpP] at h114
            refine ow_y (y_move rfl) rfl rfl rfl ?_
            refine ow_skip rfl rfl rfl ?_
            refine ow_skip rfl rfl rfl ?_
            refine ow_y (y_pick_f rfl rfl) rfl rfl rfl ?_
            refine ow_y (y_assign rfl) rfl rfl rfl ?_
            refine ow_nil ?_
            refine cw_if_f rfl ?_
            refine cw_regseq ?_
            refine ow_y (y_move rfl) rfl rfl rfl ?_
            refine ow_call rfl rfl (by rfl) ct_102 (lower_c R _ c) ?_
            rintro _ _ ⟨rfl, rfl⟩
            have hlow := (lowB c).toNat_lt
            refine ow_cmp rfl rfl rfl rfl rfl (fun h124 => ?_) (fun h124 => ?_)
            · simp only [cmpP] at h124
              refine ow_y (y_move rfl) rfl rfl rfl ?_
              refine ow_y (y_move rfl) rfl rfl rfl ?_
              refine ow_call rfl rfl (by rfl) ct_102 (lower_c R _ c) ?_
              rintro _ _ ⟨rfl, rfl⟩
              have hlow := (lowB c).toNat_lt
              refine ow_cmp rfl rfl rfl rfl rfl (fun h128 => ?_) (fun h128 => ?_)
              · simp only [cmpP] at h128
                refine ow_y (y_pick_t rfl rfl) rfl rfl rfl ?_
                refine ow_y (y_assign rfl) rfl rfl rfl ?_
                refine ow_nil ?_
                refine cw_if_t rfl ?_
                refine cw_region ?_
                refine ow_y (y_move rfl) rfl rfl rfl ?_
                refine ow_call rfl rfl (by rfl) ct_102 (lower_c R _ c) ?_
                rintro _ _ ⟨rfl, rfl⟩
                have hlow := (lowB c).toNat_lt
                refine ow_y (y_bin rfl rfl (fun w => run_guard_int _ _ _ _ _ _ w) (fun w => run_sub8 _ (by omega) (by omega) w)) rfl rfl rfl ?_
                refine ow_y (y_bin rfl rfl (fun w => run_guard_int _ _ _ _ _ _ w) (fun w => run_add8 _ (by omega) (by omega) w)) rfl rfl rfl ?_
                refine ow_y (y_assign rfl) rfl rfl rfl ?_
                refine ow_nil ?_
                repeat with_reducible first | refine thenQ_ret ?_ | refine thenQ_normal ?_ | refine thenQ_exit ?_ | refine blockQ_ret ?_ | refine blockQ_normal ?_ | refine blockQ_exit_same ?_ | refine blockQ_exit_ne rfl ?_
                refine cw_seq ?_
                refine cw_regseq ?_
                refine ow_y (y_move rfl) rfl rfl rfl ?_
                refine ow_y (y_move rfl) rfl rfl rfl ?_
                refine ow_y (y_conv_u8 rfl cv_3_5 (by omega) (by omega)) rfl rfl rfl ?_
                refine ow_cmp rfl rfl rfl rfl rfl (fun h137 => ?_) (fun h137 => ?_)
                · simp only [cmpP] at h137
                  refine ow_nil ?_
                  refine cw_if_t rfl ?_
                  refine cw_regseq ?_
                  refine ow_y (y_makeInterface rfl cc_158) rfl rfl rfl ?_
                  refine ow_y (y_assign rfl) rfl rfl rfl ?_
                  refine ow_y (y_assign rfl) rfl rfl rfl ?_
                  refine ow_nil ?_
                  refine cw_ret ?_
                  repeat with_reducible first | refine thenQ_ret ?_ | refine thenQ_normal ?_ | refine thenQ_exit ?_ | refine blockQ_ret ?_ | refine blockQ_normal ?_ | refine blockQ_exit_same ?_ | refine blockQ_exit_ne rfl ?_
                  refine body_ret (.two (.tmp rfl) (.tmp rfl)) ?_
                  refine .inr ⟨?_, 0, 2, .inr rfl, rfl⟩
                  rw [Bool.eq_false_iff]; intro hx
                  have hh := hexOk_at hx hc
                  have := hex_low hh
                  rcases Nat.lt_or_ge 57 c.toNat with hbig | hsm
                  · have := low_hex c hh hbig; omega
                  · omega
                · simp only [cmpP] at h137
                  refine ow_nil ?_
                  refine cw_if_f rfl ?_
                  refine cw_skip ?_
                  repeat with_reducible first | refine thenQ_ret ?_ | refine thenQ_normal ?_ | refine thenQ_exit ?_ | refine blockQ_ret ?_ | refine blockQ_normal ?_ | refine blockQ_exit_same ?_ | refine blockQ_exit_ne rfl ?_
                  refine cw_seq ?_
                  refine cw_regseq ?_
                  refine ow_y (y_move rfl) rfl rfl rfl ?_
                  refine ow_y (y_move rfl) rfl rfl rfl ?_
                  refine ow_cmp rfl rfl rfl rfl rfl (fun h141 => ?_) (fun h141 => ?_)
                  · simp only [cmpP] at h141
                    refine ow_nil ?_
                    refine cw_if_t rfl ?_
                    refine cw_regseq ?_
                    refine ow_y (y_move rfl) rfl rfl rfl ?_
                    refine ow_y (y_makeInterface rfl cc_158) rfl rfl rfl ?_
                    refine ow_y (y_assign rfl) rfl rfl rfl ?_
                    refine ow_y (y_assign rfl) rfl rfl rfl ?_
                    refine ow_nil ?_
                    refine cw_ret ?_
                    repeat with_reducible first | refine thenQ_ret ?_ | refine thenQ_normal ?_ | refine thenQ_exit ?_ | refine blockQ_ret ?_ | refine blockQ_normal ?_ | refine blockQ_exit_same ?_ | refine blockQ_exit_ne rfl ?_
                    refine body_ret (.two (.tmp rfl) (.tmp rfl)) ?_
                    refine .inr ⟨?_, _, 1, .inl rfl, rfl⟩
                    rw [Bool.eq_false_iff]; intro hx
                    have := hexV_small hx p (by omega)
                    have := hhex hx
                    omega
                  · simp only [cmpP] at h141
                    refine ow_nil ?_
                    refine cw_if_f rfl ?_
                    refine cw_skip ?_
                    repeat with_reducible first | refine thenQ_ret ?_ | refine thenQ_normal ?_ | refine thenQ_exit ?_ | refine blockQ_ret ?_ | refine blockQ_normal ?_ | refine blockQ_exit_same ?_ | refine blockQ_exit_ne rfl ?_
                    refine cw_regseq ?_
                    refine ow_y (y_move rfl) rfl rfl rfl ?_
                    refine ow_y (y_move rfl) rfl rfl rfl ?_
                    refine ow_y (y_conv_u64 rfl cv_3_51 (by omega) (by omega)) rfl rfl rfl ?_
                    refine ow_y (y_bin rfl rfl (fun w => run_guard_int _ _ _ _ _ _ w) (fun w => run_mul64 _ (by omega) (by omega) w)) rfl rfl rfl ?_
                    refine ow_y (y_assign rfl) rfl rfl rfl ?_
                    refine ow_nil ?_
                    refine cw_regseq ?_
                    refine ow_y (y_move rfl) rfl rfl rfl ?_
                    refine ow_y (y_move rfl) rfl rfl rfl ?_
                    refine ow_y (y_conv_u64 rfl cv_5_51 (by omega) (by omega)) rfl rfl rfl ?_
                    refine ow_y (y_bin rfl rfl (fun w => run_guard_int _ _ _ _ _ _ w) (fun w => run_add64 _ (by omega) (by omega) w)) rfl rfl rfl ?_
                    refine ow_y (y_assign rfl) rfl rfl rfl ?_
                    refine ow_nil ?_
                    refine cw_seq ?_
                    refine cw_regseq ?_
                    refine ow_y (y_move rfl) rfl rfl rfl ?_
                    refine ow_y (y_move rfl) rfl rfl rfl ?_
                    refine ow_cmp_f rfl rfl rfl rfl rfl (by simp only [cmpP]; try omega) ?_
                    refine ow_y (y_move rfl) rfl rfl rfl ?_
                    refine ow_y (y_move rfl) rfl rfl rfl ?_
                    refine ow_y (y_move rfl) rfl rfl rfl ?_
                    refine ow_cmp_f rfl rfl rfl rfl rfl (by simp only [cmpP]; try omega) ?_
                    refine ow_y (y_pick_f rfl rfl) rfl rfl rfl ?_
                    refine ow_nil ?_
                    refine cw_if_f rfl ?_
                    refine cw_skip ?_
                    repeat with_reducible first | refine thenQ_ret ?_ | refine thenQ_normal ?_ | refine thenQ_exit ?_ | refine blockQ_ret ?_ | refine blockQ_normal ?_ | refine blockQ_exit_same ?_ | refine blockQ_exit_ne rfl ?_
                    refine cw_region ?_
                    refine ow_y (y_move rfl) rfl rfl rfl ?_
                    refine ow_y (y_assign rfl) rfl rfl rfl ?_
                    refine ow_nil ?_
                    repeat with_reducible first | refine thenQ_ret ?_ | refine thenQ_normal ?_ | refine thenQ_exit ?_ | refine blockQ_ret ?_ | refine blockQ_normal ?_ | refine blockQ_exit_same ?_ | refine blockQ_exit_ne rfl ?_
                    refine cw_region ?_
                    refine ow_y (y_add64 rfl rfl (by omega)) rfl rfl rfl ?_
                    refine ow_y (y_move rfl) rfl rfl rfl ?_
                    refine ow_nil ?_
                    repeat with_reducible first | refine thenQ_ret ?_ | refine thenQ_normal ?_ | refine thenQ_exit ?_ | refine blockQ_ret ?_ | refine blockQ_normal ?_ | refine blockQ_exit_same ?_ | refine blockQ_exit_ne rfl ?_
                    refine ⟨(p + 1, n * 16 + (((lowB c).toNat : Int) - 97 + 10)), _, ?_, ?_, (by repeat (first | exact EnvLe.nil _ | refine EnvLe.cons rfl ?_)), (by repeat (first | exact Split.nil | (apply Split.cons; · repeat (first | exact Pick.here | apply Pick.there))))⟩
                    · refine ⟨by simp only; omega, by simp only; omega, by simp only; omega, fun hx => ?_⟩
                      simp only
                      have hh := hexOk_at hx hc
                      have hv := hhex hx
                      rw [hexV_succ hc]
                      simp only [hexD]
                      have hbig : 57 < c.toNat := by have := hex_low hh; omega
                      have := low_hex c hh hbig
                      rw [if_neg (by omega)]; omega
                    · simp only; omega
              · simp only [cmpP] at h128
                refine ow_y (y_pick_t rfl rfl) rfl rfl rfl ?_
                refine ow_y (y_assign rfl) rfl rfl rfl ?_
                refine ow_nil ?_
                refine cw_if_f rfl ?_
                refine cw_regseq ?_
                refine ow_y (y_makeInterface rfl cc_158) rfl rfl rfl ?_
                refine ow_y (y_assign rfl) rfl rfl rfl ?_
                refine ow_y (y_assign rfl) rfl rfl rfl ?_
                refine ow_nil ?_
                refine cw_ret ?_
                repeat with_reducible first | refine thenQ_ret ?_ | refine thenQ_normal ?_ | refine thenQ_exit ?_ | refine blockQ_ret ?_ | refine blockQ_normal ?_ | refine blockQ_exit_same ?_ | refine blockQ_exit_ne rfl ?_
                refine body_ret (.two (.tmp rfl) (.tmp rfl)) ?_
                refine .inr ⟨?_, 0, 2, .inr rfl, rfl⟩
                rw [Bool.eq_false_iff]; intro hx
                have hh := hexOk_at hx hc
                have := hex_low hh
                rcases Nat.lt_or_ge 57 c.toNat with hbig | hsm
                · have := low_hex c hh hbig; omega
                · omega
            · simp only [cmpP] at h124
              refine ow_y (y_move rfl) rfl rfl rfl ?_
              refine ow_skip rfl rfl rfl ?_
              refine ow_skip rfl rfl rfl ?_
              refine ow_skip rfl rfl rfl ?_
              refine ow_y (y_pick_f rfl rfl) rfl rfl rfl ?_
              refine ow_y (y_assign rfl) rfl rfl rfl ?_
              refine ow_nil ?_
              refine cw_if_f rfl ?_
              refine cw_regseq ?_
              refine ow_y (y_makeInterface rfl cc_158) rfl rfl rfl ?_
              refine ow_y (y_assign rfl) rfl rfl rfl ?_
              refine ow_y (y_assign rfl) rfl rfl rfl ?_
              refine ow_nil ?_
              refine cw_ret ?_
              repeat with_reducible first | refine thenQ_ret ?_ | refine thenQ_normal ?_ | refine thenQ_exit ?_ | refine blockQ_ret ?_ | refine blockQ_normal ?_ | refine blockQ_exit_same ?_ | refine blockQ_exit_ne rfl ?_
              refine body_ret (.two (.tmp rfl) (.tmp rfl)) ?_
              refine .inr ⟨?_, 0, 2, .inr rfl, rfl⟩
              rw [Bool.eq_false_iff]; intro hx
              have hh := hexOk_at hx hc
              have := hex_low hh
              rcases Nat.lt_or_ge 57 c.toNat with hbig | hsm
              · have := low_hex c hh hbig; omega
              · omega
      · simp only [cmpP] at h102
        refine ow_nil ?_
        refine cw_seq ?_
        refine cw_if_f rfl ?_
        refine cw_exit ?_
        repeat with_reducible first | refine thenQ_ret ?_ | refine thenQ_normal ?_ | refine thenQ_exit ?_ | refine blockQ_ret ?_ | refine blockQ_normal ?_ | refine blockQ_exit_same ?_ | refine blockQ_exit_ne rfl ?_
        refine cw_seq ?_
        refine cw_regseq ?_
        refine ow_y (y_move rfl) rfl rfl rfl ?_
        refine ow_y (y_move rfl) rfl rfl rfl ?_
        refine ow_skip rfl rfl rfl ?_
        refine ow_skip rfl rfl rfl ?_
        refine ow_skip rfl rfl rfl ?_
        refine ow_y (y_pick_f rfl rfl) rfl rfl rfl ?_
        refine ow_nil ?_
        refine cw_if_f rfl ?_
        refine cw_skip ?_
        repeat with_reducible first | refine thenQ_ret ?_ | refine thenQ_normal ?_ | refine thenQ_exit ?_ | refine blockQ_ret ?_ | refine blockQ_normal ?_ | refine blockQ_exit_same ?_ | refine blockQ_exit_ne rfl ?_
        refine cw_regseq ?_
        refine ow_y (y_move rfl) rfl rfl rfl ?_
        refine ow_y (y_assign rfl) rfl rfl rfl ?_
        refine ow_y (y_assign rfl) rfl rfl rfl ?_
        refine ow_nil ?_
        refine cw_ret ?_
        repeat with_reducible first | refine thenQ_ret ?_ | refine thenQ_normal ?_ | refine thenQ_exit ?_ | refine blockQ_ret ?_ | refine blockQ_normal ?_ | refine blockQ_exit_same ?_ | refine blockQ_exit_ne rfl ?_
        refine body_ret (.two (.tmp rfl) (.tmp rfl)) ?_
        have hpl : p = s.length := by omega
        subst hpl
        refine P16.ok n.toNat (by omega) (by omega) (fun hx => ?_)
        have hv := hhex hx
        rw [List.take_length] at hv
        omega

end Go.Proofs.YtgppllppddaodaaGreatDoor

/-
  The walks of words: ParseUint at base 16, big, digits, wordToken, isWord.
-/
namespace Go.Proofs.YtgppllppddaodaaGreatDoor
open Sl Am
open Go
theorem ct_85 : callT Tryz.prog 85 = true := by kernel_rfl
theorem ct_97 : callT Tryz.prog 97 = true := by kernel_rfl
theorem ct_98 : callT Tryz.prog 98 = true := by kernel_rfl
theorem ii_46 : Tryz.prog.isIface 46 = true := by kernel_rfl
theorem toErr_c (R L : Heap) (hR : Glob R) (fn s : List UInt8) (base bits k : Int) (hs : s.length ≤ 281474976710656) (hk : k = 1 ∨ k = 2) :
    FnW Tryz.prog 98 [str fn, str s, .int .i64 base, .int .i64 bits, .iface 158 (.int .i64 k)] R L fun v L' => (∃ p, v = .iface 160 p) ∧ L' = L := by
  refine FnW.of_below (G := fun v => ∃ p, v = .iface 160 p) fun w hh => ?_
  rcases hk with rfl | rfl
  · obtain ⟨te, pe, T, f, hm⟩ := hR.eR
    refine (AnyPu.strconv_toError_range { Tryz.laysPu14 with } ⟨fn.toArray⟩ ⟨s.toArray⟩ base bits (.iface te pe) w hs (by show World.cell? w ⟨7, 0, none⟩ = _; simp [World.cell?, hh.ro _ hm]) (.inr ⟨_, _, rfl⟩)).mono ?_
    rintro x w' ⟨N, rfl, _, _, hb⟩
    exact ⟨_, rfl, ⟨_, rfl⟩, hb⟩
  · obtain ⟨te, pe, T, f, hm⟩ := hR.eS
    refine (AnyPu.strconv_toError_syntax { Tryz.laysPu14 with } ⟨fn.toArray⟩ ⟨s.toArray⟩ base bits (.iface te pe) w hs (by show World.cell? w ⟨6, 0, none⟩ = _; simp [World.cell?, hh.ro _ hm]) (.inr ⟨_, _, rfl⟩)).mono ?_
    rintro x w' ⟨N, rfl, _, _, hb⟩
    exact ⟨_, rfl, ⟨_, rfl⟩, hb⟩
theorem parse16_in_c (R L : Heap) (s : List UInt8) (hs : s.length ≤ 281474976710656) : FnW Tryz.prog 97 [str s, .int .i64 16, .int .i64 64] R L fun v L' => P16 s v ∧ L' = L := FnW.gen (parse16_in R s hs) L
def Q16 (s : List UInt8) (v : Value) : Prop := (∃ n : Nat, n < 18446744073709551616 ∧ v = .tuple #[.int .u64 n, .nilIface] ∧ (hexOk s = true → n = hexV s)) ∨ (hexOk s = false ∧ ∃ (n : Int) (t : TypeId) (p : Value), v = .tuple #[.int .u64 n, .iface t p])

set_option maxRecDepth 100000 in
set_option maxHeartbeats 400000 in
theorem parse16_w : ∀ (R : Heap) (s : List UInt8), Glob R → s.length ≤ 281474976710656 → FnW Tryz.prog 85 [str s, .int .i64 16, .int .i64 64] R [] fun v _ => Q16 s v := by
  intro R s hR hs
  refine fn_of_body Tryz.func85 rfl Tryz.ntmps85 Tryz.results85 (by rfl) ?_
  refine cw_regseq ?_
  refine ow_y (y_assign rfl) rfl rfl rfl ?_
  refine ow_y (y_assign rfl) rfl rfl rfl ?_
  refine ow_nil ?_
  refine cw_regseq ?_
  refine ow_y (y_move rfl) rfl rfl rfl ?_
  refine ow_y (y_move rfl) rfl rfl rfl ?_
  refine ow_y (y_move rfl) rfl rfl rfl ?_
  refine ow_call rfl rfl (by rfl) ct_97 (parse16_in_c R _ s hs) ?_
  rintro _ _ ⟨hp16, rfl⟩
  rcases hp16 with ⟨n, hn, rfl, hv⟩ | ⟨hbad, n, k, hk, rfl⟩
  · skip
    refine ow_y (y_move rfl) rfl rfl rfl ?_
    refine ow_y (y_extract rfl rfl) rfl rfl rfl ?_
    refine ow_y (y_extract rfl rfl) rfl rfl rfl ?_
    refine ow_y (y_assign rfl) rfl rfl rfl ?_
    refine ow_y (y_assign rfl) rfl rfl rfl ?_
    refine ow_nil ?_
    refine cw_seq ?_
    refine cw_regseq ?_
    refine ow_y (y_move rfl) rfl rfl rfl ?_
    refine ow_y (y_neNil rfl ii_46) rfl rfl rfl ?_
    refine ow_nil ?_
    refine cw_if_f rfl ?_
    refine cw_skip ?_
    repeat with_reducible first | refine thenQ_ret ?_ | refine thenQ_normal ?_ | refine thenQ_exit ?_ | refine blockQ_ret ?_ | refine blockQ_normal ?_ | refine blockQ_exit_same ?_ | refine blockQ_exit_ne rfl ?_
    refine cw_regseq ?_
    refine ow_y (y_move rfl) rfl rfl rfl ?_
    refine ow_y (y_assign rfl) rfl rfl rfl ?_
    refine ow_y (y_assign rfl) rfl rfl rfl ?_
    refine ow_nil ?_
    refine cw_ret ?_
    repeat with_reducible first | refine thenQ_ret ?_ | refine thenQ_normal ?_ | refine thenQ_exit ?_ | refine blockQ_ret ?_ | refine blockQ_normal ?_ | refine blockQ_exit_same ?_ | refine blockQ_exit_ne rfl ?_
    refine body_ret (.two (.tmp rfl) (.tmp rfl)) ?_
    exact .inl ⟨n, hn, rfl, hv⟩
  · skip
    refine ow_y (y_move rfl) rfl rfl rfl ?_
    refine ow_y (y_extract rfl rfl) rfl rfl rfl ?_
    refine ow_y (y_extract rfl rfl) rfl rfl rfl ?_
    refine ow_y (y_assign rfl) rfl rfl rfl ?_
    refine ow_y (y_assign rfl) rfl rfl rfl ?_
    refine ow_nil ?_
    refine cw_seq ?_
    refine cw_regseq ?_
    refine ow_y (y_move rfl) rfl rfl rfl ?_
    refine ow_y (y_neIfaceNil rfl rfl ii_46) rfl rfl rfl ?_
    refine ow_nil ?_
    refine cw_if_t rfl ?_
    refine cw_regseq ?_
    refine ow_y (y_move rfl) rfl rfl rfl ?_
    refine ow_y (y_move rfl) rfl rfl rfl ?_
    refine ow_y (y_move rfl) rfl rfl rfl ?_
    refine ow_y (y_move rfl) rfl rfl rfl ?_
    refine ow_y (y_move rfl) rfl rfl rfl ?_
    refine ow_call rfl rfl (by rfl) ct_98 (toErr_c R _ hR _ s 16 64 k hs hk) ?_
    rintro _ _ ⟨⟨pe, rfl⟩, rfl⟩
    refine ow_y (y_assign rfl) rfl rfl rfl ?_
    refine ow_y (y_assign rfl) rfl rfl rfl ?_
    refine ow_nil ?_
    refine cw_ret ?_
    repeat with_reducible first | refine thenQ_ret ?_ | refine thenQ_normal ?_ | refine thenQ_exit ?_ | refine blockQ_ret ?_ | refine blockQ_normal ?_ | refine blockQ_exit_same ?_ | refine blockQ_exit_ne rfl ?_
    refine body_ret (.two (.tmp rfl) (.tmp rfl)) ?_
    exact .inr ⟨hbad, n, _, _, rfl⟩

theorem parse16_c (R L : Heap) (hR : Glob R) (s : List UInt8) (hs : s.length ≤ 281474976710656) : FnW Tryz.prog 85 [str s, .int .i64 16, .int .i64 64] R L fun v L' => Q16 s v ∧ L' = L := FnW.gen (parse16_w R s hR hs) L

set_option maxRecDepth 100000 in
set_option maxHeartbeats 400000 in
theorem big16_w : ∀ (R : Heap) (s : List UInt8), Glob R → s.length ≤ 281474976710656 → FnW Tryz.prog 69 [str s, .int .i64 16] R [] fun v _ => ∃ n : Nat, n < 18446744073709551616 ∧ v = .int .u64 n ∧ (hexOk s = true → n = hexV s) := by
  intro R s hR hs
  refine fn_of_body Tryz.func69 rfl Tryz.ntmps69 Tryz.results69 (by rfl) ?_
  refine cw_regseq ?_
  refine ow_y (y_assign rfl) rfl rfl rfl ?_
  refine ow_nil ?_
  refine cw_regseq ?_
  refine ow_y (y_move rfl) rfl rfl rfl ?_
  refine ow_y (y_move rfl) rfl rfl rfl ?_
  refine ow_call rfl rfl (by rfl) ct_85 (parse16_c R _ hR s hs) ?_
  rintro _ _ ⟨hp16, rfl⟩
  rcases hp16 with ⟨n, hn, rfl, hv⟩ | ⟨hbad, n, tb, pb, rfl⟩
  · skip
    refine ow_y (y_move rfl) rfl rfl rfl ?_
    refine ow_y (y_extract rfl rfl) rfl rfl rfl ?_
    refine ow_y (y_extract rfl rfl) rfl rfl rfl ?_
    refine ow_y (y_assign rfl) rfl rfl rfl ?_
    refine ow_y (y_assign rfl) rfl rfl rfl ?_
    refine ow_nil ?_
    refine cw_seq ?_
    refine cw_regseq ?_
    refine ow_y (y_move rfl) rfl rfl rfl ?_
    refine ow_y (y_neNil rfl ii_46) rfl rfl rfl ?_
    refine ow_nil ?_
    refine cw_if_f rfl ?_
    refine cw_skip ?_
    repeat with_reducible first | refine thenQ_ret ?_ | refine thenQ_normal ?_ | refine thenQ_exit ?_ | refine blockQ_ret ?_ | refine blockQ_normal ?_ | refine blockQ_exit_same ?_ | refine blockQ_exit_ne rfl ?_
    refine cw_regseq ?_
    refine ow_y (y_move rfl) rfl rfl rfl ?_
    refine ow_y (y_assign rfl) rfl rfl rfl ?_
    refine ow_nil ?_
    refine cw_ret ?_
    repeat with_reducible first | refine thenQ_ret ?_ | refine thenQ_normal ?_ | refine thenQ_exit ?_ | refine blockQ_ret ?_ | refine blockQ_normal ?_ | refine blockQ_exit_same ?_ | refine blockQ_exit_ne rfl ?_
    refine body_ret (.one (.tmp rfl)) ?_
    exact ⟨n, hn, rfl, hv⟩
  · skip
    refine ow_y (y_move rfl) rfl rfl rfl ?_
    refine ow_y (y_extract rfl rfl) rfl rfl rfl ?_
    refine ow_y (y_extract rfl rfl) rfl rfl rfl ?_
    refine ow_y (y_assign rfl) rfl rfl rfl ?_
    refine ow_y (y_assign rfl) rfl rfl rfl ?_
    refine ow_nil ?_
    refine cw_seq ?_
    refine cw_regseq ?_
    refine ow_y (y_move rfl) rfl rfl rfl ?_
    refine ow_y (y_neIfaceNil rfl rfl ii_46) rfl rfl rfl ?_
    refine ow_nil ?_
    refine cw_if_t rfl ?_
    refine cw_regseq ?_
    refine ow_y (y_assign rfl) rfl rfl rfl ?_
    refine ow_nil ?_
    refine cw_ret ?_
    repeat with_reducible first | refine thenQ_ret ?_ | refine thenQ_normal ?_ | refine thenQ_exit ?_ | refine blockQ_ret ?_ | refine blockQ_normal ?_ | refine blockQ_exit_same ?_ | refine blockQ_exit_ne rfl ?_
    refine body_ret (.one (.tmp rfl)) ?_
    exact ⟨18446744073709551615, by omega, rfl, fun h => by rw [hbad] at h; cases h⟩

set_option maxRecDepth 100000 in
set_option maxHeartbeats 400000 in
theorem big10_w : ∀ (R : Heap) (s : List UInt8), Glob R → s.length ≤ 281474976710656 → FnW Tryz.prog 69 [str s, .int .i64 10] R [] fun v _ => v = .int .u64 (big10 s : Nat) := by
  intro R s hR hs
  refine fn_of_body Tryz.func69 rfl Tryz.ntmps69 Tryz.results69 (by rfl) ?_
  refine cw_regseq ?_
  refine ow_y (y_assign rfl) rfl rfl rfl ?_
  refine ow_nil ?_
  refine cw_regseq ?_
  refine ow_y (y_move rfl) rfl rfl rfl ?_
  refine ow_y (y_move rfl) rfl rfl rfl ?_
  refine ow_call rfl rfl (by rfl) ct_85 (parse10_c R _ hR s hs) ?_
  rintro _ _ ⟨hp, rfl⟩
  unfold ParsedU at hp
  cases hq : Lib.parseUintB 64 s <;> simp only [hq] at hp
  · subst hp
    refine ow_y (y_move rfl) rfl rfl rfl ?_
    refine ow_y (y_extract rfl rfl) rfl rfl rfl ?_
    refine ow_y (y_extract rfl rfl) rfl rfl rfl ?_
    refine ow_y (y_assign rfl) rfl rfl rfl ?_
    refine ow_y (y_assign rfl) rfl rfl rfl ?_
    refine ow_nil ?_
    refine cw_seq ?_
    refine cw_regseq ?_
    refine ow_y (y_move rfl) rfl rfl rfl ?_
    refine ow_y (y_neNil rfl ii_46) rfl rfl rfl ?_
    refine ow_nil ?_
    refine cw_if_f rfl ?_
    refine cw_skip ?_
    repeat with_reducible first | refine thenQ_ret ?_ | refine thenQ_normal ?_ | refine thenQ_exit ?_ | refine blockQ_ret ?_ | refine blockQ_normal ?_ | refine blockQ_exit_same ?_ | refine blockQ_exit_ne rfl ?_
    refine cw_regseq ?_
    refine ow_y (y_move rfl) rfl rfl rfl ?_
    refine ow_y (y_assign rfl) rfl rfl rfl ?_
    refine ow_nil ?_
    refine cw_ret ?_
    repeat with_reducible first | refine thenQ_ret ?_ | refine thenQ_normal ?_ | refine thenQ_exit ?_ | refine blockQ_ret ?_ | refine blockQ_normal ?_ | refine blockQ_exit_same ?_ | refine blockQ_exit_ne rfl ?_
    refine body_ret (.one (.tmp rfl)) ?_
    simp only [big10, hq]; try rfl
  · obtain ⟨n, tb, pb, rfl⟩ := hp
    refine ow_y (y_move rfl) rfl rfl rfl ?_
    refine ow_y (y_extract rfl rfl) rfl rfl rfl ?_
    refine ow_y (y_extract rfl rfl) rfl rfl rfl ?_
    refine ow_y (y_assign rfl) rfl rfl rfl ?_
    refine ow_y (y_assign rfl) rfl rfl rfl ?_
    refine ow_nil ?_
    refine cw_seq ?_
    refine cw_regseq ?_
    refine ow_y (y_move rfl) rfl rfl rfl ?_
    refine ow_y (y_neIfaceNil rfl rfl ii_46) rfl rfl rfl ?_
    refine ow_nil ?_
    refine cw_if_t rfl ?_
    refine cw_regseq ?_
    refine ow_y (y_assign rfl) rfl rfl rfl ?_
    refine ow_nil ?_
    refine cw_ret ?_
    repeat with_reducible first | refine thenQ_ret ?_ | refine thenQ_normal ?_ | refine thenQ_exit ?_ | refine blockQ_ret ?_ | refine blockQ_normal ?_ | refine blockQ_exit_same ?_ | refine blockQ_exit_ne rfl ?_
    refine body_ret (.one (.tmp rfl)) ?_
    simp only [big10, hq]; try rfl
  · obtain ⟨n, tb, pb, rfl⟩ := hp
    refine ow_y (y_move rfl) rfl rfl rfl ?_
    refine ow_y (y_extract rfl rfl) rfl rfl rfl ?_
    refine ow_y (y_extract rfl rfl) rfl rfl rfl ?_
    refine ow_y (y_assign rfl) rfl rfl rfl ?_
    refine ow_y (y_assign rfl) rfl rfl rfl ?_
    refine ow_nil ?_
    refine cw_seq ?_
    refine cw_regseq ?_
    refine ow_y (y_move rfl) rfl rfl rfl ?_
    refine ow_y (y_neIfaceNil rfl rfl ii_46) rfl rfl rfl ?_
    refine ow_nil ?_
    refine cw_if_t rfl ?_
    refine cw_regseq ?_
    refine ow_y (y_assign rfl) rfl rfl rfl ?_
    refine ow_nil ?_
    refine cw_ret ?_
    repeat with_reducible first | refine thenQ_ret ?_ | refine thenQ_normal ?_ | refine thenQ_exit ?_ | refine blockQ_ret ?_ | refine blockQ_normal ?_ | refine blockQ_exit_same ?_ | refine blockQ_exit_ne rfl ?_
    refine body_ret (.one (.tmp rfl)) ?_
    simp only [big10, hq]; try rfl

theorem big16_c (R L : Heap) (hR : Glob R) (s : List UInt8) (hs : s.length ≤ 281474976710656) : FnW Tryz.prog 69 [str s, .int .i64 16] R L fun v L' => (∃ n : Nat, n < 18446744073709551616 ∧ v = .int .u64 n ∧ (hexOk s = true → n = hexV s)) ∧ L' = L := FnW.gen (big16_w R s hR hs) L
theorem big10_c (R L : Heap) (hR : Glob R) (s : List UInt8) (hs : s.length ≤ 281474976710656) : FnW Tryz.prog 69 [str s, .int .i64 10] R L fun v L' => v = .int .u64 (big10 s : Nat) ∧ L' = L := FnW.gen (big10_w R s hR hs) L

set_option maxRecDepth 100000 in
set_option maxHeartbeats 400000 in
theorem isWord_w : ∀ (R : Heap) (r : Int), FnW Tryz.prog 53 [.int .i32 r] R [] fun v _ => v = .bool (isWordB r) := by
  intro R r
  refine fn_of_body Tryz.func53 rfl Tryz.ntmps53 Tryz.results53 (by rfl) ?_
  refine cw_regseq ?_
  refine ow_y (y_assign rfl) rfl rfl rfl ?_
  refine ow_nil ?_
  refine cw_regseq ?_
  refine ow_y (y_move rfl) rfl rfl rfl ?_
  refine ow_cmp rfl rfl rfl rfl rfl (fun h4 => ?_) (fun h4 => ?_)
  · simp only [cmpP] at h4
    refine ow_y (y_move rfl) rfl rfl rfl ?_
    refine ow_y (y_move rfl) rfl rfl rfl ?_
    refine ow_cmp rfl rfl rfl rfl rfl (fun h7 => ?_) (fun h7 => ?_)
    · simp only [cmpP] at h7
      refine ow_y (y_pick_t rfl rfl) rfl rfl rfl ?_
      refine ow_y (y_move rfl) rfl rfl rfl ?_
      refine ow_skip rfl rfl rfl ?_
      refine ow_skip rfl rfl rfl ?_
      refine ow_skip rfl rfl rfl ?_
      refine ow_skip rfl rfl rfl ?_
      refine ow_skip rfl rfl rfl ?_
      refine ow_skip rfl rfl rfl ?_
      refine ow_y (y_pick_t rfl rfl) rfl rfl rfl ?_
      refine ow_y (y_move rfl) rfl rfl rfl ?_
      refine ow_skip rfl rfl rfl ?_
      refine ow_skip rfl rfl rfl ?_
      refine ow_y (y_pick_t rfl rfl) rfl rfl rfl ?_
      refine ow_y (y_assign rfl) rfl rfl rfl ?_
      refine ow_nil ?_
      refine cw_ret ?_
      repeat with_reducible first | refine thenQ_ret ?_ | refine thenQ_normal ?_ | refine thenQ_exit ?_ | refine blockQ_ret ?_ | refine blockQ_normal ?_ | refine blockQ_exit_same ?_ | refine blockQ_exit_ne rfl ?_
      refine body_ret (.one (.tmp rfl)) ?_
      first | (simp [isWordB, *]; done) | (simp [isWordB]; omega)
    · simp only [cmpP] at h7
      refine ow_y (y_pick_t rfl rfl) rfl rfl rfl ?_
      refine ow_y (y_move rfl) rfl rfl rfl ?_
      refine ow_y (y_move rfl) rfl rfl rfl ?_
      refine ow_cmp rfl rfl rfl rfl rfl (fun h11 => ?_) (fun h11 => ?_)
      · simp only [cmpP] at h11
        refine ow_y (y_move rfl) rfl rfl rfl ?_
        refine ow_y (y_move rfl) rfl rfl rfl ?_
        refine ow_cmp rfl rfl rfl rfl rfl (fun h14 => ?_) (fun h14 => ?_)
        · simp only [cmpP] at h14
          refine ow_y (y_pick_t rfl rfl) rfl rfl rfl ?_
          refine ow_y (y_pick_f rfl rfl) rfl rfl rfl ?_
          refine ow_y (y_move rfl) rfl rfl rfl ?_
          refine ow_skip rfl rfl rfl ?_
          refine ow_skip rfl rfl rfl ?_
          refine ow_y (y_pick_t rfl rfl) rfl rfl rfl ?_
          refine ow_y (y_assign rfl) rfl rfl rfl ?_
          refine ow_nil ?_
          refine cw_ret ?_
          repeat with_reducible first | refine thenQ_ret ?_ | refine thenQ_normal ?_ | refine thenQ_exit ?_ | refine blockQ_ret ?_ | refine blockQ_normal ?_ | refine blockQ_exit_same ?_ | refine blockQ_exit_ne rfl ?_
          refine body_ret (.one (.tmp rfl)) ?_
          first | (simp [isWordB, *]; done) | (simp [isWordB]; omega)
        · simp only [cmpP] at h14
          refine ow_y (y_pick_t rfl rfl) rfl rfl rfl ?_
          refine ow_y (y_pick_f rfl rfl) rfl rfl rfl ?_
          refine ow_y (y_move rfl) rfl rfl rfl ?_
          refine ow_y (y_move rfl) rfl rfl rfl ?_
          refine ow_cmp rfl rfl rfl rfl rfl (fun h19 => ?_) (fun h19 => ?_)
          · simp only [cmpP] at h19
            refine ow_y (y_pick_f rfl rfl) rfl rfl rfl ?_
            refine ow_y (y_assign rfl) rfl rfl rfl ?_
            refine ow_nil ?_
            refine cw_ret ?_
            repeat with_reducible first | refine thenQ_ret ?_ | refine thenQ_normal ?_ | refine thenQ_exit ?_ | refine blockQ_ret ?_ | refine blockQ_normal ?_ | refine blockQ_exit_same ?_ | refine blockQ_exit_ne rfl ?_
            refine body_ret (.one (.tmp rfl)) ?_
            first | (simp [isWordB, *]; done) | (simp [isWordB]; omega)
          · simp only [cmpP] at h19
            refine ow_y (y_pick_f rfl rfl) rfl rfl rfl ?_
            refine ow_y (y_assign rfl) rfl rfl rfl ?_
            refine ow_nil ?_
            refine cw_ret ?_
            repeat with_reducible first | refine thenQ_ret ?_ | refine thenQ_normal ?_ | refine thenQ_exit ?_ | refine blockQ_ret ?_ | refine blockQ_normal ?_ | refine blockQ_exit_same ?_ | refine blockQ_exit_ne rfl ?_
            refine body_ret (.one (.tmp rfl)) ?_
            first | (simp [isWordB, *]; done) | (simp [isWordB]; omega)
      · simp only [cmpP] at h11
        refine ow_y (y_move rfl) rfl rfl rfl ?_
        refine ow_skip rfl rfl rfl ?_
        refine ow_skip rfl rfl rfl ?_
        refine ow_y (y_pick_f rfl rfl) rfl rfl rfl ?_
        refine ow_y (y_pick_f rfl rfl) rfl rfl rfl ?_
        refine ow_y (y_move rfl) rfl rfl rfl ?_
        refine ow_y (y_move rfl) rfl rfl rfl ?_
        refine ow_cmp rfl rfl rfl rfl rfl (fun h19 => ?_) (fun h19 => ?_)
        · simp only [cmpP] at h19
          refine ow_y (y_pick_f rfl rfl) rfl rfl rfl ?_
          refine ow_y (y_assign rfl) rfl rfl rfl ?_
          refine ow_nil ?_
          refine cw_ret ?_
          repeat with_reducible first | refine thenQ_ret ?_ | refine thenQ_normal ?_ | refine thenQ_exit ?_ | refine blockQ_ret ?_ | refine blockQ_normal ?_ | refine blockQ_exit_same ?_ | refine blockQ_exit_ne rfl ?_
          refine body_ret (.one (.tmp rfl)) ?_
          first | (simp [isWordB, *]; done) | (simp [isWordB]; omega)
        · simp only [cmpP] at h19
          refine ow_y (y_pick_f rfl rfl) rfl rfl rfl ?_
          refine ow_y (y_assign rfl) rfl rfl rfl ?_
          refine ow_nil ?_
          refine cw_ret ?_
          repeat with_reducible first | refine thenQ_ret ?_ | refine thenQ_normal ?_ | refine thenQ_exit ?_ | refine blockQ_ret ?_ | refine blockQ_normal ?_ | refine blockQ_exit_same ?_ | refine blockQ_exit_ne rfl ?_
          refine body_ret (.one (.tmp rfl)) ?_
          first | (simp [isWordB, *]; done) | (simp [isWordB]; omega)
  · simp only [cmpP] at h4
    refine ow_y (y_move rfl) rfl rfl rfl ?_
    refine ow_skip rfl rfl rfl ?_
    refine ow_skip rfl rfl rfl ?_
    refine ow_y (y_pick_f rfl rfl) rfl rfl rfl ?_
    refine ow_y (y_move rfl) rfl rfl rfl ?_
    refine ow_y (y_move rfl) rfl rfl rfl ?_
    refine ow_cmp rfl rfl rfl rfl rfl (fun h11 => ?_) (fun h11 => ?_)
    · simp only [cmpP] at h11
      refine ow_y (y_move rfl) rfl rfl rfl ?_
      refine ow_y (y_move rfl) rfl rfl rfl ?_
      refine ow_cmp rfl rfl rfl rfl rfl (fun h14 => ?_) (fun h14 => ?_)
      · simp only [cmpP] at h14
        refine ow_y (y_pick_t rfl rfl) rfl rfl rfl ?_
        refine ow_y (y_pick_f rfl rfl) rfl rfl rfl ?_
        refine ow_y (y_move rfl) rfl rfl rfl ?_
        refine ow_skip rfl rfl rfl ?_
        refine ow_skip rfl rfl rfl ?_
        refine ow_y (y_pick_t rfl rfl) rfl rfl rfl ?_
        refine ow_y (y_assign rfl) rfl rfl rfl ?_
        refine ow_nil ?_
        refine cw_ret ?_
        repeat with_reducible first | refine thenQ_ret ?_ | refine thenQ_normal ?_ | refine thenQ_exit ?_ | refine blockQ_ret ?_ | refine blockQ_normal ?_ | refine blockQ_exit_same ?_ | refine blockQ_exit_ne rfl ?_
        refine body_ret (.one (.tmp rfl)) ?_
        first | (simp [isWordB, *]; done) | (simp [isWordB]; omega)
      · simp only [cmpP] at h14
        refine ow_y (y_pick_t rfl rfl) rfl rfl rfl ?_
        refine ow_y (y_pick_f rfl rfl) rfl rfl rfl ?_
        refine ow_y (y_move rfl) rfl rfl rfl ?_
        refine ow_y (y_move rfl) rfl rfl rfl ?_
        refine ow_cmp rfl rfl rfl rfl rfl (fun h19 => ?_) (fun h19 => ?_)
        · simp only [cmpP] at h19
          refine ow_y (y_pick_f rfl rfl) rfl rfl rfl ?_
          refine ow_y (y_assign rfl) rfl rfl rfl ?_
          refine ow_nil ?_
          refine cw_ret ?_
          repeat with_reducible first | refine thenQ_ret ?_ | refine thenQ_normal ?_ | refine thenQ_exit ?_ | refine blockQ_ret ?_ | refine blockQ_normal ?_ | refine blockQ_exit_same ?_ | refine blockQ_exit_ne rfl ?_
          refine body_ret (.one (.tmp rfl)) ?_
          first | (simp [isWordB, *]; done) | (simp [isWordB]; omega)
        · simp only [cmpP] at h19
          refine ow_y (y_pick_f rfl rfl) rfl rfl rfl ?_
          refine ow_y (y_assign rfl) rfl rfl rfl ?_
          refine ow_nil ?_
          refine cw_ret ?_
          repeat with_reducible first | refine thenQ_ret ?_ | refine thenQ_normal ?_ | refine thenQ_exit ?_ | refine blockQ_ret ?_ | refine blockQ_normal ?_ | refine blockQ_exit_same ?_ | refine blockQ_exit_ne rfl ?_
          refine body_ret (.one (.tmp rfl)) ?_
          first | (simp [isWordB, *]; done) | (simp [isWordB]; omega)
    · simp only [cmpP] at h11
      refine ow_y (y_move rfl) rfl rfl rfl ?_
      refine ow_skip rfl rfl rfl ?_
      refine ow_skip rfl rfl rfl ?_
      refine ow_y (y_pick_f rfl rfl) rfl rfl rfl ?_
      refine ow_y (y_pick_f rfl rfl) rfl rfl rfl ?_
      refine ow_y (y_move rfl) rfl rfl rfl ?_
      refine ow_y (y_move rfl) rfl rfl rfl ?_
      refine ow_cmp rfl rfl rfl rfl rfl (fun h19 => ?_) (fun h19 => ?_)
      · simp only [cmpP] at h19
        refine ow_y (y_pick_f rfl rfl) rfl rfl rfl ?_
        refine ow_y (y_assign rfl) rfl rfl rfl ?_
        refine ow_nil ?_
        refine cw_ret ?_
        repeat with_reducible first | refine thenQ_ret ?_ | refine thenQ_normal ?_ | refine thenQ_exit ?_ | refine blockQ_ret ?_ | refine blockQ_normal ?_ | refine blockQ_exit_same ?_ | refine blockQ_exit_ne rfl ?_
        refine body_ret (.one (.tmp rfl)) ?_
        first | (simp [isWordB, *]; done) | (simp [isWordB]; omega)
      · simp only [cmpP] at h19
        refine ow_y (y_pick_f rfl rfl) rfl rfl rfl ?_
        refine ow_y (y_assign rfl) rfl rfl rfl ?_
        refine ow_nil ?_
        refine cw_ret ?_
        repeat with_reducible first | refine thenQ_ret ?_ | refine thenQ_normal ?_ | refine thenQ_exit ?_ | refine blockQ_ret ?_ | refine blockQ_normal ?_ | refine blockQ_exit_same ?_ | refine blockQ_exit_ne rfl ?_
        refine body_ret (.one (.tmp rfl)) ?_
        first | (simp [isWordB, *]; done) | (simp [isWordB]; omega)

theorem isWord_c (R L : Heap) (r : Int) : FnW Tryz.prog 53 [.int .i32 r] R L fun v L' => v = .bool (isWordB r) ∧ L' = L := FnW.gen (isWord_w R r) L

end Go.Proofs.YtgppllppddaodaaGreatDoor

/-
  The walks of words: digits, wordToken.
-/
namespace Go.Proofs.YtgppllppddaodaaGreatDoor
open Sl Am
open Go
theorem ct_32 : callT Tryz.prog 32 = true := by kernel_rfl
theorem ct_69 : callT Tryz.prog 69 = true := by kernel_rfl
theorem ct_70 : callT Tryz.prog 70 = true := by kernel_rfl
theorem ct_71 : callT Tryz.prog 71 = true := by kernel_rfl
theorem all_false {s : List UInt8} (h : ¬ Lib.trimS s digL = []) : s.all isDig = false := by rw [Bool.eq_false_iff]; exact fun h2 => h ((trim_dig s).2 h2)
theorem byte48 {c : UInt8} : (c.toNat : Int) = 48 ↔ c = 48 := ⟨fun h => UInt8.toNat.inj (by show c.toNat = 48; omega), fun h => by rw [h]; rfl⟩
theorem drop_one (c : UInt8) (l : List UInt8) : ((c :: l).drop 1).take ((c :: l).length - 1) = l := by simp
theorem drop_two (c d : UInt8) (l : List UInt8) : ((c :: d :: l).drop 2).take ((c :: d :: l).length - 2) = l := by simp
theorem prefix_0x {s : List UInt8} (h : Lib.hasPrefix s [48, 120] = true) : ∃ l, s = 48 :: 120 :: l := by
  cases s with
  | nil => simp [Lib.hasPrefix, List.isPrefixOf] at h
  | cons a s => cases s with
    | nil => simp [Lib.hasPrefix, List.isPrefixOf] at h
    | cons b l => simp [Lib.hasPrefix, List.isPrefixOf] at h; exact ⟨l, by rw [← h.1, ← h.2]⟩

set_option maxRecDepth 100000 in
set_option maxHeartbeats 400000 in
theorem digits_nil : ∀ (R : Heap), FnW Tryz.prog 71 [str []] R [] fun v _ => v = .bool (digitsB []) := by
  intro R
  refine fn_of_body Tryz.func71 rfl Tryz.ntmps71 Tryz.results71 (by rfl) ?_
  refine cw_regseq ?_
  refine ow_y (y_assign rfl) rfl rfl rfl ?_
  refine ow_nil ?_
  refine cw_regseq ?_
  refine ow_y (y_move rfl) rfl rfl rfl ?_
  refine ow_call rfl rfl (by rfl) ct_70 (trim_c R _ ([]) digL (by simp only [List.length_nil] at *; omega) (by decide) (by decide)) ?_
  rintro _ _ ⟨rfl, rfl⟩
  refine ow_streq rfl rfl rfl rfl (fun h5 => ?_) (fun h5 => ?_)
  · refine ow_y (y_move rfl) rfl rfl rfl ?_
    refine ow_y (y_move rfl) rfl rfl rfl ?_
    refine ow_strne rfl rfl rfl rfl (fun h8 => ?_) (fun h8 => ?_)
    · exact absurd rfl h8
    · refine ow_y (y_pick_t rfl rfl) rfl rfl rfl ?_
      refine ow_y (y_move rfl) rfl rfl rfl ?_
      refine ow_skip rfl rfl rfl ?_
      refine ow_skip rfl rfl rfl ?_
      refine ow_skip rfl rfl rfl ?_
      refine ow_skip rfl rfl rfl ?_
      refine ow_skip rfl rfl rfl ?_
      refine ow_skip rfl rfl rfl ?_
      refine ow_skip rfl rfl rfl ?_
      refine ow_y (y_pick_f rfl rfl) rfl rfl rfl ?_
      refine ow_y (y_assign rfl) rfl rfl rfl ?_
      refine ow_nil ?_
      refine cw_ret ?_
      repeat with_reducible first | refine thenQ_ret ?_ | refine thenQ_normal ?_ | refine thenQ_exit ?_ | refine blockQ_ret ?_ | refine blockQ_normal ?_ | refine blockQ_exit_same ?_ | refine blockQ_exit_ne rfl ?_
      refine body_ret (.one (.tmp rfl)) ?_
      rfl
  · exact absurd rfl h5

set_option maxRecDepth 100000 in
set_option maxHeartbeats 400000 in
theorem digits_cons : ∀ (R : Heap) (c : UInt8) (l : List UInt8), (c :: l).length ≤ 281474976710656 → FnW Tryz.prog 71 [str (c :: l)] R [] fun v _ => v = .bool (digitsB (c :: l)) := by
  intro R c l hs
  refine fn_of_body Tryz.func71 rfl Tryz.ntmps71 Tryz.results71 (by rfl) ?_
  refine cw_regseq ?_
  refine ow_y (y_assign rfl) rfl rfl rfl ?_
  refine ow_nil ?_
  refine cw_regseq ?_
  refine ow_y (y_move rfl) rfl rfl rfl ?_
  refine ow_call rfl rfl (by rfl) ct_70 (trim_c R _ (c :: l) digL (by simp only [List.length_cons] at *; omega) (by decide) (by decide)) ?_
  rintro _ _ ⟨rfl, rfl⟩
  refine ow_streq rfl rfl rfl rfl (fun h5 => ?_) (fun h5 => ?_)
  · refine ow_y (y_move rfl) rfl rfl rfl ?_
    refine ow_y (y_move rfl) rfl rfl rfl ?_
    refine ow_strne rfl rfl rfl rfl (fun h8 => ?_) (fun h8 => ?_)
    · refine ow_y (y_pick_t rfl rfl) rfl rfl rfl ?_
      refine ow_y (y_move rfl) rfl rfl rfl ?_
      refine ow_y (y_move rfl) rfl rfl rfl ?_
      refine ow_streq rfl rfl rfl rfl (fun h12 => ?_) (fun h12 => ?_)
      · refine ow_y (y_move rfl) rfl rfl rfl ?_
        refine ow_skip rfl rfl rfl ?_
        refine ow_skip rfl rfl rfl ?_
        refine ow_skip rfl rfl rfl ?_
        refine ow_y (y_pick_t rfl rfl) rfl rfl rfl ?_
        refine ow_y (y_pick_t rfl rfl) rfl rfl rfl ?_
        refine ow_y (y_assign rfl) rfl rfl rfl ?_
        refine ow_nil ?_
        refine cw_ret ?_
        repeat with_reducible first | refine thenQ_ret ?_ | refine thenQ_normal ?_ | refine thenQ_exit ?_ | refine blockQ_ret ?_ | refine blockQ_normal ?_ | refine blockQ_exit_same ?_ | refine blockQ_exit_ne rfl ?_
        refine body_ret (.one (.tmp rfl)) ?_
        rw [h12]; rfl
      · refine ow_y (y_move rfl) rfl rfl rfl ?_
        refine ow_y (y_move rfl) rfl rfl rfl ?_
        refine ow_y (y_idxStr rfl rfl st_9 (by rfl)) rfl rfl rfl ?_
        refine ow_cmp rfl rfl rfl rfl rfl (fun h16 => ?_) (fun h16 => ?_)
        · simp only [cmpP] at h16
          refine ow_y (y_pick_f rfl rfl) rfl rfl rfl ?_
          refine ow_y (y_pick_t rfl rfl) rfl rfl rfl ?_
          refine ow_y (y_assign rfl) rfl rfl rfl ?_
          refine ow_nil ?_
          refine cw_ret ?_
          repeat with_reducible first | refine thenQ_ret ?_ | refine thenQ_normal ?_ | refine thenQ_exit ?_ | refine blockQ_ret ?_ | refine blockQ_normal ?_ | refine blockQ_exit_same ?_ | refine blockQ_exit_ne rfl ?_
          refine body_ret (.one (.tmp rfl)) ?_
          have ha := (trim_dig _).1 h5
          have hne : c ≠ 48 := fun hh => h16 (byte48.2 hh)
          simp [digitsB, ha, hne]
        · simp only [cmpP] at h16
          refine ow_y (y_pick_f rfl rfl) rfl rfl rfl ?_
          refine ow_y (y_pick_t rfl rfl) rfl rfl rfl ?_
          refine ow_y (y_assign rfl) rfl rfl rfl ?_
          refine ow_nil ?_
          refine cw_ret ?_
          repeat with_reducible first | refine thenQ_ret ?_ | refine thenQ_normal ?_ | refine thenQ_exit ?_ | refine blockQ_ret ?_ | refine blockQ_normal ?_ | refine blockQ_exit_same ?_ | refine blockQ_exit_ne rfl ?_
          refine body_ret (.one (.tmp rfl)) ?_
          have ha := (trim_dig _).1 h5
          have hne : c = 48 := byte48.1 (by omega)
          have hl : l ≠ [] := fun hh => h12 (by rw [hh, hne])
          subst hne
          simp only [digitsB, ha]
          simp [hl]
    · exact absurd h8 (by simp)
  · refine ow_y (y_move rfl) rfl rfl rfl ?_
    refine ow_skip rfl rfl rfl ?_
    refine ow_skip rfl rfl rfl ?_
    refine ow_y (y_pick_f rfl rfl) rfl rfl rfl ?_
    refine ow_y (y_move rfl) rfl rfl rfl ?_
    refine ow_skip rfl rfl rfl ?_
    refine ow_skip rfl rfl rfl ?_
    refine ow_skip rfl rfl rfl ?_
    refine ow_skip rfl rfl rfl ?_
    refine ow_skip rfl rfl rfl ?_
    refine ow_skip rfl rfl rfl ?_
    refine ow_skip rfl rfl rfl ?_
    refine ow_y (y_pick_f rfl rfl) rfl rfl rfl ?_
    refine ow_y (y_assign rfl) rfl rfl rfl ?_
    refine ow_nil ?_
    refine cw_ret ?_
    repeat with_reducible first | refine thenQ_ret ?_ | refine thenQ_normal ?_ | refine thenQ_exit ?_ | refine blockQ_ret ?_ | refine blockQ_normal ?_ | refine blockQ_exit_same ?_ | refine blockQ_exit_ne rfl ?_
    refine body_ret (.one (.tmp rfl)) ?_
    simp only [digitsB, all_false h5]; rfl

theorem digits_c (R L : Heap) (s : List UInt8) (hs : s.length ≤ 281474976710656) : FnW Tryz.prog 71 [str s] R L fun v L' => v = .bool (digitsB s) ∧ L' = L := by
  cases s with
  | nil => exact FnW.gen (digits_nil R) L
  | cons c l => exact FnW.gen (digits_cons R c l hs) L

/-- What wordToken answers. -/
def WPost (s : List UInt8) (v : Value) : Prop := ∃ t, v = .tuple #[encT t, .bool (wordOk s)] ∧ (wordOk s = true → t = wordTok s) ∧ Fit [t]
theorem fit_one {t : Tok} (h : ∀ n, (t = .num n ∨ t = .reg n) → n < 18446744073709551616) : Fit [t] := by
  intro n hn
  rcases hn with hn | hn
  · exact h n (.inl (by simp at hn; exact hn.symm))
  · exact h n (.inr (by simp at hn; exact hn.symm))
theorem fit_num {n : Nat} (h : n < 18446744073709551616) : Fit [.num n] := fit_one fun m hm => by rcases hm with hm | hm <;> cases hm; exact h
theorem fit_reg {n : Nat} (h : n < 18446744073709551616) : Fit [.reg n] := fit_one fun m hm => by rcases hm with hm | hm <;> cases hm; exact h
theorem fit_name {l : List UInt8} : Fit [.name l] := fit_one fun m hm => by rcases hm with hm | hm <;> cases hm
theorem wk_hex (h : List UInt8) : wordKind (48 :: 120 :: h) = 0 := by simp [wordKind, Lib.hasPrefix, List.isPrefixOf]
theorem wp_hex {h : List UInt8} {n : Nat} {b : Bool} (hn : n < 18446744073709551616) (hv : hexOk h = true → n = hexV h) (hb : b = hexOk h) : WPost (48 :: 120 :: h) (.tuple #[.iface 114 (.int .u64 n), .bool b]) := by
  have ho : wordOk (48 :: 120 :: h) = hexOk h := by simp only [wordOk, wk_hex]; rfl
  refine ⟨.num n, by rw [ho, hb]; rfl, fun h1 => ?_, fit_num hn⟩
  simp only [wordTok, wk_hex]
  rw [ho] at h1
  rw [hv h1]; rfl
theorem wp_num {c : UInt8} {l : List UInt8} (hp : Lib.hasPrefix (c :: l) [48, 120] = false) (hc : isDig c = true) : WPost (c :: l) (.tuple #[.iface 114 (.int .u64 (big10 (c :: l) : Nat)), .bool (digitsB (c :: l))]) := by
  have hk : wordKind (c :: l) = 1 := by simp [wordKind, hp, hc]
  exact ⟨.num (big10 (c :: l)), by simp only [wordOk, hk]; rfl, fun _ => by simp only [wordTok, hk], fit_num (big10_lt _)⟩
theorem wp_reg {c : UInt8} {l : List UInt8} (hp : Lib.hasPrefix (c :: l) [48, 120] = false) (hc : isDig c = false) (h1 : c = 114) (h2 : l ≠ []) (h3 : l.all isDig = true) : WPost (c :: l) (.tuple #[.iface 131 (.int .u64 (big10 l : Nat)), .bool (digitsB l)]) := by
  have hl : 1 < (c :: l).length := by cases l <;> simp_all
  have hk : wordKind (c :: l) = 2 := by
    simp only [wordKind, hp]
    rw [if_neg (by simp), if_neg (by simp [hc]), if_pos ⟨by rw [h1]; rfl, hl, h3⟩]
  exact ⟨.reg (big10 l), by simp only [wordOk, hk]; rfl, fun _ => by simp only [wordTok, hk]; rfl, fit_reg (big10_lt _)⟩
theorem wp_name {c : UInt8} {l : List UInt8} {b : Bool} (hp : Lib.hasPrefix (c :: l) [48, 120] = false) (hc : isDig c = false) (h1 : ¬ (c = 114 ∧ l ≠ [] ∧ l.all isDig = true)) (hb : b = decide ((c :: l).length ≤ 12)) : WPost (c :: l) (.tuple #[.iface 109 (str (c :: l)), .bool b]) := by
  have hk : wordKind (c :: l) = 3 := by
    simp only [wordKind, hp]
    rw [if_neg (by simp), if_neg (by simp [hc]), if_neg]
    rintro ⟨h2, h3, h4⟩
    refine h1 ⟨by simpa using h2, ?_, h4⟩
    rintro rfl; simp at h3
  exact ⟨.name (c :: l), by simp only [wordOk, hk]; rw [hb]; rfl, fun _ => by simp only [wordTok, hk], fit_name⟩
theorem dig_of {c : UInt8} (h1 : (48 : Int) ≤ c.toNat) (h2 : (c.toNat : Int) ≤ 57) : isDig c = true := by simp only [isDig, Bool.and_eq_true, decide_eq_true_eq]; omega
theorem not_dig {c : UInt8} (h : ¬ ((48 : Int) ≤ c.toNat ∧ (c.toNat : Int) ≤ 57)) : isDig c = false := by rw [Bool.eq_false_iff]; intro h2; simp only [isDig, Bool.and_eq_true, decide_eq_true_eq] at h2; omega
theorem byte114 {c : UInt8} : (c.toNat : Int) = 114 ↔ c = 114 := ⟨fun h => UInt8.toNat.inj (by show c.toNat = 114; omega), fun h => by rw [h]; rfl⟩

set_option maxRecDepth 100000 in
set_option maxHeartbeats 400000 in
theorem wordToken_hex : ∀ (R : Heap) (h : List UInt8), Glob R → h.length ≤ 140737488355328 → FnW Tryz.prog 52 [str (48 :: 120 :: h)] R [] fun v _ => WPost (48 :: 120 :: h) v := by
  intro R h hR hs
  refine fn_of_body Tryz.func52 rfl Tryz.ntmps52 Tryz.results52 (by rfl) ?_
  refine cw_regseq ?_
  refine ow_y (y_assign rfl) rfl rfl rfl ?_
  refine ow_y (y_assign rfl) rfl rfl rfl ?_
  refine ow_nil ?_
  refine cw_seq ?_
  refine cw_block ?_
  refine cw_regseq ?_
  refine ow_y (y_move rfl) rfl rfl rfl ?_
  refine ow_call rfl rfl (by rfl) ct_32 (hasPrefix_c R _ (48 :: 120 :: h) [48, 120]) ?_
  · rintro _ _ ⟨rfl, rfl⟩
    refine ow_y (y_assign rfl) rfl rfl rfl ?_
    refine ow_nil ?_
    refine cw_if_t rfl ?_
    refine cw_regseq ?_
    refine ow_y (y_move rfl) rfl rfl rfl ?_
    refine ow_y (y_sliceStr (vlo := some (.int .i64 2)) (vhi := none) (i := 2) (j := ((48 : UInt8) :: 120 :: h).length) rfl st_9 rfl rfl (.inr rfl) (.inl ⟨rfl, rfl⟩) (by simp) (by simp)) rfl rfl rfl ?_
    rw [drop_two]
    refine ow_y (y_assign rfl) rfl rfl rfl ?_
    refine ow_nil ?_
    refine cw_regseq ?_
    refine ow_y (y_move rfl) rfl rfl rfl ?_
    refine ow_call rfl rfl (by rfl) ct_69 (big16_c R _ hR h (by omega)) ?_
    rintro _ _ ⟨⟨n, hn, rfl, hv⟩, rfl⟩
    refine ow_y (y_makeInterface rfl cc_114) rfl rfl rfl ?_
    refine ow_y (y_move rfl) rfl rfl rfl ?_
    refine ow_strne rfl rfl rfl rfl (fun h14 => ?_) (fun h14 => ?_)
    · refine ow_y (y_move rfl) rfl rfl rfl ?_
      refine ow_y (y_move rfl) rfl rfl rfl ?_
      refine ow_y (y_lenStr rfl st_9) rfl rfl rfl ?_
      refine ow_cmp rfl rfl rfl rfl rfl (fun h18 => ?_) (fun h18 => ?_)
      · simp only [cmpP] at h18
        refine ow_y (y_pick_t rfl rfl) rfl rfl rfl ?_
        refine ow_y (y_move rfl) rfl rfl rfl ?_
        refine ow_y (y_move rfl) rfl rfl rfl ?_
        refine ow_call rfl rfl (by rfl) ct_70 (trim_c R _ h hexL (by omega) (by decide) (by decide)) ?_
        rintro _ _ ⟨rfl, rfl⟩
        refine ow_streq rfl rfl rfl rfl (fun h23 => ?_) (fun h23 => ?_)
        · refine ow_y (y_pick_t rfl rfl) rfl rfl rfl ?_
          refine ow_y (y_assign rfl) rfl rfl rfl ?_
          refine ow_y (y_assign rfl) rfl rfl rfl ?_
          refine ow_nil ?_
          refine cw_ret ?_
          repeat with_reducible first | refine thenQ_ret ?_ | refine thenQ_normal ?_ | refine thenQ_exit ?_ | refine blockQ_ret ?_ | refine blockQ_normal ?_ | refine blockQ_exit_same ?_ | refine blockQ_exit_ne rfl ?_
          refine body_ret (.two (.tmp rfl) (.tmp rfl)) ?_
          exact wp_hex hn hv (by simp only [hexOk, (trim_hex h).1 h23]; simp [h14]; omega)
        · refine ow_y (y_pick_t rfl rfl) rfl rfl rfl ?_
          refine ow_y (y_assign rfl) rfl rfl rfl ?_
          refine ow_y (y_assign rfl) rfl rfl rfl ?_
          refine ow_nil ?_
          refine cw_ret ?_
          repeat with_reducible first | refine thenQ_ret ?_ | refine thenQ_normal ?_ | refine thenQ_exit ?_ | refine blockQ_ret ?_ | refine blockQ_normal ?_ | refine blockQ_exit_same ?_ | refine blockQ_exit_ne rfl ?_
          refine body_ret (.two (.tmp rfl) (.tmp rfl)) ?_
          exact wp_hex hn hv (by rw [eq_comm, Bool.eq_false_iff]; intro hx; simp only [hexOk, Bool.and_eq_true] at hx; exact h23 ((trim_hex h).2 hx.2))
      · simp only [cmpP] at h18
        refine ow_y (y_pick_t rfl rfl) rfl rfl rfl ?_
        refine ow_y (y_move rfl) rfl rfl rfl ?_
        refine ow_skip rfl rfl rfl ?_
        refine ow_skip rfl rfl rfl ?_
        refine ow_skip rfl rfl rfl ?_
        refine ow_y (y_pick_f rfl rfl) rfl rfl rfl ?_
        refine ow_y (y_assign rfl) rfl rfl rfl ?_
        refine ow_y (y_assign rfl) rfl rfl rfl ?_
        refine ow_nil ?_
        refine cw_ret ?_
        repeat with_reducible first | refine thenQ_ret ?_ | refine thenQ_normal ?_ | refine thenQ_exit ?_ | refine blockQ_ret ?_ | refine blockQ_normal ?_ | refine blockQ_exit_same ?_ | refine blockQ_exit_ne rfl ?_
        refine body_ret (.two (.tmp rfl) (.tmp rfl)) ?_
        exact wp_hex hn hv (by rw [eq_comm, Bool.eq_false_iff]; intro hx; simp only [hexOk, Bool.and_eq_true, decide_eq_true_eq] at hx; omega)
    · refine ow_y (y_move rfl) rfl rfl rfl ?_
      refine ow_skip rfl rfl rfl ?_
      refine ow_skip rfl rfl rfl ?_
      refine ow_skip rfl rfl rfl ?_
      refine ow_y (y_pick_f rfl rfl) rfl rfl rfl ?_
      refine ow_y (y_move rfl) rfl rfl rfl ?_
      refine ow_skip rfl rfl rfl ?_
      refine ow_skip rfl rfl rfl ?_
      refine ow_skip rfl rfl rfl ?_
      refine ow_y (y_pick_f rfl rfl) rfl rfl rfl ?_
      refine ow_y (y_assign rfl) rfl rfl rfl ?_
      refine ow_y (y_assign rfl) rfl rfl rfl ?_
      refine ow_nil ?_
      refine cw_ret ?_
      repeat with_reducible first | refine thenQ_ret ?_ | refine thenQ_normal ?_ | refine thenQ_exit ?_ | refine blockQ_ret ?_ | refine blockQ_normal ?_ | refine blockQ_exit_same ?_ | refine blockQ_exit_ne rfl ?_
      refine body_ret (.two (.tmp rfl) (.tmp rfl)) ?_
      exact wp_hex hn hv (by rw [h14]; rfl)

set_option maxRecDepth 100000 in
set_option maxHeartbeats 400000 in
theorem wordToken_cons : ∀ (R : Heap) (c : UInt8) (l : List UInt8), Glob R → (c :: l).length ≤ 140737488355328 → Lib.hasPrefix (c :: l) [48, 120] = false → FnW Tryz.prog 52 [str (c :: l)] R [] fun v _ => WPost (c :: l) v := by
  intro R c l hR hs hp
  have hl : l.length ≤ 140737488355328 := by simp only [List.length_cons] at hs; omega
  refine fn_of_body Tryz.func52 rfl Tryz.ntmps52 Tryz.results52 (by rfl) ?_
  refine cw_regseq ?_
  refine ow_y (y_assign rfl) rfl rfl rfl ?_
  refine ow_y (y_assign rfl) rfl rfl rfl ?_
  refine ow_nil ?_
  refine cw_seq ?_
  refine cw_block ?_
  refine cw_regseq ?_
  refine ow_y (y_move rfl) rfl rfl rfl ?_
  refine ow_call rfl rfl (by rfl) ct_32 (hasPrefix_c R _ (c :: l) [48, 120]) ?_
  · rintro _ _ ⟨rfl, rfl⟩
    rw [hp]
    refine ow_y (y_assign rfl) rfl rfl rfl ?_
    refine ow_nil ?_
    refine cw_if_f rfl ?_
    refine cw_regseq ?_
    refine ow_y (y_move rfl) rfl rfl rfl ?_
    refine ow_y (y_idxStr rfl rfl st_9 (by rfl)) rfl rfl rfl ?_
    refine ow_cmp rfl rfl rfl rfl rfl (fun h28 => ?_) (fun h28 => ?_)
    · simp only [cmpP] at h28
      refine ow_y (y_move rfl) rfl rfl rfl ?_
      refine ow_y (y_move rfl) rfl rfl rfl ?_
      refine ow_y (y_idxStr rfl rfl st_9 (by rfl)) rfl rfl rfl ?_
      refine ow_cmp rfl rfl rfl rfl rfl (fun h32 => ?_) (fun h32 => ?_)
      · simp only [cmpP] at h32
        refine ow_y (y_pick_t rfl rfl) rfl rfl rfl ?_
        refine ow_y (y_assign rfl) rfl rfl rfl ?_
        refine ow_nil ?_
        refine cw_if_t rfl ?_
        refine cw_regseq ?_
        refine ow_y (y_move rfl) rfl rfl rfl ?_
        refine ow_call rfl rfl (by rfl) ct_69 (big10_c R _ hR (c :: l) (by omega)) ?_
        rintro _ _ ⟨rfl, rfl⟩
        refine ow_y (y_makeInterface rfl cc_114) rfl rfl rfl ?_
        refine ow_y (y_move rfl) rfl rfl rfl ?_
        refine ow_call rfl rfl (by rfl) ct_71 (digits_c R _ (c :: l) (by omega)) ?_
        rintro _ _ ⟨rfl, rfl⟩
        refine ow_y (y_assign rfl) rfl rfl rfl ?_
        refine ow_y (y_assign rfl) rfl rfl rfl ?_
        refine ow_nil ?_
        refine cw_ret ?_
        repeat with_reducible first | refine thenQ_ret ?_ | refine thenQ_normal ?_ | refine thenQ_exit ?_ | refine blockQ_ret ?_ | refine blockQ_normal ?_ | refine blockQ_exit_same ?_ | refine blockQ_exit_ne rfl ?_
        refine body_ret (.two (.tmp rfl) (.tmp rfl)) ?_
        exact wp_num hp (dig_of h28 h32)
      · simp only [cmpP] at h32
        refine ow_y (y_pick_t rfl rfl) rfl rfl rfl ?_
        refine ow_y (y_assign rfl) rfl rfl rfl ?_
        refine ow_nil ?_
        refine cw_if_f rfl ?_
        refine cw_regseq ?_
        refine ow_y (y_move rfl) rfl rfl rfl ?_
        refine ow_y (y_idxStr rfl rfl st_9 (by rfl)) rfl rfl rfl ?_
        refine ow_cmp rfl rfl rfl rfl rfl (fun h42 => ?_) (fun h42 => ?_)
        · simp only [cmpP] at h42
          refine ow_y (y_move rfl) rfl rfl rfl ?_
          refine ow_y (y_move rfl) rfl rfl rfl ?_
          refine ow_y (y_lenStr rfl st_9) rfl rfl rfl ?_
          refine ow_cmp rfl rfl rfl rfl rfl (fun h46 => ?_) (fun h46 => ?_)
          · simp only [cmpP] at h46
            refine ow_y (y_pick_t rfl rfl) rfl rfl rfl ?_
            refine ow_y (y_move rfl) rfl rfl rfl ?_
            refine ow_y (y_move rfl) rfl rfl rfl ?_
            refine ow_y (y_sliceStr (vlo := some (.int .i64 1)) (vhi := none) (i := 1) (j := (c :: l).length) rfl st_9 rfl rfl (.inr rfl) (.inl ⟨rfl, rfl⟩) (by simp) (by simp)) rfl rfl rfl ?_
            rw [drop_one]
            refine ow_call rfl rfl (by rfl) ct_70 (trim_c R _ l digL (by omega) (by decide) (by decide)) ?_
            rintro _ _ ⟨rfl, rfl⟩
            refine ow_streq rfl rfl rfl rfl (fun h52 => ?_) (fun h52 => ?_)
            · refine ow_y (y_pick_t rfl rfl) rfl rfl rfl ?_
              refine ow_y (y_assign rfl) rfl rfl rfl ?_
              refine ow_nil ?_
              refine cw_if_t rfl ?_
              refine cw_drawseq [] (by kernel_rfl) rfl ?_
              refine any_take 0 rfl (by kernel_rfl) (by kernel_rfl) (by kernel_rfl) rfl rfl rfl (by repeat (first | exact Split.nil | (apply Split.cons; · repeat (first | exact Pick.here | apply Pick.there)))) (y_move rfl) ?_
              refine any_take 1 rfl (by kernel_rfl) (by kernel_rfl) (by kernel_rfl) rfl rfl rfl (by repeat (first | exact Split.nil | (apply Split.cons; · repeat (first | exact Pick.here | apply Pick.there)))) (y_sliceStr (vlo := some (.int .i64 1)) (vhi := none) (i := 1) (j := (c :: l).length) rfl st_9 rfl rfl (.inr rfl) (.inl ⟨rfl, rfl⟩) (by simp) (by simp)) ?_
              rw [drop_one]
              refine any_take 4 rfl (by kernel_rfl) (by kernel_rfl) (by kernel_rfl) rfl rfl rfl (by repeat (first | exact Split.nil | (apply Split.cons; · repeat (first | exact Pick.here | apply Pick.there)))) (y_move rfl) ?_
              refine any_take 5 rfl (by kernel_rfl) (by kernel_rfl) (by kernel_rfl) rfl rfl rfl (by repeat (first | exact Split.nil | (apply Split.cons; · repeat (first | exact Pick.here | apply Pick.there)))) (y_sliceStr (vlo := some (.int .i64 1)) (vhi := none) (i := 1) (j := (c :: l).length) rfl st_9 rfl rfl (.inr rfl) (.inl ⟨rfl, rfl⟩) (by simp) (by simp)) ?_
              rw [drop_one]
              refine any_one 2 rfl (by kernel_rfl) ?_
              refine ow_call rfl rfl (by rfl) ct_69 (big10_c R _ hR l (by omega)) ?_
              rintro _ _ ⟨rfl, rfl⟩
              refine ow_nil ?_
              refine nextW (by repeat (first | exact Split.nil | (apply Split.cons; · repeat (first | exact Pick.here | apply Pick.there)))) ?_
              refine any_take 3 rfl (by kernel_rfl) (by kernel_rfl) (by kernel_rfl) rfl rfl rfl (by repeat (first | exact Split.nil | (apply Split.cons; · repeat (first | exact Pick.here | apply Pick.there)))) (y_makeInterface rfl cc_131) ?_
              refine any_one 6 rfl (by kernel_rfl) ?_
              refine ow_call rfl rfl (by rfl) ct_71 (digits_c R _ l (by omega)) ?_
              rintro _ _ ⟨rfl, rfl⟩
              refine ow_nil ?_
              refine nextW (by repeat (first | exact Split.nil | (apply Split.cons; · repeat (first | exact Pick.here | apply Pick.there)))) ?_
              refine any_take 7 rfl (by kernel_rfl) (by kernel_rfl) (by kernel_rfl) rfl rfl rfl (by repeat (first | exact Split.nil | (apply Split.cons; · repeat (first | exact Pick.here | apply Pick.there)))) (y_assign rfl) ?_
              refine any_take 8 rfl (by kernel_rfl) (by kernel_rfl) (by kernel_rfl) rfl rfl rfl (by repeat (first | exact Split.nil | (apply Split.cons; · repeat (first | exact Pick.here | apply Pick.there)))) (y_assign rfl) ?_
              refine any_done (by kernel_rfl) ?_
              refine cw_ret ?_
              repeat with_reducible first | refine thenQ_ret ?_ | refine thenQ_normal ?_ | refine thenQ_exit ?_ | refine blockQ_ret ?_ | refine blockQ_normal ?_ | refine blockQ_exit_same ?_ | refine blockQ_exit_ne rfl ?_
              refine body_ret (.two (.tmp rfl) (.tmp rfl)) ?_
              have h2 : l ≠ [] := by rintro rfl; simp at h46
              exact wp_reg hp (not_dig fun hh => h32 hh.2) (byte114.1 h42) h2 ((trim_dig l).1 h52)
            · refine ow_y (y_pick_t rfl rfl) rfl rfl rfl ?_
              refine ow_y (y_assign rfl) rfl rfl rfl ?_
              refine ow_nil ?_
              refine cw_if_f rfl ?_
              refine cw_skip ?_
              repeat with_reducible first | refine thenQ_ret ?_ | refine thenQ_normal ?_ | refine thenQ_exit ?_ | refine blockQ_ret ?_ | refine blockQ_normal ?_ | refine blockQ_exit_same ?_ | refine blockQ_exit_ne rfl ?_
              refine cw_regseq ?_
              refine ow_y (y_move rfl) rfl rfl rfl ?_
              refine ow_y (y_makeInterface rfl cc_109) rfl rfl rfl ?_
              refine ow_y (y_move rfl) rfl rfl rfl ?_
              refine ow_y (y_lenStr rfl st_9) rfl rfl rfl ?_
              refine ow_cmp rfl rfl rfl rfl rfl (fun h65 => ?_) (fun h65 => ?_)
              · simp only [cmpP] at h65
                refine ow_y (y_assign rfl) rfl rfl rfl ?_
                refine ow_y (y_assign rfl) rfl rfl rfl ?_
                refine ow_nil ?_
                refine cw_ret ?_
                repeat with_reducible first | refine thenQ_ret ?_ | refine thenQ_normal ?_ | refine thenQ_exit ?_ | refine blockQ_ret ?_ | refine blockQ_normal ?_ | refine blockQ_exit_same ?_ | refine blockQ_exit_ne rfl ?_
                refine body_ret (.two (.tmp rfl) (.tmp rfl)) ?_
                exact wp_name hp (not_dig fun hh => h32 hh.2) (fun hh => h52 ((trim_dig l).2 hh.2.2)) (by rw [eq_comm, decide_eq_true_eq]; omega)
              · simp only [cmpP] at h65
                refine ow_y (y_assign rfl) rfl rfl rfl ?_
                refine ow_y (y_assign rfl) rfl rfl rfl ?_
                refine ow_nil ?_
                refine cw_ret ?_
                repeat with_reducible first | refine thenQ_ret ?_ | refine thenQ_normal ?_ | refine thenQ_exit ?_ | refine blockQ_ret ?_ | refine blockQ_normal ?_ | refine blockQ_exit_same ?_ | refine blockQ_exit_ne rfl ?_
                refine body_ret (.two (.tmp rfl) (.tmp rfl)) ?_
                exact wp_name hp (not_dig fun hh => h32 hh.2) (fun hh => h52 ((trim_dig l).2 hh.2.2)) (by rw [eq_comm, decide_eq_false_iff_not]; simp only [List.length_cons] at *; omega)
          · simp only [cmpP] at h46
            refine ow_y (y_pick_t rfl rfl) rfl rfl rfl ?_
            refine ow_y (y_move rfl) rfl rfl rfl ?_
            refine ow_skip rfl rfl rfl ?_
            refine ow_skip rfl rfl rfl ?_
            refine ow_skip rfl rfl rfl ?_
            refine ow_skip rfl rfl rfl ?_
            refine ow_y (y_pick_f rfl rfl) rfl rfl rfl ?_
            refine ow_y (y_assign rfl) rfl rfl rfl ?_
            refine ow_nil ?_
            refine cw_if_f rfl ?_
            refine cw_skip ?_
            repeat with_reducible first | refine thenQ_ret ?_ | refine thenQ_normal ?_ | refine thenQ_exit ?_ | refine blockQ_ret ?_ | refine blockQ_normal ?_ | refine blockQ_exit_same ?_ | refine blockQ_exit_ne rfl ?_
            refine cw_regseq ?_
            refine ow_y (y_move rfl) rfl rfl rfl ?_
            refine ow_y (y_makeInterface rfl cc_109) rfl rfl rfl ?_
            refine ow_y (y_move rfl) rfl rfl rfl ?_
            refine ow_y (y_lenStr rfl st_9) rfl rfl rfl ?_
            refine ow_cmp rfl rfl rfl rfl rfl (fun h65 => ?_) (fun h65 => ?_)
            · simp only [cmpP] at h65
              refine ow_y (y_assign rfl) rfl rfl rfl ?_
              refine ow_y (y_assign rfl) rfl rfl rfl ?_
              refine ow_nil ?_
              refine cw_ret ?_
              repeat with_reducible first | refine thenQ_ret ?_ | refine thenQ_normal ?_ | refine thenQ_exit ?_ | refine blockQ_ret ?_ | refine blockQ_normal ?_ | refine blockQ_exit_same ?_ | refine blockQ_exit_ne rfl ?_
              refine body_ret (.two (.tmp rfl) (.tmp rfl)) ?_
              exact wp_name hp (not_dig fun hh => h32 hh.2) (fun hh => h46 (by have := List.length_pos_iff.2 hh.2.1; simp only [List.length_cons]; omega)) (by rw [eq_comm, decide_eq_true_eq]; omega)
            · simp only [cmpP] at h65
              refine ow_y (y_assign rfl) rfl rfl rfl ?_
              refine ow_y (y_assign rfl) rfl rfl rfl ?_
              refine ow_nil ?_
              refine cw_ret ?_
              repeat with_reducible first | refine thenQ_ret ?_ | refine thenQ_normal ?_ | refine thenQ_exit ?_ | refine blockQ_ret ?_ | refine blockQ_normal ?_ | refine blockQ_exit_same ?_ | refine blockQ_exit_ne rfl ?_
              refine body_ret (.two (.tmp rfl) (.tmp rfl)) ?_
              exact wp_name hp (not_dig fun hh => h32 hh.2) (fun hh => h46 (by have := List.length_pos_iff.2 hh.2.1; simp only [List.length_cons]; omega)) (by rw [eq_comm, decide_eq_false_iff_not]; simp only [List.length_cons] at *; omega)
        · simp only [cmpP] at h42
          refine ow_y (y_move rfl) rfl rfl rfl ?_
          refine ow_skip rfl rfl rfl ?_
          refine ow_skip rfl rfl rfl ?_
          refine ow_skip rfl rfl rfl ?_
          refine ow_y (y_pick_f rfl rfl) rfl rfl rfl ?_
          refine ow_y (y_move rfl) rfl rfl rfl ?_
          refine ow_skip rfl rfl rfl ?_
          refine ow_skip rfl rfl rfl ?_
          refine ow_skip rfl rfl rfl ?_
          refine ow_skip rfl rfl rfl ?_
          refine ow_y (y_pick_f rfl rfl) rfl rfl rfl ?_
          refine ow_y (y_assign rfl) rfl rfl rfl ?_
          refine ow_nil ?_
          refine cw_if_f rfl ?_
          refine cw_skip ?_
          repeat with_reducible first | refine thenQ_ret ?_ | refine thenQ_normal ?_ | refine thenQ_exit ?_ | refine blockQ_ret ?_ | refine blockQ_normal ?_ | refine blockQ_exit_same ?_ | refine blockQ_exit_ne rfl ?_
          refine cw_regseq ?_
          refine ow_y (y_move rfl) rfl rfl rfl ?_
          refine ow_y (y_makeInterface rfl cc_109) rfl rfl rfl ?_
          refine ow_y (y_move rfl) rfl rfl rfl ?_
          refine ow_y (y_lenStr rfl st_9) rfl rfl rfl ?_
          refine ow_cmp rfl rfl rfl rfl rfl (fun h65 => ?_) (fun h65 => ?_)
          · simp only [cmpP] at h65
            refine ow_y (y_assign rfl) rfl rfl rfl ?_
            refine ow_y (y_assign rfl) rfl rfl rfl ?_
            refine ow_nil ?_
            refine cw_ret ?_
            repeat with_reducible first | refine thenQ_ret ?_ | refine thenQ_normal ?_ | refine thenQ_exit ?_ | refine blockQ_ret ?_ | refine blockQ_normal ?_ | refine blockQ_exit_same ?_ | refine blockQ_exit_ne rfl ?_
            refine body_ret (.two (.tmp rfl) (.tmp rfl)) ?_
            exact wp_name hp (not_dig fun hh => h32 hh.2) (fun hh => h42 (byte114.2 hh.1)) (by rw [eq_comm, decide_eq_true_eq]; omega)
          · simp only [cmpP] at h65
            refine ow_y (y_assign rfl) rfl rfl rfl ?_
            refine ow_y (y_assign rfl) rfl rfl rfl ?_
            refine ow_nil ?_
            refine cw_ret ?_
            repeat with_reducible first | refine thenQ_ret ?_ | refine thenQ_normal ?_ | refine thenQ_exit ?_ | refine blockQ_ret ?_ | refine blockQ_normal ?_ | refine blockQ_exit_same ?_ | refine blockQ_exit_ne rfl ?_
            refine body_ret (.two (.tmp rfl) (.tmp rfl)) ?_
            exact wp_name hp (not_dig fun hh => h32 hh.2) (fun hh => h42 (byte114.2 hh.1)) (by rw [eq_comm, decide_eq_false_iff_not]; simp only [List.length_cons] at *; omega)
    · simp only [cmpP] at h28
      refine ow_y (y_move rfl) rfl rfl rfl ?_
      refine ow_skip rfl rfl rfl ?_
      refine ow_skip rfl rfl rfl ?_
      refine ow_skip rfl rfl rfl ?_
      refine ow_y (y_pick_f rfl rfl) rfl rfl rfl ?_
      refine ow_y (y_assign rfl) rfl rfl rfl ?_
      refine ow_nil ?_
      refine cw_if_f rfl ?_
      refine cw_regseq ?_
      refine ow_y (y_move rfl) rfl rfl rfl ?_
      refine ow_y (y_idxStr rfl rfl st_9 (by rfl)) rfl rfl rfl ?_
      refine ow_cmp rfl rfl rfl rfl rfl (fun h42 => ?_) (fun h42 => ?_)
      · simp only [cmpP] at h42
        refine ow_y (y_move rfl) rfl rfl rfl ?_
        refine ow_y (y_move rfl) rfl rfl rfl ?_
        refine ow_y (y_lenStr rfl st_9) rfl rfl rfl ?_
        refine ow_cmp rfl rfl rfl rfl rfl (fun h46 => ?_) (fun h46 => ?_)
        · simp only [cmpP] at h46
          refine ow_y (y_pick_t rfl rfl) rfl rfl rfl ?_
          refine ow_y (y_move rfl) rfl rfl rfl ?_
          refine ow_y (y_move rfl) rfl rfl rfl ?_
          refine ow_y (y_sliceStr (vlo := some (.int .i64 1)) (vhi := none) (i := 1) (j := (c :: l).length) rfl st_9 rfl rfl (.inr rfl) (.inl ⟨rfl, rfl⟩) (by simp) (by simp)) rfl rfl rfl ?_
          rw [drop_one]
          refine ow_call rfl rfl (by rfl) ct_70 (trim_c R _ l digL (by omega) (by decide) (by decide)) ?_
          rintro _ _ ⟨rfl, rfl⟩
          refine ow_streq rfl rfl rfl rfl (fun h52 => ?_) (fun h52 => ?_)
          · refine ow_y (y_pick_t rfl rfl) rfl rfl rfl ?_
            refine ow_y (y_assign rfl) rfl rfl rfl ?_
            refine ow_nil ?_
            refine cw_if_t rfl ?_
            refine cw_drawseq [] (by kernel_rfl) rfl ?_
            refine any_take 0 rfl (by kernel_rfl) (by kernel_rfl) (by kernel_rfl) rfl rfl rfl (by repeat (first | exact Split.nil | (apply Split.cons; · repeat (first | exact Pick.here | apply Pick.there)))) (y_move rfl) ?_
            refine any_take 1 rfl (by kernel_rfl) (by kernel_rfl) (by kernel_rfl) rfl rfl rfl (by repeat (first | exact Split.nil | (apply Split.cons; · repeat (first | exact Pick.here | apply Pick.there)))) (y_sliceStr (vlo := some (.int .i64 1)) (vhi := none) (i := 1) (j := (c :: l).length) rfl st_9 rfl rfl (.inr rfl) (.inl ⟨rfl, rfl⟩) (by simp) (by simp)) ?_
            rw [drop_one]
            refine any_take 4 rfl (by kernel_rfl) (by kernel_rfl) (by kernel_rfl) rfl rfl rfl (by repeat (first | exact Split.nil | (apply Split.cons; · repeat (first | exact Pick.here | apply Pick.there)))) (y_move rfl) ?_
            refine any_take 5 rfl (by kernel_rfl) (by kernel_rfl) (by kernel_rfl) rfl rfl rfl (by repeat (first | exact Split.nil | (apply Split.cons; · repeat (first | exact Pick.here | apply Pick.there)))) (y_sliceStr (vlo := some (.int .i64 1)) (vhi := none) (i := 1) (j := (c :: l).length) rfl st_9 rfl rfl (.inr rfl) (.inl ⟨rfl, rfl⟩) (by simp) (by simp)) ?_
            rw [drop_one]
            refine any_one 2 rfl (by kernel_rfl) ?_
            refine ow_call rfl rfl (by rfl) ct_69 (big10_c R _ hR l (by omega)) ?_
            rintro _ _ ⟨rfl, rfl⟩
            refine ow_nil ?_
            refine nextW (by repeat (first | exact Split.nil | (apply Split.cons; · repeat (first | exact Pick.here | apply Pick.there)))) ?_
            refine any_take 3 rfl (by kernel_rfl) (by kernel_rfl) (by kernel_rfl) rfl rfl rfl (by repeat (first | exact Split.nil | (apply Split.cons; · repeat (first | exact Pick.here | apply Pick.there)))) (y_makeInterface rfl cc_131) ?_
            refine any_one 6 rfl (by kernel_rfl) ?_
            refine ow_call rfl rfl (by rfl) ct_71 (digits_c R _ l (by omega)) ?_
            rintro _ _ ⟨rfl, rfl⟩
            refine ow_nil ?_
            refine nextW (by repeat (first | exact Split.nil | (apply Split.cons; · repeat (first | exact Pick.here | apply Pick.there)))) ?_
            refine any_take 7 rfl (by kernel_rfl) (by kernel_rfl) (by kernel_rfl) rfl rfl rfl (by repeat (first | exact Split.nil | (apply Split.cons; · repeat (first | exact Pick.here | apply Pick.there)))) (y_assign rfl) ?_
            refine any_take 8 rfl (by kernel_rfl) (by kernel_rfl) (by kernel_rfl) rfl rfl rfl (by repeat (first | exact Split.nil | (apply Split.cons; · repeat (first | exact Pick.here | apply Pick.there)))) (y_assign rfl) ?_
            refine any_done (by kernel_rfl) ?_
            refine cw_ret ?_
            repeat with_reducible first | refine thenQ_ret ?_ | refine thenQ_normal ?_ | refine thenQ_exit ?_ | refine blockQ_ret ?_ | refine blockQ_normal ?_ | refine blockQ_exit_same ?_ | refine blockQ_exit_ne rfl ?_
            refine body_ret (.two (.tmp rfl) (.tmp rfl)) ?_
            have h2 : l ≠ [] := by rintro rfl; simp at h46
            exact wp_reg hp (not_dig fun hh => h28 hh.1) (byte114.1 h42) h2 ((trim_dig l).1 h52)
          · refine ow_y (y_pick_t rfl rfl) rfl rfl rfl ?_
            refine ow_y (y_assign rfl) rfl rfl rfl ?_
            refine ow_nil ?_
            refine cw_if_f rfl ?_
            refine cw_skip ?_
            repeat with_reducible first | refine thenQ_ret ?_ | refine thenQ_normal ?_ | refine thenQ_exit ?_ | refine blockQ_ret ?_ | refine blockQ_normal ?_ | refine blockQ_exit_same ?_ | refine blockQ_exit_ne rfl ?_
            refine cw_regseq ?_
            refine ow_y (y_move rfl) rfl rfl rfl ?_
            refine ow_y (y_makeInterface rfl cc_109) rfl rfl rfl ?_
            refine ow_y (y_move rfl) rfl rfl rfl ?_
            refine ow_y (y_lenStr rfl st_9) rfl rfl rfl ?_
            refine ow_cmp rfl rfl rfl rfl rfl (fun h65 => ?_) (fun h65 => ?_)
            · simp only [cmpP] at h65
              refine ow_y (y_assign rfl) rfl rfl rfl ?_
              refine ow_y (y_assign rfl) rfl rfl rfl ?_
              refine ow_nil ?_
              refine cw_ret ?_
              repeat with_reducible first | refine thenQ_ret ?_ | refine thenQ_normal ?_ | refine thenQ_exit ?_ | refine blockQ_ret ?_ | refine blockQ_normal ?_ | refine blockQ_exit_same ?_ | refine blockQ_exit_ne rfl ?_
              refine body_ret (.two (.tmp rfl) (.tmp rfl)) ?_
              exact wp_name hp (not_dig fun hh => h28 hh.1) (fun hh => h52 ((trim_dig l).2 hh.2.2)) (by rw [eq_comm, decide_eq_true_eq]; omega)
            · simp only [cmpP] at h65
              refine ow_y (y_assign rfl) rfl rfl rfl ?_
              refine ow_y (y_assign rfl) rfl rfl rfl ?_
              refine ow_nil ?_
              refine cw_ret ?_
              repeat with_reducible first | refine thenQ_ret ?_ | refine thenQ_normal ?_ | refine thenQ_exit ?_ | refine blockQ_ret ?_ | refine blockQ_normal ?_ | refine blockQ_exit_same ?_ | refine blockQ_exit_ne rfl ?_
              refine body_ret (.two (.tmp rfl) (.tmp rfl)) ?_
              exact wp_name hp (not_dig fun hh => h28 hh.1) (fun hh => h52 ((trim_dig l).2 hh.2.2)) (by rw [eq_comm, decide_eq_false_iff_not]; simp only [List.length_cons] at *; omega)
        · simp only [cmpP] at h46
          refine ow_y (y_pick_t rfl rfl) rfl rfl rfl ?_
          refine ow_y (y_move rfl) rfl rfl rfl ?_
          refine ow_skip rfl rfl rfl ?_
          refine ow_skip rfl rfl rfl ?_
          refine ow_skip rfl rfl rfl ?_
          refine ow_skip rfl rfl rfl ?_
          refine ow_y (y_pick_f rfl rfl) rfl rfl rfl ?_
          refine ow_y (y_assign rfl) rfl rfl rfl ?_
          refine ow_nil ?_
          refine cw_if_f rfl ?_
          refine cw_skip ?_
          repeat with_reducible first | refine thenQ_ret ?_ | refine thenQ_normal ?_ | refine thenQ_exit ?_ | refine blockQ_ret ?_ | refine blockQ_normal ?_ | refine blockQ_exit_same ?_ | refine blockQ_exit_ne rfl ?_
          refine cw_regseq ?_
          refine ow_y (y_move rfl) rfl rfl rfl ?_
          refine ow_y (y_makeInterface rfl cc_109) rfl rfl rfl ?_
          refine ow_y (y_move rfl) rfl rfl rfl ?_
          refine ow_y (y_lenStr rfl st_9) rfl rfl rfl ?_
          refine ow_cmp rfl rfl rfl rfl rfl (fun h65 => ?_) (fun h65 => ?_)
          · simp only [cmpP] at h65
            refine ow_y (y_assign rfl) rfl rfl rfl ?_
            refine ow_y (y_assign rfl) rfl rfl rfl ?_
            refine ow_nil ?_
            refine cw_ret ?_
            repeat with_reducible first | refine thenQ_ret ?_ | refine thenQ_normal ?_ | refine thenQ_exit ?_ | refine blockQ_ret ?_ | refine blockQ_normal ?_ | refine blockQ_exit_same ?_ | refine blockQ_exit_ne rfl ?_
            refine body_ret (.two (.tmp rfl) (.tmp rfl)) ?_
            exact wp_name hp (not_dig fun hh => h28 hh.1) (fun hh => h46 (by have := List.length_pos_iff.2 hh.2.1; simp only [List.length_cons]; omega)) (by rw [eq_comm, decide_eq_true_eq]; omega)
          · simp only [cmpP] at h65
            refine ow_y (y_assign rfl) rfl rfl rfl ?_
            refine ow_y (y_assign rfl) rfl rfl rfl ?_
            refine ow_nil ?_
            refine cw_ret ?_
            repeat with_reducible first | refine thenQ_ret ?_ | refine thenQ_normal ?_ | refine thenQ_exit ?_ | refine blockQ_ret ?_ | refine blockQ_normal ?_ | refine blockQ_exit_same ?_ | refine blockQ_exit_ne rfl ?_
            refine body_ret (.two (.tmp rfl) (.tmp rfl)) ?_
            exact wp_name hp (not_dig fun hh => h28 hh.1) (fun hh => h46 (by have := List.length_pos_iff.2 hh.2.1; simp only [List.length_cons]; omega)) (by rw [eq_comm, decide_eq_false_iff_not]; simp only [List.length_cons] at *; omega)
      · simp only [cmpP] at h42
        refine ow_y (y_move rfl) rfl rfl rfl ?_
        refine ow_skip rfl rfl rfl ?_
        refine ow_skip rfl rfl rfl ?_
        refine ow_skip rfl rfl rfl ?_
        refine ow_y (y_pick_f rfl rfl) rfl rfl rfl ?_
        refine ow_y (y_move rfl) rfl rfl rfl ?_
        refine ow_skip rfl rfl rfl ?_
        refine ow_skip rfl rfl rfl ?_
        refine ow_skip rfl rfl rfl ?_
        refine ow_skip rfl rfl rfl ?_
        refine ow_y (y_pick_f rfl rfl) rfl rfl rfl ?_
        refine ow_y (y_assign rfl) rfl rfl rfl ?_
        refine ow_nil ?_
        refine cw_if_f rfl ?_
        refine cw_skip ?_
        repeat with_reducible first | refine thenQ_ret ?_ | refine thenQ_normal ?_ | refine thenQ_exit ?_ | refine blockQ_ret ?_ | refine blockQ_normal ?_ | refine blockQ_exit_same ?_ | refine blockQ_exit_ne rfl ?_
        refine cw_regseq ?_
        refine ow_y (y_move rfl) rfl rfl rfl ?_
        refine ow_y (y_makeInterface rfl cc_109) rfl rfl rfl ?_
        refine ow_y (y_move rfl) rfl rfl rfl ?_
        refine ow_y (y_lenStr rfl st_9) rfl rfl rfl ?_
        refine ow_cmp rfl rfl rfl rfl rfl (fun h65 => ?_) (fun h65 => ?_)
        · simp only [cmpP] at h65
          refine ow_y (y_assign rfl) rfl rfl rfl ?_
          refine ow_y (y_assign rfl) rfl rfl rfl ?_
          refine ow_nil ?_
          refine cw_ret ?_
          repeat with_reducible first | refine thenQ_ret ?_ | refine thenQ_normal ?_ | refine thenQ_exit ?_ | refine blockQ_ret ?_ | refine blockQ_normal ?_ | refine blockQ_exit_same ?_ | refine blockQ_exit_ne rfl ?_
          refine body_ret (.two (.tmp rfl) (.tmp rfl)) ?_
          exact wp_name hp (not_dig fun hh => h28 hh.1) (fun hh => h42 (byte114.2 hh.1)) (by rw [eq_comm, decide_eq_true_eq]; omega)
        · simp only [cmpP] at h65
          refine ow_y (y_assign rfl) rfl rfl rfl ?_
          refine ow_y (y_assign rfl) rfl rfl rfl ?_
          refine ow_nil ?_
          refine cw_ret ?_
          repeat with_reducible first | refine thenQ_ret ?_ | refine thenQ_normal ?_ | refine thenQ_exit ?_ | refine blockQ_ret ?_ | refine blockQ_normal ?_ | refine blockQ_exit_same ?_ | refine blockQ_exit_ne rfl ?_
          refine body_ret (.two (.tmp rfl) (.tmp rfl)) ?_
          exact wp_name hp (not_dig fun hh => h28 hh.1) (fun hh => h42 (byte114.2 hh.1)) (by rw [eq_comm, decide_eq_false_iff_not]; simp only [List.length_cons] at *; omega)

theorem wordToken_c (R L : Heap) (hR : Glob R) (s : List UInt8) (hne : s ≠ []) (hs : s.length ≤ 140737488355328) : FnW Tryz.prog 52 [str s] R L fun v L' => WPost s v ∧ L' = L := by
  refine FnW.gen ?_ L
  cases s with
  | nil => exact absurd rfl hne
  | cons c l =>
    cases hp : Lib.hasPrefix (c :: l) [48, 120] with
    | false => exact wordToken_cons R c l hR hs hp
    | true =>
      obtain ⟨h, he⟩ := prefix_0x hp
      rw [he] at hs ⊢
      exact wordToken_hex R h hR (by simp only [List.length_cons] at hs; omega)

end Go.Proofs.YtgppllppddaodaaGreatDoor
