/-
  Lemmas and walks that the seat's cards rest on, merged: Am0, Am1, Am2, Am3, Lc0, Am4, Am5, Pa1, Pa2, Pa3, Pa4, Pa5, Pa6, Pa7, Pa8, Pa0, Sl0, Sl1, Sl2, Sl3. No statement of the set is proved here.
-/
import Derived.Lib.Index
import Derived.Lib.Bytealg
import GoSem.Core.View
import Derived.Lib.ParseIntBCases
import Derived.Lib.SlTrimSet
import Derived.Lib.Strings
import Derived.Lib.Split
import Derived.Lib.SplitLaws
import Derived.Lib.ItoaLen
import Derived.Lib.Join
import Derived.KernelRfl
import Derived.Test.YtgppllppddaodaaGreatDoorRows
import Derived.WalkKit
import Derived.OrdersHeld
import Derived.Deep.AppendLies
/-
  The pure model of package asm's texts: the tables.
-/
namespace Go.Proofs.YtgppllppddaodaaGreatDoor
namespace Am
def mnems : List (List UInt8) := [[], [109, 111, 118, 105], [97, 100, 100], [115, 117, 98], [97, 110, 100], [120, 111, 114], [115, 104, 108], [108, 100, 114], [115, 116, 114], [108, 100, 114, 98], [115, 116, 114, 98], [98, 101, 113], [98, 110, 101], [98, 108, 116], [106, 109, 112], [106, 97, 108], [106, 114], [104, 118, 99], [115, 118, 99], [109, 114, 115], [109, 115, 114], [119, 102, 105], [105, 97, 114], [101, 111, 105], [116, 108, 98, 105], [110, 111, 112]]
def formsL : List (List UInt8) := [[], [97, 105, 62, 97], [97, 98, 99, 62, 97, 98, 99], [97, 98, 99, 62, 97, 98, 99], [97, 98, 99, 62, 97, 98, 99], [97, 98, 99, 62, 97, 98, 99], [97, 98, 99, 62, 97, 98, 99], [97, 98, 105, 62, 97, 98], [97, 98, 105, 60, 97, 98], [97, 98, 105, 62, 97, 98], [97, 98, 105, 60, 97, 98], [97, 98, 105, 60, 97, 98], [97, 98, 105, 60, 97, 98], [97, 98, 105, 60, 97, 98], [105], [97, 105, 62, 97], [98, 60, 98], [105], [105], [97, 105, 62, 97], [98, 105, 60, 98], [45], [97, 62, 97], [98, 60, 98], [45], [45]]
def kindsL : List (List UInt8) := [[], [97, 105], [97, 98, 99], [97, 98, 99], [97, 98, 99], [97, 98, 99], [97, 98, 99], [97, 98, 105], [97, 98, 105], [97, 98, 105], [97, 98, 105], [97, 98, 105], [97, 98, 105], [97, 98, 105], [105], [97, 105], [98], [105], [105], [97, 105], [98, 105], [45], [97], [98], [45], [45]]
def mnemText : List UInt8 := [32, 109, 111, 118, 105, 32, 97, 100, 100, 32, 115, 117, 98, 32, 97, 110, 100, 32, 120, 111, 114, 32, 115, 104, 108, 32, 108, 100, 114, 32, 115, 116, 114, 32, 108, 100, 114, 98, 32, 115, 116, 114, 98, 32, 98, 101, 113, 32, 98, 110, 101, 32, 98, 108, 116, 32, 106, 109, 112, 32, 106, 97, 108, 32, 106, 114, 32, 104, 118, 99, 32, 115, 118, 99, 32, 109, 114, 115, 32, 109, 115, 114, 32, 119, 102, 105, 32, 105, 97, 114, 32, 101, 111, 105, 32, 116, 108, 98, 105, 32, 110, 111, 112]
def formText : List UInt8 := [32, 97, 105, 62, 97, 32, 97, 98, 99, 62, 97, 98, 99, 32, 97, 98, 99, 62, 97, 98, 99, 32, 97, 98, 99, 62, 97, 98, 99, 32, 97, 98, 99, 62, 97, 98, 99, 32, 97, 98, 99, 62, 97, 98, 99, 32, 97, 98, 105, 62, 97, 98, 32, 97, 98, 105, 60, 97, 98, 32, 97, 98, 105, 62, 97, 98, 32, 97, 98, 105, 60, 97, 98, 32, 97, 98, 105, 60, 97, 98, 32, 97, 98, 105, 60, 97, 98, 32, 97, 98, 105, 60, 97, 98, 32, 105, 32, 97, 105, 62, 97, 32, 98, 60, 98, 32, 105, 32, 105, 32, 97, 105, 62, 97, 32, 98, 105, 60, 98, 32, 45, 32, 97, 62, 97, 32, 98, 60, 98, 32, 45, 32, 45]
end Am
end Go.Proofs.YtgppllppddaodaaGreatDoor

/-
  The pure model of package asm: tokens, the reader, lines.
-/
namespace Go.Proofs.YtgppllppddaodaaGreatDoor
namespace Am

/-- An operation's mnemonic. -/
def mnem (op : Int) : List UInt8 := if 1 ≤ op ∧ op ≤ 25 then mnems.getD op.toNat [] else []
def opFrom : List (List UInt8) → Int → List UInt8 → Int
  | [], _, _ => 0
  | m :: ms, k, l => if m = l then k else opFrom ms (k + 1) l
/-- A mnemonic's operation; 0: it is none. -/
def opOf (l : List UInt8) : Int := opFrom (mnems.drop 1) 1 l
def kind (op : Int) : List UInt8 := if 1 ≤ op ∧ op ≤ 25 then kindsL.getD op.toNat [] else []
def wordL : List UInt8 := [119, 111, 114, 100]
/-- What may be no label and no value's name. -/
def isMn (l : List UInt8) : Bool := decide (0 < opOf l) || decide (l = wordL)

inductive Tok where
  | sign (r : Int)
  | num (n : Nat)
  | reg (n : Nat)
  | name (l : List UInt8)
  deriving DecidableEq

structure Ins where
  op : Int
  a : Int
  b : Int
  c : Int
  imm : Int
  deriving DecidableEq

/-- The reader. -/
structure Rd where
  ts : List Tok
  syn : Bool
  rng : Bool

def Rd.next (r : Rd) : Option Tok × Rd := match r.ts with
  | [] => (none, { r with syn := true })
  | t :: l => (some t, { r with ts := l })
def Rd.sign (r : Rd) (c : Int) : Rd := match r.ts with
  | [] => { r with syn := true }
  | .sign d :: l => { r with ts := l, syn := r.syn || decide (d ≠ c) }
  | _ :: l => { r with ts := l, syn := true }
def Rd.reg (r : Rd) : Int × Rd := match r.ts with
  | [] => (0, { r with syn := true })
  | .reg n :: l => if n ≥ 16 then (0, { r with ts := l, rng := true }) else (n, { r with ts := l })
  | _ :: l => (0, { r with ts := l, syn := true })
/-- A value: its number, or its name. -/
def Rd.value (r : Rd) : (Int × List UInt8) × Rd := match r.ts with
  | [] => ((0, []), { r with syn := true })
  | .num n :: l => if n ≥ 65536 then ((0, []), { r with ts := l, rng := true }) else ((n, []), { r with ts := l })
  | .name s :: l => ((0, s), { r with ts := l, syn := r.syn || isMn s })
  | _ :: l => ((0, []), { r with ts := l, syn := true })

/-- Operands, as the loop over a form goes: k: the place; f: the letter. -/
structure Opn where
  r : Rd
  i : Ins
  v : Int × List UInt8
def isMem (op : Int) : Bool := decide (7 ≤ op) && decide (op ≤ 10)
def sepOf (op : Int) (k : Nat) (f : UInt8) (r : Rd) : Rd :=
  let r1 := if k > 0 then r.sign (if isMem op && decide (f.toNat = 105) then 43 else 44) else r
  if isMem op && decide (f.toNat = 98) then r1.sign 91 else r1
def letter (f : UInt8) (s : Opn) : Opn :=
  if f.toNat = 97 then { s with i := { s.i with a := s.r.reg.1 }, r := s.r.reg.2 }
  else if f.toNat = 98 then { s with i := { s.i with b := s.r.reg.1 }, r := s.r.reg.2 }
  else if f.toNat = 99 then { s with i := { s.i with c := s.r.reg.1 }, r := s.r.reg.2 }
  else if f.toNat = 105 then { s with v := s.r.value.1, r := s.r.value.2 }
  else s
def opStep (op : Int) (k : Nat) (f : UInt8) (s : Opn) : Opn := letter f { s with r := sepOf op k f s.r }
def opGo (op : Int) : Nat → List UInt8 → Opn → Opn
  | _, [], s => s
  | k, f :: l, s => opGo op (k + 1) l (opStep op k f s)
def operands (r : Rd) (op : Int) : Opn :=
  let s := opGo op 0 (kind op) { r := r, i := ⟨op, 0, 0, 0, 0⟩, v := (0, []) }
  if isMem op then { s with r := s.r.sign 93 } else s

/-- What a line says. -/
structure Item where
  line : Int
  i : Ins
  v : Int × List UInt8
  plain : Bool
  w : Int
  deriving DecidableEq

/-- A line: its label, its item, and the reader behind it. -/
def lineLabel (r : Rd) : List UInt8 × Rd := match r.ts with
  | .name l :: .sign c :: ts => if c = 58 then (l, { r with ts := ts, syn := isMn l }) else ([], r)
  | _ => ([], r)
def lineItem (n : Int) (r : Rd) : Item × Rd ⊕ Rd :=
  match r.next with
  | (t, r1) =>
    let word := match t with | some (.name l) => l | _ => []
    if word = wordL then
      match r1.next with
      | (some (.num m), r2) => .inl (⟨n, ⟨0, 0, 0, 0, 0⟩, (0, []), true, ((m % 4294967296 : Nat) : Int)⟩, { r2 with rng := decide (m ≥ 4294967296) })
      | (_, r2) => .inl (⟨n, ⟨0, 0, 0, 0, 0⟩, (0, []), true, 0⟩, { r2 with syn := true, rng := false })
    else if 0 < opOf word then
      let s := operands r1 (opOf word)
      .inl (⟨n, s.i, s.v, false, 0⟩, s.r)
    else .inr { r1 with syn := true }
def left (r : Rd) : Rd := { r with syn := r.syn || !r.ts.isEmpty }
def line (r : Rd) (n : Int) : List UInt8 × Option Item × Rd :=
  let (label, r1) := lineLabel r
  if r1.ts.isEmpty then (label, none, r1)
  else match lineItem n r1 with
    | .inl (it, r2) => (label, some it, left r2)
    | .inr r2 => (label, none, left r2)

end Am
end Go.Proofs.YtgppllppddaodaaGreatDoor

/-
  The pure model of package isa: which instructions are right, their words.
-/
namespace Go.Proofs.YtgppllppddaodaaGreatDoor
namespace Am
open Go
def rstep (i : Ins) (s : Bool × Ins) (f : UInt8) : Bool × Ins :=
  if f.toNat = 97 then (s.1 && decide (0 ≤ i.a ∧ i.a < 16), { s.2 with a := 0 })
  else if f.toNat = 98 then (s.1 && decide (0 ≤ i.b ∧ i.b < 16), { s.2 with b := 0 })
  else if f.toNat = 99 then (s.1 && decide (0 ≤ i.c ∧ i.c < 16), { s.2 with c := 0 })
  else if f.toNat = 105 then (s.1 && decide (0 ≤ i.imm ∧ i.imm < 65536), { s.2 with imm := 0 })
  else s
def rstate (i : Ins) (p : Nat) : Bool × Ins := ((kind i.op).take p).foldl (rstep i) (decide (kind i.op ≠ []), { i with op := 0 })
/-- Is it an instruction? -/
def right (i : Ins) : Bool := (rstate i (kind i.op).length).1 && decide ((rstate i (kind i.op).length).2 = ⟨0, 0, 0, 0, 0⟩)
theorem rstate_succ (i : Ins) {p : Nat} {c : UInt8} (h : (kind i.op)[p]? = some c) : rstate i (p + 1) = rstep i (rstate i p) c := by
  unfold rstate
  have hlt : p < (kind i.op).length := by
    rcases Nat.lt_or_ge p (kind i.op).length with h' | h'
    · exact h'
    · simp [List.getElem?_eq_none h'] at h
  rw [List.getElem?_eq_getElem hlt] at h
  rw [List.take_succ_eq_append_getElem hlt, List.foldl_append, Option.some.inj h]
  rfl
theorem kinds_few : ∀ n, n < 26 → 1 ≤ n → kindsL.getD n [] ∈ ([[97, 105], [97, 98, 99], [97, 98, 105], [105], [98], [98, 105], [97], [45]] : List (List UInt8)) := by decide
/-- rightness by the form alone. -/
def rightK (k : List UInt8) (i : Ins) : Bool := let s := k.foldl (rstep i) (decide (k ≠ []), { i with op := 0 }); s.1 && decide (s.2 = ⟨0, 0, 0, 0, 0⟩)
theorem right_eq (i : Ins) : right i = rightK (kind i.op) i := by
  simp only [right, rightK, rstate, List.take_length]
theorem rightK_bounds {k : List UInt8} {i : Ins} (hk : k ∈ ([[97, 105], [97, 98, 99], [97, 98, 105], [105], [98], [98, 105], [97], [45]] : List (List UInt8))) (h : rightK k i = true) :
    0 ≤ i.a ∧ i.a < 16 ∧ 0 ≤ i.b ∧ i.b < 16 ∧ 0 ≤ i.c ∧ i.c < 16 ∧ 0 ≤ i.imm ∧ i.imm < 65536 ∧ (i.c = 0 ∨ i.imm = 0) := by
  simp only [List.mem_cons, List.not_mem_nil, or_false] at hk
  rcases hk with rfl | rfl | rfl | rfl | rfl | rfl | rfl | rfl <;> simp [rightK, rstep] at h <;> omega
theorem kind_empty {op : Int} (h : ¬ (1 ≤ op ∧ op ≤ 25)) : kind op = [] := by simp only [kind]; rw [if_neg h]
theorem right_bounds {i : Ins} (h : right i = true) : 1 ≤ i.op ∧ i.op ≤ 25 ∧ 0 ≤ i.a ∧ i.a < 16 ∧ 0 ≤ i.b ∧ i.b < 16 ∧ 0 ≤ i.c ∧ i.c < 16 ∧ 0 ≤ i.imm ∧ i.imm < 65536 ∧ (i.c = 0 ∨ i.imm = 0) := by
  rw [right_eq] at h
  by_cases hop : 1 ≤ i.op ∧ i.op ≤ 25
  · refine ⟨hop.1, hop.2, rightK_bounds (k := kind i.op) ?_ h⟩
    simp only [kind]; rw [if_pos hop]
    exact kinds_few i.op.toNat (by omega) (by omega)
  · rw [kind_empty hop] at h; simp [rightK] at h
/-- The word of an instruction. -/
def wordOf (i : Ins) : Int := i.op * 16777216 + i.a * 1048576 + i.b * 65536 + (i.c + i.imm)
def encode (i : Ins) : Int × Int := if right i then (wordOf i, 0) else (0, 50)
def hasC (op : Int) : Bool := decide (0 ≤ Lib.indexByte (kind op) 99)
def decodeW (w : Int) : Ins := if hasC (w / 16777216) then ⟨w / 16777216, w / 1048576 % 16, w / 65536 % 16, w % 65536, 0⟩ else ⟨w / 16777216, w / 1048576 % 16, w / 65536 % 16, 0, w % 65536⟩
def decode (w : Int) : Ins × Int := if right (decodeW w) then (decodeW w, 0) else (⟨0, 0, 0, 0, 0⟩, 50)

theorem lor_disjoint (a b k : Nat) (hb : b < 2 ^ k) (ha : a % 2 ^ k = 0) : a ||| b = a + b := by
  obtain ⟨q, rfl⟩ : ∃ q, a = q * 2 ^ k := ⟨a / 2 ^ k, by have := Nat.div_add_mod a (2 ^ k); rw [ha, Nat.add_zero, Nat.mul_comm] at this; exact this.symm⟩
  rw [← Nat.shiftLeft_eq, Nat.shiftLeft_add_eq_or_of_lt hb]
theorem or_add {a b : Int} (k : Nat) (ha : 0 ≤ a) (hb : 0 ≤ b) (hbk : b.toNat < 2 ^ k) (hdv : a.toNat % 2 ^ k = 0) (hs : a + b < 9223372036854775808) : IntKind.i64.wrap ((BitVec.ofInt 64 a ||| BitVec.ofInt 64 b).toNat : Int) = a + b := by
  obtain ⟨m, rfl⟩ : ∃ m : Nat, a = m := ⟨a.toNat, by omega⟩
  obtain ⟨n, rfl⟩ : ∃ n : Nat, b = n := ⟨b.toNat, by omega⟩
  simp only [Int.toNat_natCast] at hbk hdv
  have h1 : (BitVec.ofInt 64 (m : Int)).toNat = m := by simp; omega
  have h2 : (BitVec.ofInt 64 (n : Int)).toNat = n := by simp; omega
  rw [BitVec.toNat_or, h1, h2, lor_disjoint m n k hbk hdv]
  simp only [IntKind.wrap, IntKind.bits, IntKind.signed]
  simp; omega
theorem and_mask {a : Int} (k : Nat) (ha : 0 ≤ a) (h32 : a < 4294967296) (hk : k ≤ 32) : IntKind.u32.wrap ((BitVec.ofInt 32 a &&& BitVec.ofInt 32 ((2 ^ k - 1 : Nat) : Int)).toNat : Int) = a % (2 ^ k : Nat) := by
  obtain ⟨m, rfl⟩ : ∃ m : Nat, a = m := ⟨a.toNat, by omega⟩
  have hp : 2 ^ k ≤ 2 ^ 32 := Nat.pow_le_pow_right (by omega) hk
  have hpos : 0 < 2 ^ k := Nat.two_pow_pos k
  have h1 : (BitVec.ofInt 32 (m : Int)).toNat = m := by simp; omega
  have h2 : (BitVec.ofInt 32 ((2 ^ k - 1 : Nat) : Int)).toNat = 2 ^ k - 1 := by
    simp only [BitVec.toNat_ofInt]; omega
  rw [BitVec.toNat_and, h1, h2, Nat.and_two_pow_sub_one_eq_mod]
  have hlt := Nat.mod_lt m hpos
  rw [← Int.natCast_emod]
  generalize m % 2 ^ k = r at hlt
  have hr : r < 4294967296 := by have : (2 : Nat) ^ 32 = 4294967296 := by decide
                                 omega
  simp only [IntKind.wrap, IntKind.bits, IntKind.signed]
  simp
  omega
end Am
end Go.Proofs.YtgppllppddaodaaGreatDoor

/-
  The pure model of package asm: words, a line's tokens.
-/
namespace Go.Proofs.YtgppllppddaodaaGreatDoor
namespace Am
open Go

def isWordB (r : Int) : Bool := (decide (97 ≤ r) && decide (r ≤ 122)) || (decide (48 ≤ r) && decide (r ≤ 57)) || decide (r = 95)
def isW (c : UInt8) : Bool := isWordB c.toNat
def isDig (c : UInt8) : Bool := decide (48 ≤ c.toNat) && decide (c.toNat ≤ 57)
def isHex (c : UInt8) : Bool := isDig c || (decide (97 ≤ c.toNat) && decide (c.toNat ≤ 102))
def digL : List UInt8 := [48, 49, 50, 51, 52, 53, 54, 55, 56, 57]
def hexL : List UInt8 := [48, 49, 50, 51, 52, 53, 54, 55, 56, 57, 97, 98, 99, 100, 101, 102]
/-- digits of a base, without noughts ahead. -/
def digitsB (s : List UInt8) : Bool := s.all isDig && decide (s ≠ []) && (decide (s = [48]) || decide (s.head? ≠ some 48))
def big10 (s : List UInt8) : Nat := match Lib.parseUintB 64 s with
  | .ok u => u
  | _ => 18446744073709551615
def hexD (c : UInt8) : Nat := if c.toNat ≤ 57 then c.toNat - 48 else c.toNat - 87
def hexV (s : List UInt8) : Nat := s.foldl (fun a c => a * 16 + hexD c) 0
def hexOk (h : List UInt8) : Bool := decide (h ≠ []) && decide (h.length ≤ 8) && h.all isHex
/-- A word's kind: 0: a number of base 16, 1: a number, 2: a register, 3: a name. -/
def wordKind (s : List UInt8) : Nat :=
  if Lib.hasPrefix s [48, 120] then 0
  else if (s.head?.map isDig).getD false then 1
  else if s.head? = some 114 ∧ 1 < s.length ∧ (s.drop 1).all isDig then 2
  else 3
def wordOk (s : List UInt8) : Bool := match wordKind s with
  | 0 => hexOk (s.drop 2)
  | 1 => digitsB s
  | 2 => digitsB (s.drop 1)
  | _ => decide (s.length ≤ 12)
def wordTok (s : List UInt8) : Tok := match wordKind s with
  | 0 => .num (hexV (s.drop 2))
  | 1 => .num (big10 s)
  | 2 => .reg (big10 (s.drop 1))
  | _ => .name s
/-- A word's end. -/
def endW (cur : List UInt8) (acc : List Tok) : Option (List Tok) := if cur = [] then some acc else if wordOk cur then some (acc ++ [wordTok cur]) else none
def signL : List UInt8 := [58, 44, 91, 93, 43]
def isSign (c : UInt8) : Bool := signL.contains c
/-- A line without its remark; cur: the word that goes on; acc: the tokens behind. -/
def scanGo : List UInt8 → List UInt8 → List Tok → Option (List Tok)
  | [], cur, acc => endW cur acc
  | c :: l, cur, acc =>
    if isW c then scanGo l (cur ++ [c]) acc
    else match endW cur acc with
      | none => none
      | some acc' => if isSign c then scanGo l [] (acc' ++ [.sign c.toNat]) else if c.toNat = 32 then scanGo l [] acc' else none
def cutR (s : List UInt8) : List UInt8 := s.takeWhile (fun c => decide (c ≠ 59))
def scan (s : List UInt8) : Option (List Tok) := scanGo (cutR s) [] []

theorem dropWhile_nil {α : Type} {p : α → Bool} : ∀ {l : List α}, l.dropWhile p = [] ↔ l.all p = true
  | [] => by simp
  | c :: l => by
    rw [List.dropWhile_cons]
    cases h : p c
    · simp [h]
    · simp [h, dropWhile_nil (l := l)]
theorem trimS_nil (s cs : List UInt8) : Lib.trimS s cs = [] ↔ s.all (cs.contains ·) = true := by
  unfold Lib.trimS Lib.trimLeftS Lib.trimRightS
  constructor
  · intro h
    rw [dropWhile_nil, List.all_reverse] at h
    have : (s.reverse.dropWhile (cs.contains ·)) = [] := by
      cases hd : s.reverse.dropWhile (cs.contains ·) with
      | nil => rfl
      | cons c l =>
        have hc := List.head_dropWhile_not (p := (cs.contains ·)) (l := s.reverse) (by rw [hd]; simp)
        simp only [hd, List.head_cons] at hc
        have h2 : cs.contains c = true := by
          rw [hd, List.all_cons, Bool.and_eq_true] at h
          exact h.1
        rw [h2] at hc; cases hc
    rw [dropWhile_nil, List.all_reverse] at this
    exact this
  · intro h
    have : s.reverse.dropWhile (cs.contains ·) = [] := by rw [dropWhile_nil, List.all_reverse]; exact h
    rw [this]; rfl
theorem byte_eq (c : UInt8) (n : Nat) (h : n < 256) : (c == UInt8.ofNat n) = decide (c.toNat = n) := by
  rw [Bool.eq_iff_iff]
  simp only [beq_iff_eq, decide_eq_true_eq]
  constructor
  · rintro rfl; simp; omega
  · intro hc; apply UInt8.toNat.inj; simp; omega
set_option maxRecDepth 100000 in
theorem dig_contains (c : UInt8) : digL.contains c = isDig c := by
  have : ∀ n, n < 256 → digL.contains (UInt8.ofNat n) = isDig (UInt8.ofNat n) := by decide
  have h := this c.toNat c.toNat_lt
  rwa [UInt8.ofNat_toNat] at h
set_option maxRecDepth 100000 in
theorem hex_contains (c : UInt8) : hexL.contains c = isHex c := by
  have : ∀ n, n < 256 → hexL.contains (UInt8.ofNat n) = isHex (UInt8.ofNat n) := by decide
  have h := this c.toNat c.toNat_lt
  rwa [UInt8.ofNat_toNat] at h
theorem trim_dig (s : List UInt8) : Lib.trimS s digL = [] ↔ s.all isDig = true := by
  rw [trimS_nil]; simp only [dig_contains]
theorem trim_hex (s : List UInt8) : Lib.trimS s hexL = [] ↔ s.all isHex = true := by
  rw [trimS_nil]; simp only [hex_contains]
set_option maxRecDepth 100000 in
theorem sign_index (c : UInt8) : 0 ≤ Lib.indexByte signL c ↔ isSign c = true := by
  have : ∀ n, n < 256 → (0 ≤ Lib.indexByte signL (UInt8.ofNat n) ↔ isSign (UInt8.ofNat n) = true) := by decide
  have h := this c.toNat c.toNat_lt
  rwa [UInt8.ofNat_toNat] at h
theorem big10_lt (s : List UInt8) : big10 s < 18446744073709551616 := by
  unfold big10
  split
  · rename_i u h
    have := Lib.parseUintB_le h
    omega
  · omega
end Am
end Go.Proofs.YtgppllppddaodaaGreatDoor

/-
  Cutting a text at one byte, in plain words.
-/
namespace Go.Proofs.YtgppllppddaodaaGreatDoor
namespace Am
open Go

/-- A text cut at each byte c. -/
def splitC (c : UInt8) : List UInt8 → List (List UInt8)
  | [] => [[]]
  | x :: l => if x = c then [] :: splitC c l else
    match splitC c l with
    | h :: t => (x :: h) :: t
    | [] => [[x]]

theorem splitC_ne (c : UInt8) : ∀ l, splitC c l ≠ []
  | [] => by simp [splitC]
  | x :: l => by
    unfold splitC
    split
    · simp
    · split <;> simp

theorem splitC_hit (c : UInt8) (l : List UInt8) : splitC c (c :: l) = [] :: splitC c l := by
  rw [splitC, if_pos rfl]
theorem splitC_miss {c x : UInt8} (h : ¬ x = c) (l hd : List UInt8) (tl : List (List UInt8)) (hs : splitC c l = hd :: tl) : splitC c (x :: l) = (x :: hd) :: tl := by
  rw [splitC, if_neg h, hs]

theorem index_one (c : UInt8) : ∀ l : List UInt8, (Lib.index l [c] = -1 ∧ splitC c l = [l]) ∨ ∃ i : Nat, Lib.index l [c] = i ∧ i < l.length ∧ splitC c l = l.take i :: splitC c (l.drop (i + 1))
  | [] => by left; simp [Lib.index, splitC]
  | x :: l => by
    have ih := index_one c l
    by_cases hx : x = c
    · subst hx
      right
      exact ⟨0, by simp [Lib.index], by simp, by rw [splitC_hit]; simp⟩
    · have hp : List.isPrefixOf [c] (x :: l) = false := by simp [List.isPrefixOf]; exact fun h => hx h.symm
      rcases ih with ⟨h1, h2⟩ | ⟨i, h1, h2, h3⟩
      · left
        refine ⟨by rw [Lib.index]; simp [hp, h1], ?_⟩
        rw [splitC_miss hx l _ _ h2]
      · right
        refine ⟨i + 1, ?_, by simp; omega, ?_⟩
        · have : ¬ ((i : Int) == -1) = true := by simp
          rw [Lib.index, hp, h1]; simp
        · rw [splitC_miss hx l _ _ h3]; simp

theorem splitK_splitC (c : UInt8) : ∀ (k : Nat) (l : List UInt8), (splitC c l).length ≤ k + 1 → Lib.splitK [c] 0 k l = splitC c l
  | 0, l, h => by
    rcases index_one c l with ⟨_, h2⟩ | ⟨i, _, h2, h3⟩
    · rw [h2]; rfl
    · rw [h3] at h
      have := List.length_pos_iff.2 (splitC_ne c (l.drop (i + 1)))
      simp only [List.length_cons] at h
      omega
  | k + 1, l, h => by
    rw [Lib.splitK]
    rcases index_one c l with ⟨h1, h2⟩ | ⟨i, h1, h2, h3⟩
    · rw [h1, h2]; simp
    · have hn : ¬ ((i : Int) == -1) = true := by simp
      rw [h1, if_neg hn, h3]
      have := splitK_splitC c k (l.drop (i + 1)) (by rw [h3] at h; simp only [List.length_cons] at h; omega)
      simp [this]

theorem splitC_length (c : UInt8) : ∀ l : List UInt8, (splitC c l).length = l.count c + 1
  | [] => rfl
  | x :: l => by
    have ih := splitC_length c l
    by_cases hx : x = c
    · subst hx; rw [splitC_hit]; simp [ih]
    · obtain ⟨hd, tl, hs⟩ := List.exists_cons_of_ne_nil (splitC_ne c l)
      rw [splitC_miss hx l _ _ hs]
      rw [hs] at ih
      simp only [List.length_cons] at ih ⊢
      rw [List.count_cons_of_ne hx]
      exact ih

end Am
end Go.Proofs.YtgppllppddaodaaGreatDoor

/-
  The pure model of package asm: a program's lines, its words.
-/
namespace Go.Proofs.YtgppllppddaodaaGreatDoor
namespace Am

/-- What lines say. -/
structure Pg where
  items : List Item
  labels : List (List UInt8 × Nat)
  double : Nat
def mget (l : List (List UInt8 × Nat)) (k : List UInt8) : Option Nat := (l.find? fun p => decide (k = p.1)).map (·.2)
/-- A line's label. -/
def addLabel (p : Pg) (label : List UInt8) (n : Nat) : Pg :=
  if label = [] then p
  else if (mget p.labels label).isSome then (if p.double = 0 then { p with double := n } else p)
  else { p with labels := p.labels ++ [(label, p.items.length)] }
def addItem (p : Pg) (it : Option Item) : Pg := match it with
  | none => p
  | some i => { p with items := p.items ++ [i] }
/-- The lines behind the k-th; an error: its line, its number. -/
def readGo : Nat → List (List UInt8) → Pg → Pg ⊕ (Nat × Int)
  | _, [], p => .inl p
  | k, s :: ls, p => match scan s with
    | none => .inr (k + 1, 60)
    | some ts =>
      let r := line ⟨ts, false, false⟩ ((k + 1 : Nat) : Int)
      if r.2.2.syn then .inr (k + 1, 61)
      else if r.2.2.rng then .inr (k + 1, 63)
      else readGo (k + 1) ls (addItem (addLabel p r.1 (k + 1)) r.2.1)
def read (src : List UInt8) : Pg ⊕ (Nat × Int) := readGo 0 (splitC 10 src) ⟨[], [], 0⟩
/-- An item's word. -/
def itemWord (base : Int) (p : Pg) (it : Item) : Option Int :=
  if it.plain then some it.w
  else if it.v.2 = [] then some (encode { it.i with imm := it.v.1 }).1
  else match mget p.labels it.v.2 with
    | none => none
    | some at' => if base + 4 * at' ≥ 65536 then none else some (encode { it.i with imm := base + 4 * at' }).1
/-- All items' words; an error: its line. -/
def wordsGo (base : Int) (p : Pg) : List Item → List Int → List Int ⊕ Int
  | [], ws => .inl ws
  | it :: l, ws => match itemWord base p it with
    | none => .inr it.line
    | some w => wordsGo base p l (ws ++ [w])
/-- Assemble: words, a line, an error. -/
def assemble (base : Int) (src : List UInt8) : List Int × Int × Int :=
  if base < 0 ∨ base ≥ 65536 then ([], 0, 1)
  else if src.length > 4000 then ([], 0, 2)
  else match read src with
    | .inr (n, e) => ([], n, e)
    | .inl p => if p.double > 0 then ([], p.double, 62) else match wordsGo base p p.items [] with
      | .inr n => ([], n, 62)
      | .inl ws => (ws, 0, 0)
end Am
end Go.Proofs.YtgppllppddaodaaGreatDoor

/-
  The pure model of package asm: what is printed.
-/
namespace Go.Proofs.YtgppllppddaodaaGreatDoor
namespace Am
open Go
/-- What one letter of a form prints. -/
def opText (i : Ins) (f : UInt8) : Option (List UInt8) :=
  if f.toNat = 97 then some ([114] ++ Lib.itoa i.a)
  else if f.toNat = 98 then some ([114] ++ Lib.itoa i.b)
  else if f.toNat = 99 then some ([114] ++ Lib.itoa i.c)
  else if f.toNat = 105 then some (Lib.itoa i.imm)
  else none
def opTexts (i : Ins) : List (List UInt8) := (kind i.op).filterMap (opText i)
/-- A line of an instruction. -/
def lineText (i : Ins) : List UInt8 :=
  if opTexts i = [] then mnem i.op
  else if isMem i.op then mnem i.op ++ [32] ++ (opTexts i).getD 0 [] ++ [44, 32, 91] ++ (opTexts i).getD 1 [] ++ [32, 43, 32] ++ (opTexts i).getD 2 [] ++ [93]
  else mnem i.op ++ [32] ++ Lib.join (opTexts i) [44, 32]
theorem kind_len (op : Int) : (kind op).length ≤ 4 := by
  simp only [kind]
  split
  · rename_i h
    have key : ∀ n, n < 26 → (kindsL.getD n []).length ≤ 4 := by decide
    exact key op.toNat (by omega)
  · simp
theorem mnem_len (op : Int) : (mnem op).length ≤ 8 := by
  simp only [mnem]
  split
  · rename_i h
    have key : ∀ n, n < 26 → (mnems.getD n []).length ≤ 8 := by decide
    exact key op.toNat (by omega)
  · simp
/-- An instruction's numbers are ints. -/
def Small (i : Ins) : Prop := 0 ≤ i.a ∧ i.a < 65536 ∧ 0 ≤ i.b ∧ i.b < 65536 ∧ 0 ≤ i.c ∧ i.c < 65536 ∧ 0 ≤ i.imm ∧ i.imm < 65536
theorem opText_len {i : Ins} {f : UInt8} {x : List UInt8} (hs : Small i) (h : opText i f = some x) : x.length ≤ 22 := by
  obtain ⟨h1, h2, h3, h4, h5, h6, h7, h8⟩ := hs
  unfold opText at h
  have ha := Lib.itoa_length_le i.a (by omega) (by omega)
  have hb := Lib.itoa_length_le i.b (by omega) (by omega)
  have hc := Lib.itoa_length_le i.c (by omega) (by omega)
  have hi := Lib.itoa_length_le i.imm (by omega) (by omega)
  split at h
  · cases h; simp only [List.length_append, List.length_cons, List.length_nil]; omega
  · split at h
    · cases h; simp only [List.length_append, List.length_cons, List.length_nil]; omega
    · split at h
      · cases h; simp only [List.length_append, List.length_cons, List.length_nil]; omega
      · split at h
        · cases h; omega
        · cases h
theorem opTexts_len {i : Ins} (hs : Small i) : ∀ x ∈ opTexts i, x.length ≤ 22 := by
  intro x hx
  simp only [opTexts, List.mem_filterMap] at hx
  obtain ⟨f, _, hf⟩ := hx
  exact opText_len hs hf
theorem opTexts_count (i : Ins) : (opTexts i).length ≤ 4 := Nat.le_trans (List.length_filterMap_le _ _) (kind_len i.op)
theorem join_len {m : Nat} {sep : List UInt8} : ∀ xs : List (List UInt8), (∀ x ∈ xs, x.length ≤ m) → (Lib.join xs sep).length ≤ xs.length * (m + sep.length)
  | [], _ => by simp [Lib.join_nil]
  | [x], h => by
    have := h x (.head _)
    simp [Lib.join, List.intercalate]; omega
  | x :: y :: l, h => by
    have ih := join_len (m := m) (sep := sep) (y :: l) (fun z hz => h z (.tail _ hz))
    have hx := h x (.head _)
    have e : Lib.join (x :: y :: l) sep = x ++ sep ++ Lib.join (y :: l) sep := by simp [Lib.join, List.intercalate, List.intersperse]
    rw [e]
    simp only [List.length_append, List.length_cons] at ih ⊢
    have : (l.length + 1 + 1) * (m + sep.length) = (l.length + 1) * (m + sep.length) + (m + sep.length) := Nat.succ_mul _ _
    omega
theorem mem_kind {op : Int} (h : isMem op = true) : kind op = [97, 98, 105] := by
  simp only [isMem, Bool.and_eq_true, decide_eq_true_eq] at h
  have key : ∀ n, n < 26 → 7 ≤ n → n ≤ 10 → kindsL.getD n [] = [97, 98, 105] := by decide
  simp only [kind]
  rw [if_pos (by omega)]
  exact key op.toNat (by omega) (by omega) (by omega)
theorem mem_texts {i : Ins} (h : isMem i.op = true) : opTexts i = [[114] ++ Lib.itoa i.a, [114] ++ Lib.itoa i.b, Lib.itoa i.imm] := by
  simp only [opTexts, mem_kind h]; simp [opText]
/-- A word's line. -/
def hexDig (n : Nat) : UInt8 := if n < 10 then UInt8.ofNat (48 + n) else UInt8.ofNat (87 + n)
def hexText (n : Nat) : List UInt8 := if _h : n < 16 then [hexDig n] else hexText (n / 16) ++ [hexDig (n % 16)]
termination_by n
decreasing_by omega
def wordText (w : Nat) : List UInt8 :=
  if (decode w).2 = 0 then lineText (decode w).1 ++ [10]
  else [119, 111, 114, 100, 32, 48, 120] ++ List.replicate (8 - (hexText w).length) 48 ++ hexText w ++ [10]
def printT (ws : List Nat) : List UInt8 := (ws.map wordText).flatten
end Am
end Go.Proofs.YtgppllppddaodaaGreatDoor

/-
  Numerals are words: what a decimal, a register, a mnemonic is to the scanner.
-/
namespace Go.Proofs.YtgppllppddaodaaGreatDoor
namespace Am
open Go
theorem parse_snoc (M : Nat) (c : UInt8) : ∀ (l : List UInt8) (acc a : Nat), Lib.parseUintM M acc l = .ok a → Lib.parseUintM M acc (l ++ [c]) = Lib.parseUintM M a [c]
  | [], acc, a, h => by
    simp only [Lib.parseUintM] at h
    cases h; rfl
  | d :: l, acc, a, h => by
    rw [List.cons_append]
    rw [Lib.parseUintM] at h ⊢
    split at h
    · rename_i h1
      rw [if_pos h1]
      split at h
      · cases h
      · rename_i h2
        rw [if_neg h2]
        split at h
        · cases h
        · rename_i h3
          rw [if_neg h3]
          exact parse_snoc M c l _ a h
    · cases h
theorem dig_toNat {u : Nat} (h : u < 10) : (UInt8.ofNat (48 + u)).toNat = 48 + u := by simp; omega
theorem parse_one {M a u : Nat} (hu : u < 10) (ha : a < 1844674407370955162) (hM : a * 10 + u ≤ M) : Lib.parseUintM M a [UInt8.ofNat (48 + u)] = .ok (a * 10 + u) := by
  have hd := dig_toNat hu
  rw [Lib.parseUintM, hd, if_pos ⟨by omega, by omega⟩, if_neg (by omega), if_neg (by omega), Lib.parseUintM]
  congr 1; omega
theorem dec_small {u : Nat} (h : u < 10) : Lib.decDigits u = [UInt8.ofNat (48 + u)] := by rw [Lib.decDigits, dif_pos h]
theorem dec_big {u : Nat} (h : 10 ≤ u) : Lib.decDigits u = Lib.decDigits (u / 10) ++ [UInt8.ofNat (48 + u % 10)] := by rw [Lib.decDigits, dif_neg (by omega)]
theorem parse_dec (u : Nat) : u < 4294967296 → Lib.parseUintM 18446744073709551615 0 (Lib.decDigits u) = .ok u := by
  induction u using Nat.strongRecOn with
  | ind u ih =>
    intro h
    rcases Nat.lt_or_ge u 10 with h1 | h1
    · rw [dec_small h1, parse_one h1 (by omega) (by omega)]; simp
    · rw [dec_big h1, parse_snoc _ _ _ _ _ (ih (u / 10) (by omega) (by omega)), parse_one (by omega) (by omega) (by omega)]
      congr 1; omega
theorem dec_ne (u : Nat) : Lib.decDigits u ≠ [] := by
  rcases Nat.lt_or_ge u 10 with h1 | h1
  · rw [dec_small h1]; simp
  · rw [dec_big h1]; simp
theorem big_dec {u : Nat} (h : u < 4294967296) : big10 (Lib.decDigits u) = u := by
  unfold big10 Lib.parseUintB
  rw [if_neg (dec_ne u)]
  have := parse_dec u h
  rw [show (2 ^ 64 - 1 : Nat) = 18446744073709551615 by decide, this]
theorem isDig_dig {u : Nat} (h : u < 10) : isDig (UInt8.ofNat (48 + u)) = true := by
  simp only [isDig, dig_toNat h, Bool.and_eq_true, decide_eq_true_eq]; omega
theorem dec_all (u : Nat) : (Lib.decDigits u).all isDig = true := by
  induction u using Nat.strongRecOn with
  | ind u ih =>
    rcases Nat.lt_or_ge u 10 with h1 | h1
    · rw [dec_small h1, List.all_cons, isDig_dig h1]; rfl
    · rw [dec_big h1, List.all_append, ih (u / 10) (by omega), List.all_cons, isDig_dig (show u % 10 < 10 by omega)]; rfl
theorem dec_head (u : Nat) : 1 ≤ u → (Lib.decDigits u).head? ≠ some 48 := by
  induction u using Nat.strongRecOn with
  | ind u ih =>
    intro h
    rcases Nat.lt_or_ge u 10 with h1 | h1
    · rw [dec_small h1]
      intro h2
      simp only [List.head?_cons, Option.some.injEq] at h2
      have := congrArg UInt8.toNat h2
      rw [dig_toNat h1] at this
      simp at this; omega
    · have hq := ih (u / 10) (by omega) (by omega)
      rw [dec_big h1]
      cases hd : Lib.decDigits (u / 10) with
      | nil => exact absurd hd (dec_ne _)
      | cons a l => rw [hd] at hq; exact hq
theorem digits_dec (u : Nat) : digitsB (Lib.decDigits u) = true := by
  simp only [digitsB, dec_all, Bool.true_and, Bool.and_eq_true, decide_eq_true_eq, Bool.or_eq_true]
  refine ⟨dec_ne u, ?_⟩
  by_cases h : u = 0
  · left; subst h; rw [dec_small (by omega)]; rfl
  · right; exact dec_head u (by omega)
theorem dec_len {k : Nat} : ∀ (u : Nat), u < 10 ^ (k + 1) → (Lib.decDigits u).length ≤ k + 1 := by
  induction k with
  | zero => intro u h; rw [dec_small (by omega)]; simp
  | succ k ih =>
    intro u h
    rcases Nat.lt_or_ge u 10 with h1 | h1
    · rw [dec_small h1]; simp
    · rw [dec_big h1, List.length_append, List.length_singleton]
      have := ih (u / 10) (by
        have e : 10 ^ (k + 1 + 1) = 10 ^ (k + 1) * 10 := Nat.pow_succ _ _
        omega)
      omega
theorem itoa_nat (u : Nat) : Lib.itoa (u : Int) = Lib.decDigits u := by rw [Lib.itoa, if_neg (by omega), Int.toNat_natCast]
end Am
end Go.Proofs.YtgppllppddaodaaGreatDoor

/-
  Scanning texts that are made of words, signs, blanks.
-/
namespace Go.Proofs.YtgppllppddaodaaGreatDoor
namespace Am
open Go
theorem scan_word (acc : List Tok) : ∀ (w l cur : List UInt8), w.all isW = true → scanGo (w ++ l) cur acc = scanGo l (cur ++ w) acc
  | [], l, cur, _ => by simp
  | c :: w, l, cur, h => by
    rw [List.all_cons, Bool.and_eq_true] at h
    rw [List.cons_append, scanGo, if_pos h.1, scan_word acc w l (cur ++ [c]) h.2]
    simp
/-- A word that is right. -/
def GoodW (w : List UInt8) : Prop := w ≠ [] ∧ w.all isW = true ∧ wordOk w = true
theorem endW_good {w : List UInt8} {acc : List Tok} (h : GoodW w) : endW w acc = some (acc ++ [wordTok w]) := by
  rw [endW, if_neg h.1, if_pos h.2.2]
theorem not_w_sign {c : UInt8} (h : isSign c = true) : isW c = false := by
  simp only [isSign, signL, List.contains_iff_mem, List.mem_cons, List.not_mem_nil, or_false] at h
  rcases h with h | h | h | h | h <;> subst h <;> decide
/-- a word, then a blank. -/
theorem scan_word_sp {w l : List UInt8} {acc : List Tok} (h : GoodW w) : scanGo (w ++ 32 :: l) [] acc = scanGo l [] (acc ++ [wordTok w]) := by
  rw [scan_word acc w _ [] h.2.1, List.nil_append, scanGo, if_neg (by decide), endW_good h]
  rfl
/-- a word, then a sign. -/
theorem scan_word_sign {w l : List UInt8} {acc : List Tok} {c : UInt8} (h : GoodW w) (hc : isSign c = true) : scanGo (w ++ c :: l) [] acc = scanGo l [] (acc ++ [wordTok w] ++ [.sign c.toNat]) := by
  rw [scan_word acc w _ [] h.2.1, List.nil_append, scanGo, if_neg (by rw [not_w_sign hc]; simp), endW_good h]
  simp only
  rw [if_pos hc]
theorem scan_word_end {w : List UInt8} {acc : List Tok} (h : GoodW w) : scanGo w [] acc = some (acc ++ [wordTok w]) := by
  have := scan_word acc w [] [] h.2.1
  rw [List.append_nil] at this
  rw [this, List.nil_append, scanGo, endW_good h]
theorem scan_sp {l : List UInt8} {acc : List Tok} : scanGo (32 :: l) [] acc = scanGo l [] acc := by
  rw [scanGo, if_neg (by decide)]; rfl
theorem scan_sign {c : UInt8} {l : List UInt8} {acc : List Tok} (hc : isSign c = true) : scanGo (c :: l) [] acc = scanGo l [] (acc ++ [.sign c.toNat]) := by
  rw [scanGo, if_neg (by rw [not_w_sign hc]; simp)]
  simp only [endW, if_pos]
  rw [if_pos hc]
/-! ### The words of a printed line -/
set_option maxRecDepth 100000 in
theorem good_mnem_n : ∀ n, n < 26 → 1 ≤ n → (mnems.getD n [] ≠ [] ∧ (mnems.getD n []).all isW = true ∧ wordOk (mnems.getD n []) = true) ∧ wordTok (mnems.getD n []) = .name (mnems.getD n []) := by decide
theorem mnem_at {op : Int} (h : 1 ≤ op ∧ op ≤ 25) : mnem op = mnems.getD op.toNat [] := by rw [mnem, if_pos h]
theorem good_mnem {op : Int} (h : 1 ≤ op ∧ op ≤ 25) : GoodW (mnem op) ∧ wordTok (mnem op) = .name (mnem op) := by
  rw [mnem_at h]
  exact good_mnem_n op.toNat (by omega) (by omega)
theorem isW_dig {c : UInt8} (h : isDig c = true) : isW c = true := by
  simp only [isDig, Bool.and_eq_true, decide_eq_true_eq] at h
  simp only [isW, isWordB, Bool.or_eq_true, Bool.and_eq_true, decide_eq_true_eq]
  left; right; omega
theorem all_w {l : List UInt8} (h : l.all isDig = true) : l.all isW = true := List.all_eq_true.2 fun c hc => isW_dig (List.all_eq_true.1 h c hc)
theorem no_x {l : List UInt8} (h : l.all isDig = true) : Lib.hasPrefix l [48, 120] = false := by
  cases l with
  | nil => rfl
  | cons a l => cases l with
    | nil => simp [Lib.hasPrefix, List.isPrefixOf]
    | cons b l =>
      rw [Bool.eq_false_iff]; intro h2
      simp only [Lib.hasPrefix, List.isPrefixOf, Bool.and_eq_true, beq_iff_eq] at h2
      have : b = 120 := h2.2.1.symm
      subst this
      simp [isDig] at h
theorem kind_dec (u : Nat) : wordKind (Lib.decDigits u) = 1 := by
  have h := dec_all u
  cases hd : Lib.decDigits u with
  | nil => exact absurd hd (dec_ne u)
  | cons a l =>
    rw [hd] at h
    have ha : isDig a = true := by rw [List.all_cons, Bool.and_eq_true] at h; exact h.1
    simp only [wordKind, no_x h]
    simp [ha]
theorem good_num {u : Nat} (h : u < 4294967296) : GoodW (Lib.decDigits u) ∧ wordTok (Lib.decDigits u) = .num u := by
  refine ⟨⟨dec_ne u, all_w (dec_all u), ?_⟩, ?_⟩
  · simp only [wordOk, kind_dec]; exact digits_dec u
  · simp only [wordTok, kind_dec, big_dec h]
theorem kind_reg (u : Nat) : wordKind (114 :: Lib.decDigits u) = 2 := by
  have h1 : Lib.hasPrefix (114 :: Lib.decDigits u) [48, 120] = false := by simp [Lib.hasPrefix, List.isPrefixOf]
  have h2 : 1 < (114 :: Lib.decDigits u).length := by
    have := List.length_pos_iff.2 (dec_ne u)
    simp only [List.length_cons]; omega
  have h3 : isDig 114 = false := by decide
  simp only [wordKind, h1]
  rw [if_neg (by simp), if_neg (by simp [h3]), if_pos ⟨rfl, h2, dec_all u⟩]
theorem good_reg {u : Nat} (h : u < 4294967296) : GoodW (114 :: Lib.decDigits u) ∧ wordTok (114 :: Lib.decDigits u) = .reg u := by
  refine ⟨⟨by simp, ?_, ?_⟩, ?_⟩
  · rw [List.all_cons, all_w (dec_all u)]; decide
  · simp only [wordOk, kind_reg]; exact digits_dec u
  · simp only [wordTok, kind_reg]
    rw [show (114 :: Lib.decDigits u).drop 1 = Lib.decDigits u from rfl, big_dec h]
end Am
end Go.Proofs.YtgppllppddaodaaGreatDoor

/-
  Scanning a printed line.
-/
namespace Go.Proofs.YtgppllppddaodaaGreatDoor
namespace Am
open Go
theorem scan1w {m w1 : List UInt8} (h : GoodW m) (h1 : GoodW w1) : scanGo (m ++ [32] ++ w1) [] [] = some [wordTok m, wordTok w1] := by
  rw [List.append_assoc, List.cons_append, List.nil_append, scan_word_sp h, scan_word_end h1]; rfl
theorem scan2w {m w1 w2 : List UInt8} (h : GoodW m) (h1 : GoodW w1) (h2 : GoodW w2) : scanGo (m ++ [32] ++ (w1 ++ [44, 32] ++ w2)) [] [] = some [wordTok m, wordTok w1, .sign 44, wordTok w2] := by
  rw [List.append_assoc, List.cons_append, List.nil_append, scan_word_sp h]
  rw [List.append_assoc, List.cons_append, List.cons_append, List.nil_append, scan_word_sign h1 (by decide), scan_sp, scan_word_end h2]; rfl
theorem scan3w {m w1 w2 w3 : List UInt8} (h : GoodW m) (h1 : GoodW w1) (h2 : GoodW w2) (h3 : GoodW w3) : scanGo (m ++ [32] ++ (w1 ++ [44, 32] ++ (w2 ++ [44, 32] ++ w3))) [] [] = some [wordTok m, wordTok w1, .sign 44, wordTok w2, .sign 44, wordTok w3] := by
  rw [List.append_assoc, List.cons_append, List.nil_append, scan_word_sp h]
  rw [List.append_assoc, List.cons_append, List.cons_append, List.nil_append, scan_word_sign h1 (by decide), scan_sp]
  rw [List.append_assoc, List.cons_append, List.cons_append, List.nil_append, scan_word_sign h2 (by decide), scan_sp, scan_word_end h3]; rfl
theorem scanMw {m w1 w2 w3 : List UInt8} (h : GoodW m) (h1 : GoodW w1) (h2 : GoodW w2) (h3 : GoodW w3) : scanGo (m ++ [32] ++ w1 ++ [44, 32, 91] ++ w2 ++ [32, 43, 32] ++ w3 ++ [93]) [] [] = some [wordTok m, wordTok w1, .sign 44, .sign 91, wordTok w2, .sign 43, wordTok w3, .sign 93] := by
  simp only [List.append_assoc, List.cons_append, List.nil_append]
  rw [scan_word_sp h, scan_word_sign h1 (by decide), scan_sp, scan_sign (by decide), scan_word_sp h2, scan_sign (by decide), scan_sp, scan_word_sign h3 (by decide)]; rfl
/-- No remark, no line's end. -/
def Plain (s : List UInt8) : Prop := ∀ c ∈ s, c ≠ 59 ∧ c ≠ 10
theorem Plain.app {s t : List UInt8} (hs : Plain s) (ht : Plain t) : Plain (s ++ t) := fun c hc => (List.mem_append.1 hc).elim (hs c) (ht c)
theorem plain_w {s : List UInt8} (h : s.all isW = true) : Plain s := fun c hc => by
  have := List.all_eq_true.1 h c hc
  constructor <;> (rintro rfl; revert this; decide)
theorem plain_d {s : List UInt8} (h : s.all (fun c => decide (c ≠ 59) && decide (c ≠ 10)) = true) : Plain s := fun c hc => by
  simpa using List.all_eq_true.1 h c hc
theorem cut_plain {s : List UInt8} (h : Plain s) : cutR s = s := by
  unfold cutR
  induction s with
  | nil => rfl
  | cons c s ih =>
    rw [List.takeWhile_cons, if_pos (by simpa using (h c (.head _)).1), ih fun x hx => h x (.tail _ hx)]
theorem split_line {s : List UInt8} (h : Plain s) (r : List UInt8) : splitC 10 (s ++ 10 :: r) = s :: splitC 10 r := by
  induction s with
  | nil => rw [List.nil_append, splitC_hit]
  | cons c s ih =>
    rw [List.cons_append]
    exact splitC_miss (h c (.head _)).2 _ _ _ (ih fun x hx => h x (.tail _ hx))
theorem split_end {s : List UInt8} (h : Plain s) : splitC 10 s = [s] := by
  induction s with
  | nil => rfl
  | cons c s ih => exact splitC_miss (h c (.head _)).2 _ _ _ (ih fun x hx => h x (.tail _ hx))
theorem scan_plain {s : List UInt8} (h : Plain s) : scan s = scanGo s [] [] := by rw [scan, cut_plain h]
end Am
end Go.Proofs.YtgppllppddaodaaGreatDoor

/-
  A printed line is read as its item.
-/
namespace Go.Proofs.YtgppllppddaodaaGreatDoor
namespace Am
open Go
theorem opOf_mnem_n : ∀ n, n < 26 → 1 ≤ n → opOf (mnems.getD n []) = (n : Int) := by decide
theorem mnem_word_n : ∀ n, n < 26 → 1 ≤ n → mnems.getD n [] ≠ wordL := by decide
theorem opOf_mnem {op : Int} (h : 1 ≤ op ∧ op ≤ 25) : opOf (mnem op) = op := by
  rw [mnem_at h, opOf_mnem_n op.toNat (by omega) (by omega)]; omega
theorem mnem_word {op : Int} (h : 1 ≤ op ∧ op ≤ 25) : mnem op ≠ wordL := by
  rw [mnem_at h]; exact mnem_word_n op.toNat (by omega) (by omega)
/-- An item of a line without a label. -/
theorem line_op {op n : Int} {ts : List Tok} (h : 1 ≤ op ∧ op ≤ 25) (hs : ∀ c l, ts ≠ .sign c :: l) :
    line ⟨.name (mnem op) :: ts, false, false⟩ n = ([], some ⟨n, (operands ⟨ts, false, false⟩ op).i, (operands ⟨ts, false, false⟩ op).v, false, 0⟩, left (operands ⟨ts, false, false⟩ op).r) := by
  have h1 : lineLabel ⟨.name (mnem op) :: ts, false, false⟩ = ([], ⟨.name (mnem op) :: ts, false, false⟩) := by
    unfold lineLabel
    split
    · rename_i l c ts' he
      simp only [List.cons.injEq] at he
      exact absurd he.2 (hs _ _)
    · rfl
  have h2 : opOf (mnem op) = op := opOf_mnem h
  have h3 := mnem_word h
  have h4 : 0 < op := by omega
  simp [line, h1, lineItem, Rd.next, h2, h3, h4]
theorem operands_form {op : Int} {r : Rd} {k : List UInt8} (hk : kind op = k) : operands r op = (let s := opGo op 0 k { r := r, i := ⟨op, 0, 0, 0, 0⟩, v := (0, []) }; if isMem op then { s with r := s.r.sign 93 } else s) := by
  subst hk; rfl
/-- A right instruction's line: its tokens. -/
def toksOf (i : Ins) : List Tok := .name (mnem i.op) ::
  (if isMem i.op then [.reg i.a.toNat, .sign 44, .sign 91, .reg i.b.toNat, .sign 43, .num i.imm.toNat, .sign 93]
   else if kind i.op = [97, 105] then [.reg i.a.toNat, .sign 44, .num i.imm.toNat]
   else if kind i.op = [97, 98, 99] then [.reg i.a.toNat, .sign 44, .reg i.b.toNat, .sign 44, .reg i.c.toNat]
   else if kind i.op = [97, 98, 105] then [.reg i.a.toNat, .sign 44, .reg i.b.toNat, .sign 44, .num i.imm.toNat]
   else if kind i.op = [105] then [.num i.imm.toNat]
   else if kind i.op = [98] then [.reg i.b.toNat]
   else if kind i.op = [98, 105] then [.reg i.b.toNat, .sign 44, .num i.imm.toNat]
   else if kind i.op = [97] then [.reg i.a.toNat]
   else [])
theorem kinds8 {op : Int} (h : 1 ≤ op ∧ op ≤ 25) : kind op ∈ ([[97, 105], [97, 98, 99], [97, 98, 105], [105], [98], [98, 105], [97], [45]] : List (List UInt8)) := by
  simp only [kind]; rw [if_pos h]
  exact kinds_few op.toNat (by omega) (by omega)
theorem not_mem {op : Int} {k : List UInt8} (hk : kind op = k) (hne : k ≠ [97, 98, 105]) : isMem op = false := by
  rw [Bool.eq_false_iff]; intro h
  exact hne (hk.symm.trans (mem_kind h))
theorem itoa_of {u : Int} (h : 0 ≤ u) : Lib.itoa u = Lib.decDigits u.toNat := by
  rw [← itoa_nat u.toNat, Int.toNat_of_nonneg h]
theorem good_reg' {u : Int} (h : 0 ≤ u) (h2 : u < 4294967296) : GoodW (114 :: Lib.itoa u) ∧ wordTok (114 :: Lib.itoa u) = .reg u.toNat := by
  rw [itoa_of h]; exact good_reg (by omega)
theorem good_num' {u : Int} (h : 0 ≤ u) (h2 : u < 4294967296) : GoodW (Lib.itoa u) ∧ wordTok (Lib.itoa u) = .num u.toNat := by
  rw [itoa_of h]; exact good_num (by omega)
/-- What scanning a right instruction's line tells. -/
theorem scan_lineText {i : Ins} (h : right i = true) : scanGo (lineText i) [] [] = some (toksOf i) := by
  obtain ⟨o1, o2, a1, a2, b1, b2, c1, c2, i1, i2, _⟩ := right_bounds h
  obtain ⟨gm, tm⟩ := good_mnem ⟨o1, o2⟩
  obtain ⟨ga, ta⟩ := good_reg' (u := i.a) a1 (by omega)
  obtain ⟨gb, tb⟩ := good_reg' (u := i.b) b1 (by omega)
  obtain ⟨gc, tc⟩ := good_reg' (u := i.c) c1 (by omega)
  obtain ⟨gi, ti⟩ := good_num' (u := i.imm) i1 (by omega)
  by_cases hm : isMem i.op = true
  · have e := mem_texts hm
    rw [lineText, if_neg (by rw [e]; simp), if_pos hm, e]
    simp only [List.getD_cons_zero, List.getD_cons_succ]
    have := scanMw gm ga gb gi
    rw [tm, ta, tb, ti] at this
    rw [toksOf, if_pos hm, ← this]; rfl
  · have hk := kinds8 ⟨o1, o2⟩
    simp only [List.mem_cons, List.not_mem_nil, or_false] at hk
    rw [lineText, if_neg (c := isMem i.op = true) hm, toksOf, if_neg hm]
    rcases hk with hk | hk | hk | hk | hk | hk | hk | hk <;> rw [hk] <;> simp only [opTexts, hk]
    · have e : [97, 105].filterMap (opText i) = [114 :: Lib.itoa i.a, Lib.itoa i.imm] := by simp [opText]
      rw [e, if_neg (by simp)]
      have := scan2w gm ga gi
      rw [tm, ta, ti] at this
      simpa [Lib.join, List.intercalate, List.intersperse] using this
    · have e : [97, 98, 99].filterMap (opText i) = [114 :: Lib.itoa i.a, 114 :: Lib.itoa i.b, 114 :: Lib.itoa i.c] := by simp [opText]
      rw [e, if_neg (by simp)]
      have := scan3w gm ga gb gc
      rw [tm, ta, tb, tc] at this
      simpa [Lib.join, List.intercalate, List.intersperse] using this
    · have e : [97, 98, 105].filterMap (opText i) = [114 :: Lib.itoa i.a, 114 :: Lib.itoa i.b, Lib.itoa i.imm] := by simp [opText]
      rw [e, if_neg (by simp)]
      have := scan3w gm ga gb gi
      rw [tm, ta, tb, ti] at this
      simpa [Lib.join, List.intercalate, List.intersperse] using this
    · have e : [105].filterMap (opText i) = [Lib.itoa i.imm] := by simp [opText]
      rw [e, if_neg (by simp)]
      have := scan1w gm gi
      rw [tm, ti] at this
      simpa [Lib.join, List.intercalate, List.intersperse] using this
    · have e : [98].filterMap (opText i) = [114 :: Lib.itoa i.b] := by simp [opText]
      rw [e, if_neg (by simp)]
      have := scan1w gm gb
      rw [tm, tb] at this
      simpa [Lib.join, List.intercalate, List.intersperse] using this
    · have e : [98, 105].filterMap (opText i) = [114 :: Lib.itoa i.b, Lib.itoa i.imm] := by simp [opText]
      rw [e, if_neg (by simp)]
      have := scan2w gm gb gi
      rw [tm, tb, ti] at this
      simpa [Lib.join, List.intercalate, List.intersperse] using this
    · have e : [97].filterMap (opText i) = [114 :: Lib.itoa i.a] := by simp [opText]
      rw [e, if_neg (by simp)]
      have := scan1w gm ga
      rw [tm, ta] at this
      simpa [Lib.join, List.intercalate, List.intersperse] using this
    · have e : [45].filterMap (opText i) = [] := by simp [opText]
      rw [e, if_pos rfl, scan_word_end gm, tm]; simp
/-- The item of an instruction. -/
def itemOf (n : Int) (i : Ins) : Item := ⟨n, { i with imm := 0 }, (i.imm, []), false, 0⟩
theorem line_toks {i : Ins} (n : Int) (h : right i = true) : line ⟨toksOf i, false, false⟩ n = ([], some (itemOf n i), ⟨[], false, false⟩) := by
  obtain ⟨o1, o2, a1, a2, b1, b2, c1, c2, i1, i2, _⟩ := right_bounds h
  obtain ⟨op, a, b, c, imm⟩ := i
  simp only at o1 o2 a1 a2 b1 b2 c1 c2 i1 i2
  obtain ⟨a, rfl⟩ : ∃ x : Nat, a = x := ⟨a.toNat, by omega⟩
  obtain ⟨b, rfl⟩ : ∃ x : Nat, b = x := ⟨b.toNat, by omega⟩
  obtain ⟨c, rfl⟩ : ∃ x : Nat, c = x := ⟨c.toNat, by omega⟩
  obtain ⟨imm, rfl⟩ : ∃ x : Nat, imm = x := ⟨imm.toNat, by omega⟩
  have a3 : ¬ (a ≥ 16) := by omega
  have b3 : ¬ (b ≥ 16) := by omega
  have c3 : ¬ (c ≥ 16) := by omega
  have i3 : ¬ (imm ≥ 65536) := by omega
  have hr := h
  rw [right_eq] at hr
  have hk := kinds8 ⟨o1, o2⟩
  simp only [List.mem_cons, List.not_mem_nil, or_false] at hk
  simp only [toksOf, itemOf]
  rw [line_op ⟨o1, o2⟩ (by
    intro c l
    rcases hk with hk | hk | hk | hk | hk | hk | hk | hk <;> simp only [hk] <;> split <;> simp)]
  rcases hk with hk | hk | hk | hk | hk | hk | hk | hk
  all_goals rw [operands_form hk]
  all_goals simp only [hk] at hr
  all_goals simp [rightK, rstep] at hr
  case inr.inr.inl =>
    by_cases hm : isMem op = true
    · simp [hm, opGo, opStep, sepOf, letter, Rd.sign, Rd.reg, Rd.value, left, a3, b3, i3]; omega
    · simp [hk, hm, opGo, opStep, sepOf, letter, Rd.sign, Rd.reg, Rd.value, left, a3, b3, i3]; omega
  all_goals have hm := not_mem hk (by decide)
  all_goals simp [hk, hm, opGo, opStep, sepOf, letter, Rd.sign, Rd.reg, Rd.value, left, a3, b3, c3, i3]; try omega
end Am
end Go.Proofs.YtgppllppddaodaaGreatDoor

/-
  What is printed is read as it was: a word's line; many lines.
-/
namespace Go.Proofs.YtgppllppddaodaaGreatDoor
namespace Am
open Go
/-! ### words of hex -/
theorem hexV_snoc (s : List UInt8) (c : UInt8) : hexV (s ++ [c]) = hexV s * 16 + hexD c := by simp [hexV]
theorem hexDig_ok : ∀ d, d < 16 → hexD (hexDig d) = d ∧ isHex (hexDig d) = true ∧ isW (hexDig d) = true := by decide
theorem hexText_ok (n : Nat) : hexV (hexText n) = n ∧ (hexText n).all isHex = true ∧ (hexText n).all isW = true := by
  induction n using Nat.strongRecOn with
  | ind n ih =>
    rw [hexText]
    split
    · rename_i h
      obtain ⟨h1, h2, h3⟩ := hexDig_ok n h
      refine ⟨by simp [hexV, h1], by simp [h2], by simp [h3]⟩
    · rename_i h
      obtain ⟨h1, h2, h3⟩ := hexDig_ok (n % 16) (by omega)
      obtain ⟨i1, i2, i3⟩ := ih (n / 16) (by omega)
      refine ⟨by rw [hexV_snoc, i1, h1]; omega, by rw [List.all_append, i2]; simp [h2], by rw [List.all_append, i3]; simp [h3]⟩
theorem hexText_len {k : Nat} : ∀ n, n < 16 ^ (k + 1) → (hexText n).length ≤ k + 1 := by
  induction k with
  | zero => intro n h; rw [hexText, dif_pos (by omega)]; simp
  | succ k ih =>
    intro n h
    rw [hexText]
    split
    · simp
    · have := ih (n / 16) (by
        have e : 16 ^ (k + 1 + 1) = 16 ^ (k + 1) * 16 := Nat.pow_succ _ _
        omega)
      simp only [List.length_append, List.length_singleton]; omega
theorem hexV_noughts (t : List UInt8) : ∀ k, hexV (List.replicate k 48 ++ t) = hexV t
  | 0 => by simp
  | k + 1 => by
    have ih := hexV_noughts t k
    simp only [hexV] at ih ⊢
    rw [List.replicate_succ, List.cons_append, List.foldl_cons]
    rw [show 0 * 16 + hexD 48 = 0 by decide, ih]
def hex8 (w : Nat) : List UInt8 := List.replicate (8 - (hexText w).length) 48 ++ hexText w
theorem hex8_ok {w : Nat} (h : w < 4294967296) : (hex8 w).length = 8 ∧ hexV (hex8 w) = w ∧ (hex8 w).all isHex = true ∧ (hex8 w).all isW = true := by
  obtain ⟨h1, h2, h3⟩ := hexText_ok w
  have hl := hexText_len (k := 7) w (by simpa using h)
  refine ⟨?_, ?_, ?_, ?_⟩
  · simp only [hex8, List.length_append, List.length_replicate]; omega
  · rw [hex8, hexV_noughts, h1]
  · rw [hex8, List.all_append, h2, Bool.and_true, List.all_eq_true]
    intro c hc
    rw [List.mem_replicate] at hc
    rw [hc.2]; decide
  · rw [hex8, List.all_append, h3, Bool.and_true, List.all_eq_true]
    intro c hc
    rw [List.mem_replicate] at hc
    rw [hc.2]; decide
theorem good_hex {w : Nat} (h : w < 4294967296) : GoodW ([48, 120] ++ hex8 w) ∧ wordTok ([48, 120] ++ hex8 w) = .num w := by
  obtain ⟨h1, h2, h3, h4⟩ := hex8_ok h
  have hp : Lib.hasPrefix ([48, 120] ++ hex8 w) [48, 120] = true := by simp [Lib.hasPrefix, List.isPrefixOf]
  have hk : wordKind ([48, 120] ++ hex8 w) = 0 := by rw [wordKind, if_pos hp]
  refine ⟨⟨by simp, ?_, ?_⟩, ?_⟩
  · rw [List.all_append, h4]; decide
  · simp only [wordOk, hk]
    have e : ([48, 120] ++ hex8 w).drop 2 = hex8 w := rfl
    simp only [List.cons_append, List.nil_append] at e
    simp only [List.cons_append, List.nil_append, e, hexOk, h3]
    have : hex8 w ≠ [] := by intro h'; rw [h'] at h1; simp at h1
    simp [this, h1]
  · simp only [wordTok, hk]
    have e : ([48, 120] ++ hex8 w).drop 2 = hex8 w := rfl
    simp only [List.cons_append, List.nil_append] at e
    simp only [List.cons_append, List.nil_append, e, h2]
theorem good_wordL : GoodW wordL ∧ wordTok wordL = .name wordL := by
  refine ⟨⟨by decide, by decide, by decide⟩, by decide⟩
/-- A word's line without its end. -/
def lineOf (w : Nat) : List UInt8 := if (decode w).2 = 0 then lineText (decode w).1 else wordL ++ [32] ++ ([48, 120] ++ hex8 w)
theorem wordText_lineOf (w : Nat) : wordText w = lineOf w ++ [10] := by
  rw [wordText, lineOf]
  split
  · rfl
  · simp [wordL, hex8]
/-! ### decode, encode -/
theorem encode_decode {w : Int} (hd : (decode w).2 = 0) : right (decode w).1 = true ∧ (encode (decode w).1).1 = w := by
  unfold decode at hd ⊢
  split at hd
  · rename_i hr
    rw [if_pos hr]
    refine ⟨hr, ?_⟩
    simp only [encode]
    rw [if_pos hr]
    simp only [wordOf, decodeW]
    split <;> simp only <;> omega
  · simp at hd
/-! ### what a line says -/
/-- A line without a label says a word. -/
def Says (s : List UInt8) (w : Int) : Prop := ∃ ts, scan s = some ts ∧ ∀ n : Int, ∃ it : Item, line ⟨ts, false, false⟩ n = ([], some it, ⟨[], false, false⟩) ∧ it.line = n ∧ ∀ base p, itemWord base p it = some w
def NoNl (s : List UInt8) : Prop := ∀ c ∈ s, c ≠ 10
theorem Plain.nl {s : List UInt8} (h : Plain s) : NoNl s := fun c hc => (h c hc).2
theorem split_nl {s : List UInt8} (h : NoNl s) (r : List UInt8) : splitC 10 (s ++ 10 :: r) = s :: splitC 10 r := by
  induction s with
  | nil => rw [List.nil_append, splitC_hit]
  | cons c s ih =>
    rw [List.cons_append]
    exact splitC_miss (h c (.head _)) _ _ _ (ih fun x hx => h x (.tail _ hx))
theorem split_last {s : List UInt8} (h : NoNl s) : splitC 10 s = [s] := by
  induction s with
  | nil => rfl
  | cons c s ih => exact splitC_miss (h c (.head _)) _ _ _ (ih fun x hx => h x (.tail _ hx))
def unlines (ls : List (List UInt8)) : List UInt8 := (ls.map (· ++ [10])).flatten
theorem unlines_cons (l : List UInt8) (ls : List (List UInt8)) : unlines (l :: ls) = l ++ 10 :: unlines ls := by simp [unlines]
theorem unlines_app (a b : List (List UInt8)) : unlines (a ++ b) = unlines a ++ unlines b := by simp [unlines]
theorem split_unlines : ∀ (ls : List (List UInt8)) (r : List UInt8), (∀ l ∈ ls, NoNl l) → splitC 10 (unlines ls ++ r) = ls ++ splitC 10 r
  | [], r, _ => by simp [unlines]
  | l :: ls, r, h => by
    rw [unlines_cons, List.append_assoc, List.cons_append, split_nl (h l (.head _)), split_unlines ls r fun x hx => h x (.tail _ hx)]; rfl
theorem printT_lines (ws : List Nat) : printT ws = unlines (ws.map lineOf) := by
  have : wordText = fun w => lineOf w ++ [10] := funext wordText_lineOf
  simp [printT, unlines, this, Function.comp_def]
/-- Lines that say words, behind each other. -/
inductive Says2 : List (List UInt8) → List Int → Prop
  | nil : Says2 [] []
  | cons {s : List UInt8} {w : Int} {ls : List (List UInt8)} {ws : List Int} : Says s w → Says2 ls ws → Says2 (s :: ls) (w :: ws)
theorem Says2.app {a b : List (List UInt8)} {v w : List Int} (h : Says2 a v) (h2 : Says2 b w) : Says2 (a ++ b) (v ++ w) := by
  induction h with
  | nil => exact h2
  | cons h _ ih => exact .cons h ih
theorem Says2.len {a : List (List UInt8)} {v : List Int} (h : Says2 a v) : a.length = v.length := by
  induction h with
  | nil => rfl
  | cons _ _ ih => simp [ih]
theorem Says2.rep {s : List UInt8} {w : Int} (h : Says s w) : ∀ n, Says2 (List.replicate n s) (List.replicate n w)
  | 0 => .nil
  | n + 1 => .cons h (rep h n)
theorem addLabel_nil (p : Pg) (n : Nat) : addLabel p [] n = p := by simp [addLabel]
theorem readGo_says {ls : List (List UInt8)} {ws : List Int} (h : Says2 ls ws) : ∀ (k : Nat) (rest : List (List UInt8)) (p : Pg),
    ∃ items : List Item, readGo k (ls ++ rest) p = readGo (k + ls.length) rest { p with items := p.items ++ items } ∧ items.length = ls.length ∧ ∀ base q more acc, wordsGo base q (items ++ more) acc = wordsGo base q more (acc ++ ws) := by
  induction h with
  | nil => intro k rest p; exact ⟨[], by simp, rfl, by simp⟩
  | @cons s w ls ws hs _ ih =>
    intro k rest p
    obtain ⟨ts, h1, h2⟩ := hs
    obtain ⟨it, h3, h4, h5⟩ := h2 ((k + 1 : Nat) : Int)
    obtain ⟨items, i1, i2, i3⟩ := ih (k + 1) rest { p with items := p.items ++ [it] }
    refine ⟨it :: items, ?_, by simp [i2], ?_⟩
    · rw [List.cons_append, readGo, h1]
      simp only [h3]
      simp only [addLabel_nil, addItem]
      rw [if_neg (by simp), if_neg (by simp), i1]
      simp only [List.append_assoc, List.cons_append, List.nil_append, List.length_cons]
      rw [show k + 1 + ls.length = k + (ls.length + 1) by omega]
    · intro base q more acc
      rw [List.cons_append, wordsGo, h5]
      simp only
      rw [i3]; simp
/-- An instruction's line says its word. -/
theorem lineText_plain {i : Ins} (h : right i = true) : Plain (lineText i) := by
  obtain ⟨o1, o2, a1, a2, b1, b2, c1, c2, i1, i2, _⟩ := right_bounds h
  obtain ⟨gm, _⟩ := good_mnem ⟨o1, o2⟩
  have pm := plain_w gm.2.1
  have pt : ∀ x ∈ opTexts i, Plain x := by
    intro x hx
    simp only [opTexts, List.mem_filterMap] at hx
    obtain ⟨f, _, hf⟩ := hx
    unfold opText at hf
    have pr : ∀ u : Int, 0 ≤ u → Plain ([114] ++ Lib.itoa u) := fun u hu => by
      rw [itoa_of hu]
      exact plain_w (by rw [List.all_append, all_w (dec_all _)]; decide)
    split at hf
    · cases hf; exact pr _ a1
    · split at hf
      · cases hf; exact pr _ b1
      · split at hf
        · cases hf; exact pr _ c1
        · split at hf
          · cases hf; rw [itoa_of i1]; exact plain_w (all_w (dec_all _))
          · cases hf
  have pj : ∀ xs : List (List UInt8), (∀ x ∈ xs, Plain x) → Plain (Lib.join xs [44, 32]) := by
    intro xs
    induction xs with
    | nil => intro _; rw [Lib.join_nil]; intro c hc; cases hc
    | cons x xs ih =>
      intro hx
      cases xs with
      | nil => simpa [Lib.join, List.intercalate] using hx x (.head _)
      | cons y l =>
        have e : Lib.join (x :: y :: l) [44, 32] = x ++ [44, 32] ++ Lib.join (y :: l) [44, 32] := by simp [Lib.join, List.intercalate, List.intersperse]
        rw [e]
        exact ((hx x (.head _)).app (plain_d (by decide))).app (ih fun z hz => hx z (.tail _ hz))
  unfold lineText
  split
  · exact pm
  · split
    · rename_i hm
      rw [mem_texts hm] at pt ⊢
      simp only [List.getD_cons_zero, List.getD_cons_succ]
      have p0 := pt _ (.head _)
      have p1 := pt _ (.tail _ (.head _))
      have p2 := pt _ (.tail _ (.tail _ (.head _)))
      exact ((((((pm.app (plain_d (by decide))).app p0).app (plain_d (by decide))).app p1).app (plain_d (by decide))).app p2).app (plain_d (by decide))
    · exact (pm.app (plain_d (by decide))).app (pj _ pt)
theorem says_ins {i : Ins} (h : right i = true) : Says (lineText i) (encode i).1 := by
  refine ⟨toksOf i, by rw [scan_plain (lineText_plain h), scan_lineText h], fun n => ⟨itemOf n i, line_toks n h, rfl, fun base p => ?_⟩⟩
  simp [itemWord, itemOf]
theorem says_lineOf {w : Nat} (h : w < 4294967296) : NoNl (lineOf w) ∧ Says (lineOf w) w := by
  unfold lineOf
  split
  · rename_i hd
    obtain ⟨h1, h2⟩ := encode_decode (w := w) hd
    have := says_ins h1
    rw [h2] at this
    exact ⟨(lineText_plain h1).nl, this⟩
  · obtain ⟨g1, t1⟩ := good_wordL
    obtain ⟨g2, t2⟩ := good_hex h
    have hp : Plain (wordL ++ [32] ++ ([48, 120] ++ hex8 w)) := ((plain_w g1.2.1).app (plain_d (by decide))).app (plain_w g2.2.1)
    refine ⟨hp.nl, [.name wordL, .num w], by rw [scan_plain hp, scan1w g1 g2, t1, t2], fun n => ⟨⟨n, ⟨0, 0, 0, 0, 0⟩, (0, []), true, (w : Int)⟩, ?_, rfl, fun base p => rfl⟩⟩
    have e1 : w % 4294967296 = w := Nat.mod_eq_of_lt h
    have e2 : ¬ (w ≥ 4294967296) := by omega
    simp [line, lineLabel, lineItem, Rd.next, left, e1, e2]
theorem says_words : ∀ ws : List Nat, (∀ w ∈ ws, w < 4294967296) → Says2 (ws.map lineOf) (ws.map fun (w : Nat) => (w : Int)) ∧ ∀ l ∈ ws.map lineOf, NoNl l
  | [], _ => ⟨.nil, fun l hl => by cases hl⟩
  | w :: ws, h => by
    obtain ⟨h1, h2⟩ := says_words ws fun x hx => h x (.tail _ hx)
    obtain ⟨h3, h4⟩ := says_lineOf (h w (.head _))
    refine ⟨.cons h4 h1, fun l hl => ?_⟩
    rw [List.map_cons] at hl
    rcases List.mem_cons.1 hl with rfl | hl
    · exact h3
    · exact h2 l hl
/-! ### how long a line is -/
theorem kind_len3_n : ∀ n, n < 26 → (kindsL.getD n []).length ≤ 3 := by decide
theorem mnem_len4_n : ∀ n, n < 26 → (mnems.getD n []).length ≤ 4 := by decide
theorem join_len' {m : Nat} {sep : List UInt8} : ∀ xs : List (List UInt8), xs ≠ [] → (∀ x ∈ xs, x.length ≤ m) → (Lib.join xs sep).length + sep.length ≤ xs.length * (m + sep.length)
  | [], h, _ => absurd rfl h
  | [x], _, h => by
    have := h x (.head _)
    simp [Lib.join, List.intercalate]; omega
  | x :: y :: l, _, h => by
    have ih := join_len' (m := m) (sep := sep) (y :: l) (by simp) (fun z hz => h z (.tail _ hz))
    have hx := h x (.head _)
    have e : Lib.join (x :: y :: l) sep = x ++ sep ++ Lib.join (y :: l) sep := by simp [Lib.join, List.intercalate, List.intersperse]
    rw [e]
    simp only [List.length_append, List.length_cons] at ih ⊢
    have : (l.length + 1 + 1) * (m + sep.length) = (l.length + 1) * (m + sep.length) + (m + sep.length) := Nat.succ_mul _ _
    omega
theorem lineText_len {i : Ins} (h : right i = true) : (lineText i).length ≤ 24 := by
  obtain ⟨o1, o2, a1, a2, b1, b2, c1, c2, i1, i2, _⟩ := right_bounds h
  have hm : (mnem i.op).length ≤ 4 := by rw [mnem_at ⟨o1, o2⟩]; exact mnem_len4_n _ (by omega)
  have hk : (kind i.op).length ≤ 3 := by simp only [kind]; rw [if_pos ⟨o1, o2⟩]; exact kind_len3_n _ (by omega)
  have hc : (opTexts i).length ≤ 3 := Nat.le_trans (List.length_filterMap_le _ _) hk
  have pr : ∀ u : Int, 0 ≤ u → u < 16 → ([114] ++ Lib.itoa u).length ≤ 5 := fun u hu h2 => by
    have := dec_len (k := 1) u.toNat (by omega)
    rw [itoa_of hu]; simp only [List.length_append, List.length_singleton]; omega
  have hi : (Lib.itoa i.imm).length ≤ 5 := by
    rw [itoa_of i1]; exact dec_len (k := 4) i.imm.toNat (by omega)
  have pt : ∀ x ∈ opTexts i, x.length ≤ 5 := by
    intro x hx
    simp only [opTexts, List.mem_filterMap] at hx
    obtain ⟨f, _, hf⟩ := hx
    unfold opText at hf
    split at hf
    · cases hf; exact pr _ a1 a2
    · split at hf
      · cases hf; exact pr _ b1 b2
      · split at hf
        · cases hf; exact pr _ c1 c2
        · split at hf
          · cases hf; exact hi
          · cases hf
  unfold lineText
  split
  · omega
  · rename_i hne
    split
    · rename_i hme
      have e := mem_texts hme
      rw [e]
      have pa : ([114] ++ Lib.itoa i.a).length ≤ 3 := by
        have := dec_len (k := 1) i.a.toNat (by omega)
        rw [itoa_of a1]; simp only [List.length_append, List.length_singleton]; omega
      have pb : ([114] ++ Lib.itoa i.b).length ≤ 3 := by
        have := dec_len (k := 1) i.b.toNat (by omega)
        rw [itoa_of b1]; simp only [List.length_append, List.length_singleton]; omega
      simp only [List.getD_cons_zero, List.getD_cons_succ]
      simp only [List.length_append, List.length_cons, List.length_nil] at pa pb ⊢; omega
    · have := join_len' (m := 5) (sep := [44, 32]) (opTexts i) hne pt
      simp only [List.length_append, List.length_cons, List.length_nil] at this ⊢
      have h2 : (opTexts i).length * (5 + (0 + 1 + 1)) ≤ 3 * 7 := Nat.mul_le_mul hc (by omega)
      omega
theorem lineOf_len {w : Nat} (h : w < 4294967296) : (lineOf w).length ≤ 24 := by
  unfold lineOf
  split
  · rename_i hd
    exact lineText_len (encode_decode (w := w) hd).1
  · have := (hex8_ok h).1
    simp only [List.length_append, List.length_cons, List.length_nil, wordL]; omega
theorem unlines_len {m : Nat} : ∀ ls : List (List UInt8), (∀ l ∈ ls, l.length ≤ m) → (unlines ls).length ≤ ls.length * (m + 1)
  | [], _ => by simp [unlines]
  | l :: ls, h => by
    have ih := unlines_len ls fun x hx => h x (.tail _ hx)
    have hx := h l (.head _)
    rw [unlines_cons]
    simp only [List.length_append, List.length_cons]
    have : (ls.length + 1) * (m + 1) = ls.length * (m + 1) + (m + 1) := Nat.succ_mul _ _
    omega
theorem printT_len {ws : List Nat} (h : ∀ w ∈ ws, w < 4294967296) : (printT ws).length ≤ ws.length * 25 := by
  rw [printT_lines]
  have := unlines_len (m := 24) (ws.map lineOf) (fun l hl => by
    obtain ⟨w, hw, rfl⟩ := List.mem_map.1 hl
    exact lineOf_len (h w hw))
  simpa using this
/-! ### AsmBack, AsmJoins -/
theorem readGo_last (k : Nat) (p : Pg) : readGo k [[]] p = .inl p := by
  have : scan [] = some [] := by decide
  rw [readGo, this]
  simp [line, lineLabel, readGo, addLabel, addItem]
theorem assemble_says {base : Int} {src : List UInt8} {ls : List (List UInt8)} {ws : List Int} (hb : 0 ≤ base) (hb2 : base < 65536) (hl : src.length ≤ 4000) (hs : splitC 10 src = ls ++ [[]]) (h : Says2 ls ws) : assemble base src = (ws, 0, 0) := by
  obtain ⟨items, h1, h2, h3⟩ := readGo_says h 0 [[]] ⟨[], [], 0⟩
  rw [assemble, if_neg (by omega), if_neg (by omega), read, hs, h1, readGo_last]
  simp only
  rw [if_neg (by omega)]
  have := h3 base { items := [] ++ items, labels := [], double := 0 } [] []
  simp only [List.append_nil, List.nil_append, wordsGo] at this ⊢
  rw [this]
theorem assemble_print {base : Int} {ws : List Nat} (hb : 0 ≤ base) (hb2 : base < 65536) (hn : ws.length ≤ 160) (h : ∀ w ∈ ws, w < 4294967296) : assemble base (printT ws) = (ws.map fun (w : Nat) => (w : Int), 0, 0) := by
  obtain ⟨h1, h2⟩ := says_words ws h
  refine assemble_says hb hb2 ?_ ?_ h1
  · have := printT_len h; omega
  · have := split_unlines (ws.map lineOf) [] h2
    rw [List.append_nil] at this
    rw [printT_lines, this]; rfl
theorem printT_app (a b : List Nat) : printT a ++ printT b = printT (a ++ b) := by simp [printT]
end Am
end Go.Proofs.YtgppllppddaodaaGreatDoor

/-
  Programs of nops: labels, bases, wrong lines, labels that stand twice.
-/
namespace Go.Proofs.YtgppllppddaodaaGreatDoor
namespace Am
open Go
def cat (f : Nat → List UInt8) : Nat → List UInt8
  | 0 => []
  | n + 1 => cat f n ++ f n
theorem cat_add (f : Nat → List UInt8) (m : Nat) : ∀ n, cat f (m + n) = cat f m ++ cat (fun i => f (m + i)) n
  | 0 => by simp [cat]
  | n + 1 => by rw [← Nat.add_assoc, cat, cat, cat_add f m n]; simp
theorem cat_lines {f : Nat → List UInt8} {c : List UInt8} : ∀ n, (∀ i, i < n → f i = c ++ [10]) → cat f n = unlines (List.replicate n c)
  | 0, _ => by simp [cat, unlines]
  | n + 1, h => by
    rw [cat, cat_lines n fun i hi => h i (by omega), h n (by omega), List.replicate_succ', unlines_app]
    simp [unlines]
theorem cat_one (f : Nat → List UInt8) : cat f 1 = f 0 := by simp [cat]
def nopL : List UInt8 := [110, 111, 112]
def fineL : List UInt8 := [110, 111, 112, 32, 59, 32, 102, 105, 110, 101]
def nopW : Int := 419430400
def nopI (n : Int) : Item := ⟨n, ⟨25, 0, 0, 0, 0⟩, (0, []), false, 0⟩
theorem nop_word (base : Int) (p : Pg) (n : Int) : itemWord base p (nopI n) = some nopW := by
  have : (encode ⟨25, 0, 0, 0, 0⟩).1 = nopW := by decide
  simp [itemWord, nopI, this]
theorem nop_scan : scan nopL = some [.name nopL] := by decide
theorem fine_scan : scan fineL = some [.name nopL] := by decide
theorem nop_line (n : Int) : line ⟨[.name nopL], false, false⟩ n = ([], some (nopI n), ⟨[], false, false⟩) := by
  have := line_toks (i := ⟨25, 0, 0, 0, 0⟩) n (by decide)
  exact this
theorem says_nop : Says nopL nopW := ⟨_, nop_scan, fun n => ⟨nopI n, nop_line n, rfl, fun base p => nop_word base p n⟩⟩
theorem says_fine : Says fineL nopW := ⟨_, fine_scan, fun n => ⟨nopI n, nop_line n, rfl, fun base p => nop_word base p n⟩⟩
theorem readGo_step {k : Nat} {s : List UInt8} {ls : List (List UInt8)} {p : Pg} {ts : List Tok} {lab : List UInt8} {it : Option Item} (hs : scan s = some ts) (hl : line ⟨ts, false, false⟩ ((k + 1 : Nat) : Int) = (lab, it, ⟨[], false, false⟩)) : readGo k (s :: ls) p = readGo (k + 1) ls (addItem (addLabel p lab (k + 1)) it) := by
  rw [readGo, hs]
  simp only [hl]
  rw [if_neg (by simp), if_neg (by simp)]
theorem nl_d {s : List UInt8} (h : s.all (fun c => decide (c ≠ 10)) = true) : NoNl s := fun c hc => by
  simpa using List.all_eq_true.1 h c hc
theorem nl_rep {s : List UInt8} (h : NoNl s) (n : Nat) : ∀ l ∈ List.replicate n s, NoNl l := fun l hl => by
  rw [List.mem_replicate] at hl; rw [hl.2]; exact h
theorem NoNl.app {s t : List UInt8} (hs : NoNl s) (ht : NoNl t) : NoNl (s ++ t) := fun c hc => (List.mem_append.1 hc).elim (hs c) (ht c)
/-! ### jumps -/
def jmpW (imm : Int) : Int := 234881024 + imm
def jalW (imm : Int) : Int := 254803968 + imm
theorem right_jmp {imm : Int} (h : 0 ≤ imm) (h2 : imm < 65536) : right ⟨14, 0, 0, 0, imm⟩ = true := by
  rw [right_eq, show kind (⟨14, 0, 0, 0, imm⟩ : Ins).op = [105] from rfl]
  simp [rightK, rstep]; omega
theorem right_jal {imm : Int} (h : 0 ≤ imm) (h2 : imm < 65536) : right ⟨15, 3, 0, 0, imm⟩ = true := by
  rw [right_eq, show kind (⟨15, 3, 0, 0, imm⟩ : Ins).op = [97, 105] from rfl]
  simp [rightK, rstep]; omega
theorem encode_jmp {imm : Int} (h : 0 ≤ imm) (h2 : imm < 65536) : (encode ⟨14, 0, 0, 0, imm⟩).1 = jmpW imm := by
  rw [encode, if_pos (right_jmp h h2)]; simp only [wordOf, jmpW]; omega
theorem encode_jal {imm : Int} (h : 0 ≤ imm) (h2 : imm < 65536) : (encode ⟨15, 3, 0, 0, imm⟩).1 = jalW imm := by
  rw [encode, if_pos (right_jal h h2)]; simp only [wordOf, jalW]; omega
theorem decode_jmp {imm : Int} (h : 0 ≤ imm) (h2 : imm < 65536) : decode (jmpW imm) = (⟨14, 0, 0, 0, imm⟩, 0) := by
  have e : decodeW (jmpW imm) = ⟨14, 0, 0, 0, imm⟩ := by
    have q : jmpW imm / 16777216 = 14 := by simp only [jmpW]; omega
    have hc : hasC 14 = false := by decide
    simp [decodeW, q, hc]
    simp only [jmpW]; omega
  rw [decode, e, if_pos (right_jmp h h2)]
theorem decode_jal {imm : Int} (h : 0 ≤ imm) (h2 : imm < 65536) : decode (jalW imm) = (⟨15, 3, 0, 0, imm⟩, 0) := by
  have e : decodeW (jalW imm) = ⟨15, 3, 0, 0, imm⟩ := by
    have q : jalW imm / 16777216 = 15 := by simp only [jalW]; omega
    have hc : hasC 15 = false := by decide
    simp [decodeW, q, hc]
    simp only [jalW]; omega
  rw [decode, e, if_pos (right_jal h h2)]
theorem jmp_word {base at' n : Int} {p : Pg} {a : Nat} {l : List UInt8} (hl : l ≠ []) (hm : mget p.labels l = some a) (hb : 0 ≤ base) (h : base + 4 * a < 65536) : itemWord base p ⟨n, ⟨14, 0, 0, 0, at'⟩, (0, l), false, 0⟩ = some (jmpW (base + 4 * a)) := by
  simp only [itemWord, hm]
  rw [if_neg (by simp), if_neg hl, if_neg (by omega)]
  rw [encode_jmp (by omega) h]
theorem jal_word {base at' n : Int} {p : Pg} {a : Nat} {l : List UInt8} (hl : l ≠ []) (hm : mget p.labels l = some a) (hb : 0 ≤ base) (h : base + 4 * a < 65536) : itemWord base p ⟨n, ⟨15, 3, 0, 0, at'⟩, (0, l), false, 0⟩ = some (jalW (base + 4 * a)) := by
  simp only [itemWord, hm]
  rw [if_neg (by simp), if_neg hl, if_neg (by omega)]
  rw [encode_jal (by omega) h]
/-! ### AsmLabels -/
def hereN : List UInt8 := [104, 101, 114, 101]
def hereL : List UInt8 := [104, 101, 114, 101, 58]
def hereJ : List UInt8 := [104, 101, 114, 101, 58, 32, 106, 109, 112, 32, 104, 101, 114, 101]
def jmpL : List UInt8 := [106, 109, 112, 32, 104, 101, 114, 101]
def jalL : List UInt8 := [106, 97, 108, 32, 114, 51, 44, 32, 104, 101, 114, 101]
def labF (at' : Nat) (i : Nat) : List UInt8 := (if i = at' then hereL ++ [10] else []) ++ (nopL ++ [10])
def labSrc (many at' : Nat) : List UInt8 := cat (labF at') many ++ (if at' = many then [104, 101, 114, 101, 58, 32] else []) ++ (jmpL ++ [10] ++ jalL)
def labLines (many at' : Nat) : List (List UInt8) := if at' = many then List.replicate many nopL ++ [hereJ, jalL] else List.replicate at' nopL ++ hereL :: (List.replicate (many - at') nopL ++ [jmpL, jalL])
theorem jal_nl : splitC 10 jalL = [jalL] := by decide
theorem labSrc_split {many at' : Nat} (h : at' ≤ many) : splitC 10 (labSrc many at') = labLines many at' := by
  have hn : NoNl nopL := nl_d (by decide)
  by_cases ha : at' = many
  · subst ha
    have e1 : cat (labF at') at' = unlines (List.replicate at' nopL) := cat_lines _ fun i hi => by simp [labF]; omega
    rw [labSrc, labLines, if_pos rfl, if_pos rfl, e1, List.append_assoc, split_unlines _ _ (nl_rep hn _)]
    congr 1
  · have e0 : at' + (1 + (many - at' - 1)) = many := by omega
    have e1 : cat (labF at') many = unlines (List.replicate at' nopL ++ hereL :: List.replicate (many - at') nopL) := by
      have := cat_add (labF at') at' (1 + (many - at' - 1))
      rw [e0, cat_add _ 1, cat_one] at this
      rw [this, cat_lines (c := nopL) at' (fun i hi => by simp [labF]; omega), cat_lines (c := nopL) (many - at' - 1) (fun i hi => by simp [labF])]
      rw [unlines_app, unlines_cons, show many - at' = (many - at' - 1) + 1 by omega, List.replicate_succ, unlines_cons, show many - at' - 1 + 1 - 1 = many - at' - 1 by omega]
      simp [labF]
    rw [labSrc, labLines, if_neg ha, if_neg ha, e1, List.append_nil, split_unlines _ _ (fun l hl => by
      rcases List.mem_append.1 hl with hl | hl
      · exact nl_rep hn _ l hl
      · rcases List.mem_cons.1 hl with rfl | hl
        · exact nl_d (by decide)
        · exact nl_rep hn _ l hl)]
    rw [show splitC 10 (jmpL ++ [10] ++ jalL) = [jmpL, jalL] by decide]
    simp
theorem labF_len (at' : Nat) : ∀ n, (cat (labF at') n).length ≤ 10 * n
  | 0 => by simp [cat]
  | n + 1 => by
    have := labF_len at' n
    simp only [cat, labF, List.length_append]
    split <;> simp [hereL, nopL] <;> omega
def jmpI (n : Int) (l : List UInt8) : Item := ⟨n, ⟨14, 0, 0, 0, 0⟩, (0, l), false, 0⟩
def jalI (n : Int) (l : List UInt8) : Item := ⟨n, ⟨15, 3, 0, 0, 0⟩, (0, l), false, 0⟩
theorem here_scan : scan hereL = some [.name hereN, .sign 58] := by decide
theorem here_line (n : Int) : line ⟨[.name hereN, .sign 58], false, false⟩ n = (hereN, none, ⟨[], false, false⟩) := by
  have : isMn hereN = false := by decide
  simp [line, lineLabel, this]
def jmpN : List UInt8 := [106, 109, 112]
def jalN : List UInt8 := [106, 97, 108]
theorem jmp_scan : scan jmpL = some [.name jmpN, .name hereN] := by decide
theorem jal_scan : scan jalL = some [.name jalN, .reg 3, .sign 44, .name hereN] := by decide
theorem hereJ_scan : scan hereJ = some [.name hereN, .sign 58, .name jmpN, .name hereN] := by decide
theorem item_jmp (n : Int) (l : List UInt8) (h : isMn l = false) : lineItem n ⟨[.name jmpN, .name l], false, false⟩ = .inl (jmpI n l, ⟨[], false, false⟩) := by
  have h1 : opOf jmpN = 14 := by decide
  have h2 : jmpN ≠ wordL := by decide
  have hk : kind 14 = [105] := by decide
  have hm : isMem 14 = false := by decide
  simp [lineItem, Rd.next, h2, h1, operands_form hk, hm, opGo, opStep, sepOf, letter, Rd.value, jmpI, h]
theorem item_jal (n : Int) (l : List UInt8) (h : isMn l = false) : lineItem n ⟨[.name jalN, .reg 3, .sign 44, .name l], false, false⟩ = .inl (jalI n l, ⟨[], false, false⟩) := by
  have h1 : opOf jalN = 15 := by decide
  have h2 : jalN ≠ wordL := by decide
  have hk : kind 15 = [97, 105] := by decide
  have hm : isMem 15 = false := by decide
  simp [lineItem, Rd.next, h2, h1, operands_form hk, hm, opGo, opStep, sepOf, letter, Rd.value, Rd.reg, Rd.sign, jalI, h]
theorem jmp_line (n : Int) (l : List UInt8) (h : isMn l = false) : line ⟨[.name jmpN, .name l], false, false⟩ n = ([], some (jmpI n l), ⟨[], false, false⟩) := by
  simp [line, lineLabel, item_jmp n l h, left]
theorem jal_line (n : Int) (l : List UInt8) (h : isMn l = false) : line ⟨[.name jalN, .reg 3, .sign 44, .name l], false, false⟩ n = ([], some (jalI n l), ⟨[], false, false⟩) := by
  simp [line, lineLabel, item_jal n l h, left]
theorem hereJ_line (n : Int) : line ⟨[.name hereN, .sign 58, .name jmpN, .name hereN], false, false⟩ n = (hereN, some (jmpI n hereN), ⟨[], false, false⟩) := by
  have h : isMn hereN = false := by decide
  simp [line, lineLabel, h, item_jmp n hereN h, left]
theorem labels_read {many at' : Nat} (h : at' ≤ many) : ∃ items n m, read (labSrc many at') = .inl ⟨items ++ [jmpI n hereN, jalI m hereN], [(hereN, at')], 0⟩ ∧ items.length = many ∧ ∀ base q more acc, wordsGo base q (items ++ more) acc = wordsGo base q more (acc ++ List.replicate many nopW) := by
  have hh : isMn hereN = false := by decide
  rw [read, labSrc_split h, labLines]
  by_cases ha : at' = many
  · subst ha
    rw [if_pos rfl]
    obtain ⟨items, h1, h2, h3⟩ := readGo_says (says_nop |> fun s => Says2.rep s at') 0 [hereJ, jalL] ⟨[], [], 0⟩
    rw [h1, readGo_step hereJ_scan (hereJ_line _), readGo_step jal_scan (jal_line _ _ hh), readGo]
    simp only [List.length_replicate] at h2
    refine ⟨items, ((0 + (List.replicate at' nopL).length + 1 : Nat) : Int), ((0 + (List.replicate at' nopL).length + 1 + 1 : Nat) : Int), ?_, h2, h3⟩
    simp [addLabel, addItem, mget, hereN, h2]
  · rw [if_neg ha]
    obtain ⟨items, h1, h2, h3⟩ := readGo_says (says_nop |> fun s => Says2.rep s at') 0 (hereL :: (List.replicate (many - at') nopL ++ [jmpL, jalL])) ⟨[], [], 0⟩
    simp only [List.length_replicate] at h2
    rw [h1, readGo_step here_scan (here_line _)]
    obtain ⟨items2, i1, i2, i3⟩ := readGo_says (says_nop |> fun s => Says2.rep s (many - at')) (0 + (List.replicate at' nopL).length + 1) [jmpL, jalL] (addItem (addLabel ⟨[] ++ items, [], 0⟩ hereN (0 + (List.replicate at' nopL).length + 1)) none)
    simp only [List.length_replicate] at i2
    rw [i1, readGo_step jmp_scan (jmp_line _ _ hh), readGo_step jal_scan (jal_line _ _ hh), readGo]
    refine ⟨items ++ items2, ((0 + (List.replicate at' nopL).length + 1 + (List.replicate (many - at') nopL).length + 1 : Nat) : Int), ((0 + (List.replicate at' nopL).length + 1 + (List.replicate (many - at') nopL).length + 1 + 1 : Nat) : Int), ?_, by simp [h2, i2]; omega, fun base q more acc => ?_⟩
    · simp [addLabel, addItem, mget, hereN, h2]
    · rw [List.append_assoc, h3, i3, List.append_assoc, List.replicate_append_replicate, show at' + (many - at') = many by omega]
theorem assemble_labels {base : Int} {many at' : Nat} (hb : 0 ≤ base) (hb2 : base ≤ 60000) (hm : many ≤ 100) (h : at' ≤ many) : assemble base (labSrc many at') = (List.replicate many nopW ++ [jmpW (base + 4 * at'), jalW (base + 4 * at')], 0, 0) := by
  obtain ⟨items, n, m, h1, h2, h3⟩ := labels_read h
  have hl : (labSrc many at').length ≤ 4000 := by
    have := labF_len at' many
    simp only [labSrc, List.length_append]
    split <;> simp [jmpL, jalL] <;> omega
  have hg : mget [(hereN, at')] hereN = some at' := by simp [mget]
  rw [assemble, if_neg (by omega), if_neg (by omega), h1]
  simp only
  rw [if_neg (by omega), h3]
  simp only [wordsGo, jmpI, jalI]
  rw [jmp_word (by decide) hg hb (by omega)]
  simp only
  rw [jal_word (by decide) hg hb (by omega)]
  simp
/-! ### AsmBase -/
def firstN : List UInt8 := [102, 105, 114, 115, 116]
def firstL : List UInt8 := [102, 105, 114, 115, 116, 58]
def jmpF : List UInt8 := [106, 109, 112, 32, 102, 105, 114, 115, 116]
def baseF (_ : Nat) : List UInt8 := nopL ++ [10] ++ (jmpF ++ [10])
def baseSrc (many : Nat) : List UInt8 := firstL ++ [10] ++ cat baseF many
def baseLines : Nat → List (List UInt8)
  | 0 => []
  | n + 1 => baseLines n ++ [nopL, jmpF]
theorem cat_base : ∀ n, cat baseF n = unlines (baseLines n)
  | 0 => rfl
  | n + 1 => by rw [cat, baseLines, unlines_app, cat_base n]; simp [baseF, unlines]
theorem base_nl : ∀ n, ∀ l ∈ baseLines n, NoNl l
  | 0, l, h => by cases h
  | n + 1, l, h => by
    rw [baseLines] at h
    rcases List.mem_append.1 h with h | h
    · exact base_nl n l h
    · simp only [List.mem_cons, List.not_mem_nil, or_false] at h
      rcases h with rfl | rfl <;> exact nl_d (by decide)
theorem base_split (many : Nat) : splitC 10 (baseSrc many) = firstL :: (baseLines many ++ [[]]) := by
  have := split_unlines (baseLines many) [] (base_nl many)
  rw [List.append_nil] at this
  rw [baseSrc, cat_base, List.append_assoc, List.cons_append, List.nil_append, split_nl (nl_d (by decide)), this]; rfl
def baseWords (base : Int) : Nat → List Int
  | 0 => []
  | n + 1 => baseWords base n ++ [nopW, jmpW base]
theorem jmpF_scan : scan jmpF = some [.name jmpN, .name firstN] := by decide
theorem first_scan : scan firstL = some [.name firstN, .sign 58] := by decide
theorem first_line (n : Int) : line ⟨[.name firstN, .sign 58], false, false⟩ n = (firstN, none, ⟨[], false, false⟩) := by
  have : isMn firstN = false := by decide
  simp [line, lineLabel, this]
theorem base_read : ∀ (many k : Nat) (rest : List (List UInt8)) (p : Pg), p.labels = [(firstN, 0)] → ∃ items : List Item, readGo k (baseLines many ++ rest) p = readGo (k + (baseLines many).length) rest { p with items := p.items ++ items } ∧
    ∀ base q more acc, 0 ≤ base → base < 65536 → mget q.labels firstN = some 0 → wordsGo base q (items ++ more) acc = wordsGo base q more (acc ++ baseWords base many)
  | 0, k, rest, p, _ => ⟨[], by simp [baseLines], by simp [baseWords]⟩
  | n + 1, k, rest, p, hp => by
    obtain ⟨items, h1, h2⟩ := base_read n k (nopL :: jmpF :: rest) p hp
    rw [baseLines, List.append_assoc, List.cons_append, List.cons_append, List.nil_append, h1, readGo_step nop_scan (nop_line _), readGo_step jmpF_scan (jmp_line _ _ (by decide))]
    refine ⟨items ++ [nopI ((k + (baseLines n).length + 1 : Nat) : Int), jmpI ((k + (baseLines n).length + 1 + 1 : Nat) : Int) firstN], ?_, fun base q more acc hb hb2 hg => ?_⟩
    · simp [addLabel, addItem]; rfl
    · rw [List.append_assoc, h2 base q _ _ hb hb2 hg]
      simp only [List.cons_append, List.nil_append, wordsGo, nop_word, jmpI]
      rw [jmp_word (by decide) hg hb (by omega)]
      simp [baseWords]
theorem baseF_len : ∀ n, (cat baseF n).length = 14 * n
  | 0 => by simp [cat]
  | n + 1 => by
    have := baseF_len n
    simp only [cat, List.length_append, this]
    simp [baseF, nopL, jmpF]; omega
theorem assemble_base {base : Int} {many : Nat} (hb : 0 ≤ base) (hb2 : base < 65536) (hm : many ≤ 60) : assemble base (baseSrc many) = (baseWords base many, 0, 0) := by
  have hl : (baseSrc many).length ≤ 4000 := by
    have := baseF_len many
    simp only [baseSrc, List.length_append, this]; simp [firstL]; omega
  rw [assemble, if_neg (by omega), if_neg (by omega), read, base_split, readGo_step first_scan (first_line _)]
  obtain ⟨items, h1, h2⟩ := base_read many 1 [[]] ⟨[], [(firstN, 0)], 0⟩ rfl
  have e : addItem (addLabel ⟨[], [], 0⟩ firstN (0 + 1)) none = ⟨[], [(firstN, 0)], 0⟩ := rfl
  rw [e, h1, readGo_last]
  simp only
  rw [if_neg (by omega)]
  have := h2 base { items := [] ++ items, labels := [(firstN, 0)], double := 0 } [] [] hb hb2 (by simp [mget])
  simp only [List.append_nil, List.nil_append, wordsGo] at this ⊢
  rw [this]
end Am
end Go.Proofs.YtgppllppddaodaaGreatDoor

/-
  Wrong lines; labels that stand twice.
-/
namespace Go.Proofs.YtgppllppddaodaaGreatDoor
namespace Am
open Go
def wrongL : List (List UInt8) := [[109, 111, 118, 105, 32, 114, 49, 44, 32, 82], [110, 111, 112, 32, 110, 111, 112], [109, 111, 118, 105, 32, 114, 49, 54, 44, 32, 48], [106, 109, 112, 32, 97, 119, 97, 121], [109, 111, 118, 105, 32, 114, 49, 54, 32, 48], [110, 111, 112, 58, 32, 110, 111, 112], [97, 98, 99, 100, 101, 102, 103, 104, 105, 106, 107, 108, 109, 58, 32, 110, 111, 112], [109, 111, 118, 105, 32, 114, 49, 44, 32, 48, 48, 49, 50], [109, 111, 118, 105, 32, 114, 48, 48, 49, 50, 44, 32, 49], [109, 111, 118, 105, 32, 114, 49, 44, 32, 55, 48, 48, 48, 48], [119, 111, 114, 100, 32, 52, 50, 57, 52, 57, 54, 55, 50, 57, 54], [108, 100, 114, 32, 114, 49, 44, 32, 91, 114, 50, 93], [98, 101, 113, 32, 114, 49, 44, 32, 114, 50], [109, 111, 118, 105, 32, 114, 49, 44, 32, 48, 120, 49, 50, 51, 52, 53, 54, 55, 56, 57], [119, 111, 114, 100, 32, 120], [106, 109, 112, 32, 114, 49]]
def errL : List Int := [60, 61, 63, 62, 61, 61, 60, 60, 60, 63, 63, 61, 61, 60, 61, 61]
def wrongAt (k : Nat) : List UInt8 := wrongL.getD k []
def firstF (at' k : Nat) (i : Nat) : List UInt8 := (if i = at' then wrongAt k ++ [10] else []) ++ (fineL ++ [10])
def firstSrc (many at' k : Nat) : List UInt8 := cat (firstF at' k) many ++ (if many = at' then wrongAt k ++ [10] else [])
theorem wrong_nl_n : ∀ k, k < 16 → (wrongAt k).all (fun c => decide (c ≠ 10)) = true := by decide
theorem wrong_len_n : ∀ k, k < 16 → (wrongAt k).length ≤ 30 := by decide
theorem firstSrc_lines {many at' k : Nat} (h : at' ≤ many) : firstSrc many at' k = unlines (List.replicate at' fineL ++ wrongAt k :: List.replicate (many - at') fineL) := by
  by_cases ha : many = at'
  · subst ha
    rw [firstSrc, if_pos rfl, cat_lines (c := fineL) many (fun i hi => by simp [firstF]; omega), unlines_app]
    simp [unlines]
  · have e0 : at' + (1 + (many - at' - 1)) = many := by omega
    have := cat_add (firstF at' k) at' (1 + (many - at' - 1))
    rw [e0, cat_add _ 1, cat_one] at this
    rw [firstSrc, if_neg ha, this, cat_lines (c := fineL) at' (fun i hi => by simp [firstF]; omega), cat_lines (c := fineL) (many - at' - 1) (fun i hi => by simp [firstF])]
    rw [unlines_app, unlines_cons, show many - at' = (many - at' - 1) + 1 by omega, List.replicate_succ, unlines_cons, show many - at' - 1 + 1 - 1 = many - at' - 1 by omega]
    simp [firstF]
theorem fine_nl : NoNl fineL := nl_d (by decide)
theorem first_split {many at' k : Nat} (h : at' ≤ many) (hk : k < 16) : splitC 10 (firstSrc many at' k) = List.replicate at' fineL ++ wrongAt k :: (List.replicate (many - at') fineL ++ [[]]) := by
  have := split_unlines (List.replicate at' fineL ++ wrongAt k :: List.replicate (many - at') fineL) [] (fun l hl => by
      rcases List.mem_append.1 hl with hl | hl
      · exact nl_rep fine_nl _ l hl
      · rcases List.mem_cons.1 hl with rfl | hl
        · exact nl_d (wrong_nl_n k hk)
        · exact nl_rep fine_nl _ l hl)
  rw [List.append_nil] at this
  rw [firstSrc_lines h, this]
  simp [splitC]
theorem firstSrc_len {many at' k : Nat} (h : at' ≤ many) (hk : k < 16) : (firstSrc many at' k).length ≤ (many + 1) * 31 := by
  rw [firstSrc_lines h]
  have := unlines_len (m := 30) (List.replicate at' fineL ++ wrongAt k :: List.replicate (many - at') fineL) (fun l hl => by
      rcases List.mem_append.1 hl with hl | hl
      · rw [List.mem_replicate] at hl; rw [hl.2]; decide
      · rcases List.mem_cons.1 hl with rfl | hl
        · exact wrong_len_n k hk
        · rw [List.mem_replicate] at hl; rw [hl.2]; decide)
  simp only [List.length_append, List.length_cons, List.length_replicate] at this
  rwa [show at' + (many - at' + 1) = many + 1 by omega] at this
/-- What a wrong line is told by, ahead of labels. -/
def told (s : List UInt8) : Option Int := match scan s with
  | none => some 60
  | some ts => let r := line ⟨ts, false, false⟩ 0
    if r.2.2.syn then some 61 else if r.2.2.rng then some 63 else none
/-- The line's number changes no reading. -/
theorem line_num (ts : List Tok) (n m : Int) : (line ⟨ts, false, false⟩ n).2.2 = (line ⟨ts, false, false⟩ m).2.2 := by
  simp only [line]
  generalize lineLabel ⟨ts, false, false⟩ = q
  obtain ⟨lab, r⟩ := q
  simp only
  by_cases he : r.ts.isEmpty = true
  · rw [if_pos he, if_pos he]
  · rw [if_neg he, if_neg he]
    simp only [lineItem]
    generalize r.next = q2
    obtain ⟨t, r1⟩ := q2
    generalize r1.next = q3
    obtain ⟨t3, r3⟩ := q3
    have key : ∀ (w : List UInt8), (match (if w = wordL then (match (t3, r3) with
          | (some (Tok.num m), r2) => (Sum.inl ((⟨n, ⟨0, 0, 0, 0, 0⟩, (0, []), true, ((m % 4294967296 : Nat) : Int)⟩ : Item), { r2 with rng := decide (m ≥ 4294967296) }) : Item × Rd ⊕ Rd)
          | (_, r2) => .inl (⟨n, ⟨0, 0, 0, 0, 0⟩, (0, []), true, 0⟩, { r2 with syn := true, rng := false }))
        else if 0 < opOf w then .inl (⟨n, (operands r1 (opOf w)).i, (operands r1 (opOf w)).v, false, 0⟩, (operands r1 (opOf w)).r) else .inr { r1 with syn := true }) with
        | .inl (it, r2) => (lab, some it, left r2) | .inr r2 => (lab, none, left r2)).2.2 = (match (if w = wordL then (match (t3, r3) with
          | (some (Tok.num k), r2) => (Sum.inl ((⟨m, ⟨0, 0, 0, 0, 0⟩, (0, []), true, ((k % 4294967296 : Nat) : Int)⟩ : Item), { r2 with rng := decide (k ≥ 4294967296) }) : Item × Rd ⊕ Rd)
          | (_, r2) => .inl (⟨m, ⟨0, 0, 0, 0, 0⟩, (0, []), true, 0⟩, { r2 with syn := true, rng := false }))
        else if 0 < opOf w then .inl (⟨m, (operands r1 (opOf w)).i, (operands r1 (opOf w)).v, false, 0⟩, (operands r1 (opOf w)).r) else .inr { r1 with syn := true }) with
        | .inl (it, r2) => (lab, some it, left r2) | .inr r2 => (lab, none, left r2)).2.2 := by
      intro w
      by_cases hw : w = wordL
      · rw [if_pos hw, if_pos hw]
        cases t3 with
        | none => rfl
        | some t3 => cases t3 <;> rfl
      · rw [if_neg hw, if_neg hw]
        by_cases ho : 0 < opOf w
        · rw [if_pos ho, if_pos ho]
        · rw [if_neg ho, if_neg ho]
    cases t with
    | none => exact key []
    | some t => cases t with
      | name l => exact key l
      | _ => exact key []
theorem readGo_told {k : Nat} {s : List UInt8} {ls : List (List UInt8)} {p : Pg} {e : Int} (h : told s = some e) : readGo k (s :: ls) p = .inr (k + 1, e) := by
  unfold told at h
  rw [readGo]
  cases hs : scan s with
  | none => rw [hs] at h; simp only [Option.some.injEq] at h; rw [h]
  | some ts =>
    rw [hs] at h
    simp only at h ⊢
    rw [line_num ts ((k + 1 : Nat) : Int) 0]
    split at h
    · rename_i h1; rw [if_pos h1]; simp only [Option.some.injEq] at h; rw [h]
    · rename_i h1
      rw [if_neg h1]
      split at h
      · rename_i h2; rw [if_pos h2]; simp only [Option.some.injEq] at h; rw [h]
      · cases h
set_option maxRecDepth 100000 in
theorem wrong_told_n : ∀ k, k < 16 → k ≠ 3 → told (wrongAt k) = some (errL.getD k 0) := by
  intro k hk h3
  have : (List.range 16).all (fun k => decide (k = 3) || decide (told (wrongAt k) = some (errL.getD k 0))) = true := by kernel_rfl
  have := List.all_eq_true.1 this k (List.mem_range.2 hk)
  simpa [h3] using this
def awayN : List UInt8 := [97, 119, 97, 121]
theorem away_scan : scan (wrongAt 3) = some [.name jmpN, .name awayN] := by decide
theorem assemble_first {many at' k : Nat} (hm : many ≤ 100) (h : at' ≤ many) (hk : k < 16) : assemble 0 (firstSrc many at' k) = ([], ((at' + 1 : Nat) : Int), errL.getD k 0) := by
  have hl := firstSrc_len h hk
  rw [assemble, if_neg (by omega), if_neg (by omega), read, first_split h hk]
  obtain ⟨items, h1, h2, h3⟩ := readGo_says (says_fine |> fun s => Says2.rep s at') 0 (wrongAt k :: (List.replicate (many - at') fineL ++ [[]])) ⟨[], [], 0⟩
  rw [h1]
  simp only [List.length_replicate, Nat.zero_add]
  by_cases hk3 : k = 3
  · subst hk3
    have ha : isMn awayN = false := by decide
    rw [readGo_step away_scan (jmp_line _ _ ha)]
    obtain ⟨items2, i1, i2, i3⟩ := readGo_says (says_fine |> fun s => Says2.rep s (many - at')) (at' + 1) [[]] (addItem (addLabel ⟨[] ++ items, [], 0⟩ [] (at' + 1)) (some (jmpI ((at' + 1 : Nat) : Int) awayN)))
    rw [i1, readGo_last]
    simp only [addLabel_nil, addItem]
    rw [if_neg (by omega)]
    have := h3 0 { items := [] ++ items ++ [jmpI ((at' + 1 : Nat) : Int) awayN] ++ items2, labels := [], double := 0 } ([jmpI ((at' + 1 : Nat) : Int) awayN] ++ items2) []
    simp only [List.nil_append, List.append_assoc, List.cons_append] at this ⊢
    rw [this, wordsGo]
    simp [itemWord, jmpI, awayN, mget, errL]
  · rw [readGo_told (wrong_told_n k hk hk3)]
/-! ### AsmTwice -/
def lettersL : List UInt8 := [97, 98, 99, 100, 101, 102, 103, 104, 105, 106, 107, 108, 109, 110, 111, 112, 113, 114, 115, 116]
def nameL (long : Nat) : List UInt8 := lettersL.take long
def labL (long : Nat) : List UInt8 := nameL long ++ [58, 32] ++ nopL
def oneF (first long : Nat) (i : Nat) : List UInt8 := (if i = first then nameL long ++ [58, 32] else []) ++ (nopL ++ [10])
def twoF (first second long : Nat) (i : Nat) : List UInt8 := (if i = first then nameL long ++ [58, 32] else []) ++ (if i = second then nameL long ++ [58, 32] else []) ++ (nopL ++ [10])
theorem lab_nl_n : ∀ k, k < 21 → (labL k).all (fun c => decide (c ≠ 10)) = true := by decide
theorem lab_len_n : ∀ k, k < 21 → (labL k).length ≤ 30 := by decide
theorem one_lines {many first long : Nat} (h : first < many) : cat (oneF first long) many = unlines (List.replicate first nopL ++ labL long :: List.replicate (many - first - 1) nopL) := by
  have e0 : first + (1 + (many - first - 1)) = many := by omega
  have := cat_add (oneF first long) first (1 + (many - first - 1))
  rw [e0, cat_add _ 1, cat_one] at this
  rw [this, cat_lines (c := nopL) first (fun i hi => by simp [oneF]; omega), cat_lines (c := nopL) (many - first - 1) (fun i hi => by simp [oneF])]
  rw [unlines_app, unlines_cons]
  simp [oneF, labL]
theorem two_lines {many first second long : Nat} (h : first < second) (h2 : second < many) : cat (twoF first second long) many = unlines (List.replicate first nopL ++ labL long :: (List.replicate (second - first - 1) nopL ++ labL long :: List.replicate (many - second - 1) nopL)) := by
  have e0 : first + (1 + ((second - first - 1) + (1 + (many - second - 1)))) = many := by omega
  have := cat_add (twoF first second long) first (1 + ((second - first - 1) + (1 + (many - second - 1))))
  rw [e0, cat_add _ 1, cat_one, cat_add _ (second - first - 1), cat_add _ 1, cat_one] at this
  rw [this, cat_lines (c := nopL) first (fun i hi => by
    have q1 : ¬ (i = first) := by omega
    have q2 : ¬ (i = second) := by omega
    simp only [twoF, q1, q2, if_false, List.nil_append]), cat_lines (c := nopL) (second - first - 1) (fun i hi => by
    have q1 : ¬ (first + (1 + i) = first) := by omega
    have q2 : ¬ (first + (1 + i) = second) := by omega
    simp only [twoF, q1, q2, if_false, List.nil_append]), cat_lines (c := nopL) (many - second - 1) (fun i hi => by
    have q1 : ¬ (first + (1 + (second - first - 1 + (1 + i))) = first) := by omega
    have q2 : ¬ (first + (1 + (second - first - 1 + (1 + i))) = second) := by omega
    simp only [twoF, q1, q2, if_false, List.nil_append])]
  rw [unlines_app, unlines_cons, unlines_app, unlines_cons]
  have e1 : first + (1 + (second - first - 1 + 0)) = second := by omega
  have e2 : first ≠ second := by omega
  have e3 : first + (1 + (second - first - 1)) = second := by omega
  simp only [twoF, Nat.add_zero, e3]
  simp [labL, e2, e2.symm]
theorem nop_nl : NoNl nopL := nl_d (by decide)
theorem lab_scan_n : ∀ k, k < 13 → 1 ≤ k → scan (labL k) = some [.name (nameL k), .sign 58, .name nopL] := by decide
theorem lab_long_n : ∀ k, k < 21 → 12 < k → scan (labL k) = none := by decide
theorem name_mn_n : ∀ k, k < 13 → 1 ≤ k → isMn (nameL k) = false ∧ nameL k ≠ [] := by decide
theorem lab_line (n : Int) {k : Nat} (h : isMn (nameL k) = false) : line ⟨[.name (nameL k), .sign 58, .name nopL], false, false⟩ n = (nameL k, some (nopI n), ⟨[], false, false⟩) := by
  have h1 : lineItem n ⟨[.name nopL], false, false⟩ = .inl (nopI n, ⟨[], false, false⟩) := by
    have h1 : opOf nopL = 25 := by decide
    have h2 : nopL ≠ wordL := by decide
    have hk : kind 25 = [45] := by decide
    have hm : isMem 25 = false := by decide
    simp [lineItem, Rd.next, h2, h1, operands_form hk, hm, opGo, opStep, sepOf, letter, nopI]
  simp [line, lineLabel, h, h1, left]
theorem lab_told {k : Nat} (h : k < 21) (h2 : 12 < k) : told (labL k) = some 60 := by rw [told, lab_long_n k h h2]
theorem twice_lens {m : Nat} (ls : List (List UInt8)) (h : ls.length ≤ 101) (hl : ∀ l ∈ ls, l = nopL ∨ l = labL m) (hm : m < 21) : (unlines ls).length ≤ 4000 ∧ ∀ l ∈ ls, NoNl l := by
  constructor
  · have := unlines_len (m := 30) ls (fun l hh => by
      rcases hl l hh with rfl | rfl
      · decide
      · exact lab_len_n m hm)
    have h2 : ls.length * (30 + 1) ≤ 101 * 31 := Nat.mul_le_mul h (by omega)
    omega
  · intro l hh
    rcases hl l hh with rfl | rfl
    · exact nop_nl
    · exact nl_d (lab_nl_n m hm)
theorem mem_rep {n : Nat} {s l : List UInt8} (h : l ∈ List.replicate n s) : l = s := (List.mem_replicate.1 h).2
theorem assemble_one {many first long : Nat} (hm : many ≤ 100) (h : first < many) (hl : long < 21) (h1 : 1 ≤ long) : assemble 0 (cat (oneF first long) many) = if 12 < long then ([], ((first + 1 : Nat) : Int), 60) else (List.replicate many nopW, 0, 0) := by
  obtain ⟨len, nl⟩ := twice_lens (m := long) (List.replicate first nopL ++ labL long :: List.replicate (many - first - 1) nopL) (by simp; omega) (fun l hh => by
    rcases List.mem_append.1 hh with hh | hh
    · exact .inl (mem_rep hh)
    · rcases List.mem_cons.1 hh with rfl | hh
      · exact .inr rfl
      · exact .inl (mem_rep hh)) hl
  have hs := split_unlines _ [] nl
  rw [List.append_nil] at hs
  rw [one_lines h, assemble, if_neg (by omega), if_neg (by omega), read, hs]
  rw [List.append_assoc, List.cons_append]
  obtain ⟨items, r1, r2, r3⟩ := readGo_says (says_nop |> fun s => Says2.rep s first) 0 (labL long :: (List.replicate (many - first - 1) nopL ++ splitC 10 [])) ⟨[], [], 0⟩
  rw [r1]
  simp only [List.length_replicate, Nat.zero_add]
  by_cases h12 : 12 < long
  · rw [readGo_told (lab_told hl h12), if_pos h12]
  · obtain ⟨m1, m2⟩ := name_mn_n long (by omega) h1
    rw [readGo_step (lab_scan_n long (by omega) h1) (lab_line _ m1), if_neg h12]
    obtain ⟨items2, i1, i2, i3⟩ := readGo_says (says_nop |> fun s => Says2.rep s (many - first - 1)) (first + 1) (splitC 10 []) (addItem (addLabel ⟨[] ++ items, [], 0⟩ (nameL long) (first + 1)) (some (nopI ((first + 1 : Nat) : Int))))
    rw [i1, show splitC 10 [] = [[]] from rfl, readGo_last]
    simp only [addLabel, m2, mget, addItem, if_false, List.find?_nil, Option.map_none, Option.isSome_none]
    simp only [List.nil_append, Bool.false_eq_true, if_false]
    rw [if_neg (by omega)]
    have a1 := r3 0 { items := items ++ [nopI ((first + 1 : Nat) : Int)] ++ items2, labels := [(nameL long, items.length)], double := 0 } ([nopI ((first + 1 : Nat) : Int)] ++ (items2 ++ [])) []
    rw [List.cons_append, List.nil_append, wordsGo, nop_word] at a1
    simp only at a1
    rw [i3, wordsGo] at a1
    simp only [List.append_assoc, List.cons_append, List.nil_append, List.append_nil] at a1 ⊢
    rw [a1]
    have : List.replicate first nopW ++ nopW :: List.replicate (many - first - 1) nopW = List.replicate many nopW := by
      rw [← List.replicate_succ, List.replicate_append_replicate, show first + (many - first - 1 + 1) = many by omega]
    rw [this]
theorem assemble_two {many first second long : Nat} (hm : many ≤ 100) (h : first < second) (h2 : second < many) (hl : long < 21) (h1 : 1 ≤ long) : assemble 0 (cat (twoF first second long) many) = if 12 < long then ([], ((first + 1 : Nat) : Int), 60) else ([], ((second + 1 : Nat) : Int), 62) := by
  obtain ⟨len, nl⟩ := twice_lens (m := long) (List.replicate first nopL ++ labL long :: (List.replicate (second - first - 1) nopL ++ labL long :: List.replicate (many - second - 1) nopL)) (by simp; omega) (fun l hh => by
    rcases List.mem_append.1 hh with hh | hh
    · exact .inl (mem_rep hh)
    · rcases List.mem_cons.1 hh with rfl | hh
      · exact .inr rfl
      · rcases List.mem_append.1 hh with hh | hh
        · exact .inl (mem_rep hh)
        · rcases List.mem_cons.1 hh with rfl | hh
          · exact .inr rfl
          · exact .inl (mem_rep hh)) hl
  have hs := split_unlines _ [] nl
  rw [List.append_nil] at hs
  rw [two_lines h h2, assemble, if_neg (by omega), if_neg (by omega), read, hs]
  rw [List.append_assoc, List.cons_append, List.append_assoc, List.cons_append]
  obtain ⟨items, r1, r2, r3⟩ := readGo_says (says_nop |> fun s => Says2.rep s first) 0 (labL long :: (List.replicate (second - first - 1) nopL ++ labL long :: (List.replicate (many - second - 1) nopL ++ splitC 10 []))) ⟨[], [], 0⟩
  rw [r1]
  simp only [List.length_replicate, Nat.zero_add]
  by_cases h12 : 12 < long
  · rw [readGo_told (lab_told hl h12), if_pos h12]
  · obtain ⟨m1, m2⟩ := name_mn_n long (by omega) h1
    rw [readGo_step (lab_scan_n long (by omega) h1) (lab_line _ m1), if_neg h12]
    obtain ⟨items2, i1, i2, i3⟩ := readGo_says (says_nop |> fun s => Says2.rep s (second - first - 1)) (first + 1) (labL long :: (List.replicate (many - second - 1) nopL ++ splitC 10 [])) (addItem (addLabel ⟨[] ++ items, [], 0⟩ (nameL long) (first + 1)) (some (nopI ((first + 1 : Nat) : Int))))
    rw [i1, readGo_step (lab_scan_n long (by omega) h1) (lab_line _ m1)]
    simp only [List.length_replicate]
    obtain ⟨items3, j1, j2, j3⟩ := readGo_says (says_nop |> fun s => Says2.rep s (many - second - 1)) (first + 1 + (second - first - 1) + 1) (splitC 10 []) (addItem (addLabel { (addItem (addLabel ⟨[] ++ items, [], 0⟩ (nameL long) (first + 1)) (some (nopI ((first + 1 : Nat) : Int)))) with items := (addItem (addLabel ⟨[] ++ items, [], 0⟩ (nameL long) (first + 1)) (some (nopI ((first + 1 : Nat) : Int)))).items ++ items2 } (nameL long) (first + 1 + (second - first - 1) + 1)) (some (nopI ((first + 1 + (second - first - 1) + 1 : Nat) : Int))))
    rw [j1, show splitC 10 [] = [[]] from rfl, readGo_last]
    have e1 : first + 1 + (second - first - 1) + 1 = second + 1 := by omega
    rw [e1]
    simp [addLabel, addItem, m2, mget]
end Am
end Go.Proofs.YtgppllppddaodaaGreatDoor

/-
  Blanks and remarks change nothing.
-/
namespace Go.Proofs.YtgppllppddaodaaGreatDoor
namespace Am
open Go
def remT : List UInt8 := [32, 59, 32, 120, 58, 32, 121]
/-- A source with blanks put in; wd: at which places. -/
def blF (wd : Nat → Bool) : Nat → Bool → List UInt8 → List UInt8
  | _, _, [] => []
  | i, rem, c :: l =>
    let rem2 := if c.toNat = 59 then true else if c.toNat = 10 then false else rem
    let wide := !rem2 && isSign c && wd i
    (if c.toNat = 10 then remT else []) ++ ((if wide then [32, 32] else []) ++ ([c] ++ ((if wide then [32] else []) ++ blF wd (i + 1) rem2 l)))
def SameScan (t s : List UInt8) : Prop := ∀ cur acc, scanGo (cutR t) cur acc = scanGo (cutR s) cur acc
theorem cutR_cons {c : UInt8} (h : c ≠ 59) (l : List UInt8) : cutR (c :: l) = c :: cutR l := by
  unfold cutR; rw [List.takeWhile_cons, if_pos (by simpa using h)]
theorem cutR_hit (l : List UInt8) : cutR (59 :: l) = [] := by
  unfold cutR; rw [List.takeWhile_cons, if_neg (by simp)]
theorem cutR_nil : cutR [] = [] := rfl
theorem endW_nil (acc : List Tok) : endW [] acc = some acc := by simp [endW]
theorem blank_end (cur : List UInt8) (acc : List Tok) : scanGo [32] cur acc = scanGo [] cur acc := by
  rw [scanGo.eq_2, if_neg (by decide), scanGo.eq_1]
  cases h : endW cur acc with
  | none => rfl
  | some a => simp [scanGo, isSign, signL, endW_nil]
theorem blank_any (l cur : List UInt8) (acc : List Tok) : scanGo (32 :: l) cur acc = (match endW cur acc with | none => none | some a => scanGo l [] a) := by
  rw [scanGo, if_neg (by decide)]
  cases h : endW cur acc with
  | none => rfl
  | some a => simp [isSign, signL]
theorem wide_scan {c : UInt8} (h : isSign c = true) (l cur : List UInt8) (acc : List Tok) : scanGo (32 :: 32 :: c :: 32 :: l) cur acc = scanGo (c :: l) cur acc := by
  rw [blank_any]
  rw [scanGo.eq_2, if_neg (by rw [not_w_sign h]; simp)]
  cases he : endW cur acc with
  | none => rfl
  | some a =>
    simp only
    rw [blank_any, endW_nil]
    simp only
    rw [scanGo, if_neg (by rw [not_w_sign h]; simp), endW_nil]
    simp only
    rw [if_pos h, if_pos h, blank_any, endW_nil]
theorem head_scan (c : UInt8) {l m : List UInt8} (h : ∀ cur acc, scanGo l cur acc = scanGo m cur acc) (cur : List UInt8) (acc : List Tok) : scanGo (c :: l) cur acc = scanGo (c :: m) cur acc := by
  rw [scanGo, scanGo]
  simp only [h]
theorem toNat_ne {c d : UInt8} (h : c ≠ d) : c.toNat ≠ d.toNat := fun h2 => h (UInt8.toNat.inj h2)
theorem sign_ne {c : UInt8} (h : isSign c = true) : c ≠ 59 ∧ c ≠ 10 := by
  constructor <;> (rintro rfl; revert h; decide)
theorem split_pre {p : List UInt8} (h : NoNl p) {l t : List UInt8} {r : List (List UInt8)} (hs : splitC 10 l = t :: r) : splitC 10 (p ++ l) = (p ++ t) :: r := by
  induction p with
  | nil => exact hs
  | cons c p ih => exact splitC_miss (h c (.head _)) _ _ _ (ih fun x hx => h x (.tail _ hx))
inductive SameAll : List (List UInt8) → List (List UInt8) → Prop
  | nil : SameAll [] []
  | cons {t s : List UInt8} {ts ss : List (List UInt8)} : SameScan t s → SameAll ts ss → SameAll (t :: ts) (s :: ss)
theorem blF_lines (wd : Nat → Bool) : ∀ (src : List UInt8) (i : Nat) (rem : Bool), ∃ t s ts ss, splitC 10 (blF wd i rem src ++ [32, 32]) = t :: ts ∧ splitC 10 src = s :: ss ∧ (rem = false → SameScan t s) ∧ SameAll ts ss
  | [], i, rem => by
    refine ⟨[32, 32], [], [], [], by rw [blF, List.nil_append]; decide, rfl, fun _ cur acc => ?_, .nil⟩
    rw [show cutR [32, 32] = [32, 32] by decide, cutR_nil, blank_any]
    rw [scanGo]
    cases h : endW cur acc with
    | none => rfl
    | some a => simp only; rw [blank_end, scanGo, endW_nil]
  | c :: l, i, rem => by
    by_cases hc : c = 10
    · subst hc
      obtain ⟨t, s, ts, ss, h1, h2, h3, h4⟩ := blF_lines wd l (i + 1) false
      refine ⟨remT, [], t :: ts, s :: ss, ?_, by rw [splitC_hit, h2], fun _ cur acc => ?_, .cons (h3 rfl) h4⟩
      · have e : blF wd i rem (10 :: l) = remT ++ 10 :: blF wd (i + 1) false l := by
          rw [blF]
          simp [isSign, signL]
        rw [e, List.append_assoc, List.cons_append, split_nl (nl_d (by decide)), h1]
      · rw [show cutR remT = [32] by decide, cutR_nil, blank_end]
    · have hcn : c.toNat ≠ 10 := toNat_ne hc
      by_cases h59 : c = 59
      · subst h59
        obtain ⟨t, s, ts, ss, h1, h2, _, h4⟩ := blF_lines wd l (i + 1) true
        have e : blF wd i rem (59 :: l) = 59 :: blF wd (i + 1) true l := by
          rw [blF]
          simp
        refine ⟨59 :: t, 59 :: s, ts, ss, ?_, splitC_miss hc _ _ _ h2, fun _ cur acc => by rw [cutR_hit, cutR_hit], h4⟩
        rw [e, List.cons_append]; exact splitC_miss hc _ _ _ h1
      · have h59n : c.toNat ≠ 59 := toNat_ne h59
        obtain ⟨t, s, ts, ss, h1, h2, h3, h4⟩ := blF_lines wd l (i + 1) rem
        by_cases hw : (!rem && isSign c && wd i) = true
        · have e : blF wd i rem (c :: l) = [32, 32, c, 32] ++ blF wd (i + 1) rem l := by
            rw [blF]
            simp only [h59n, hcn, if_false, hw, if_true]
            simp
          simp only [Bool.and_eq_true, Bool.not_eq_true'] at hw
          refine ⟨[32, 32, c, 32] ++ t, c :: s, ts, ss, ?_, splitC_miss hc _ _ _ h2, fun hr cur acc => ?_, h4⟩
          · rw [e, List.append_assoc]
            refine split_pre (fun x hx => ?_) h1
            simp only [List.mem_cons, List.not_mem_nil, or_false] at hx
            rcases hx with rfl | rfl | rfl | rfl
            · decide
            · decide
            · exact hc
            · decide
          · rw [cutR_cons h59]
            simp only [List.cons_append, List.nil_append]
            rw [cutR_cons (by decide), cutR_cons (by decide), cutR_cons h59, cutR_cons (by decide), wide_scan hw.1.2]
            exact head_scan c (h3 hr) cur acc
        · have e : blF wd i rem (c :: l) = c :: blF wd (i + 1) rem l := by
            rw [blF]
            simp only [h59n, hcn, if_false, hw]
            simp
          refine ⟨c :: t, c :: s, ts, ss, ?_, splitC_miss hc _ _ _ h2, fun hr cur acc => ?_, h4⟩
          · rw [e, List.cons_append]; exact splitC_miss hc _ _ _ h1
          · rw [cutR_cons h59, cutR_cons h59]
            exact head_scan c (h3 hr) cur acc
theorem readGo_same {ts ss : List (List UInt8)} (h : SameAll ts ss) : ∀ (k : Nat) (p : Pg), readGo k ts p = readGo k ss p := by
  induction h with
  | nil => intro k p; rfl
  | cons h _ ih =>
    intro k p
    rw [readGo, readGo, scan, scan, h [] []]
    simp only [ih]
theorem read_blanks (wd : Nat → Bool) (src : List UInt8) : read (blF wd 0 false src ++ [32, 32]) = read src := by
  obtain ⟨t, s, ts, ss, h1, h2, h3, h4⟩ := blF_lines wd src 0 false
  rw [read, read, h1, h2]
  exact readGo_same (.cons (h3 rfl) h4) 0 _
theorem readGo_err : ∀ (ls : List (List UInt8)) (k : Nat) (p : Pg) (n : Nat) (e : Int), readGo k ls p = .inr (n, e) → e ≠ 0
  | [], k, p, n, e, h => by rw [readGo] at h; cases h
  | s :: ls, k, p, n, e, h => by
    rw [readGo] at h
    split at h
    · simp only [Sum.inr.injEq, Prod.mk.injEq] at h; omega
    · simp only at h
      split at h
      · simp only [Sum.inr.injEq, Prod.mk.injEq] at h; omega
      · split at h
        · simp only [Sum.inr.injEq, Prod.mk.injEq] at h; omega
        · exact readGo_err ls _ _ n e h
theorem assemble_ok {base : Int} {src : List UInt8} (h : (assemble base src).2.2 = 0) : (assemble base src).2.1 = 0 ∧ 0 ≤ base ∧ base < 65536 ∧ src.length ≤ 4000 := by
  unfold assemble at h ⊢
  split at h
  · simp at h
  · rename_i hb
    rw [if_neg hb]
    split at h
    · simp at h
    · rename_i hl
      rw [if_neg hl]
      refine ⟨?_, by omega, by omega, by omega⟩
      cases hr : read src with
      | inr q =>
        obtain ⟨n, e⟩ := q
        rw [hr] at h
        exact absurd h (readGo_err _ _ _ n e hr)
      | inl p =>
        rw [hr] at h
        simp only at h ⊢
        split at h
        · simp at h
        · rename_i hd
          rw [if_neg hd]
          split at h
          · simp at h
          · rfl
theorem assemble_blanks {base : Int} {src : List UInt8} (wd : Nat → Bool) (h : (assemble base src).2.2 = 0) : assemble base (blF wd 0 false src ++ [32, 32]) = if (blF wd 0 false src ++ [32, 32]).length > 4000 then ([], 0, 2) else assemble base src := by
  obtain ⟨_, h1, h2, h3⟩ := assemble_ok h
  rw [assemble, if_neg (by omega)]
  split
  · rfl
  · rw [read_blanks, assemble.eq_1 base src, if_neg (by omega), if_neg (by omega)]
theorem blF_len (wd : Nat → Bool) : ∀ (src : List UInt8) (i : Nat) (rem : Bool), (blF wd i rem src).length ≤ 11 * src.length
  | [], i, rem => by simp [blF]
  | c :: l, i, rem => by
    rw [blF]
    simp only [List.length_append, List.length_cons, List.length_nil]
    have h1 : (if c.toNat = 10 then remT else []).length ≤ 7 := by split <;> simp [remT]
    generalize (if c.toNat = 59 then true else if c.toNat = 10 then false else rem) = r2
    have := blF_len wd l (i + 1) r2
    generalize (!r2 && isSign c && wd i) = w
    cases w <;> simp <;> omega
end Am
end Go.Proofs.YtgppllppddaodaaGreatDoor

/-
  The examples of awake, in the pure model.
-/
namespace Go.Proofs.YtgppllppddaodaaGreatDoor
namespace Am
open Go
def src1 : List UInt8 := [97, 58, 32, 110, 111, 112, 10, 98, 58, 32, 98, 101, 113, 32, 114, 49, 44, 32, 114, 50, 44, 32, 97, 10, 106, 109, 112, 32, 98]
def src2 : List UInt8 := [110, 111, 112, 10, 109, 111, 118, 105, 32, 114, 49, 54, 44, 32, 48]
theorem aw1 : assemble 64 src1 = ([419430400, 185729088, 234881092], 0, 0) := by kernel_rfl
theorem aw2 : assemble 0 src2 = ([], 2, 63) := by kernel_rfl
theorem itoa_small (n : Nat) (h : n < 10) : Lib.itoa (n : Int) = [UInt8.ofNat (48 + n)] := by
  rw [Lib.itoa, if_neg (by omega), Int.toNat_natCast, Lib.decDigits, dif_pos h]
theorem hex_small (n : Nat) (h : n < 16) : hexText n = [hexDig n] := by rw [hexText, dif_pos h]
theorem aw3 : printT [118620168, 0] = [108, 100, 114, 32, 114, 49, 44, 32, 91, 114, 50, 32, 43, 32, 56, 93, 10, 119, 111, 114, 100, 32, 48, 120, 48, 48, 48, 48, 48, 48, 48, 48, 10] := by
  have d1 : decode (118620168 : Nat) = (⟨7, 1, 2, 0, 8⟩, 0) := by kernel_rfl
  have d2 : decode (0 : Nat) = (⟨0, 0, 0, 0, 0⟩, 50) := by kernel_rfl
  have hm : isMem 7 = true := by decide
  have w1 : wordText 118620168 = [108, 100, 114, 32, 114, 49, 44, 32, 91, 114, 50, 32, 43, 32, 56, 93, 10] := by
    have i1 := itoa_small 1 (by omega)
    have i2 := itoa_small 2 (by omega)
    have i8 := itoa_small 8 (by omega)
    have hne : opTexts ⟨7, 1, 2, 0, 8⟩ ≠ [] := by rw [mem_texts hm]; simp
    rw [wordText, d1, if_pos rfl]
    simp only [lineText]
    rw [if_neg hne, if_pos hm, mem_texts hm]
    simp only [List.getD_cons_zero, List.getD_cons_succ]
    have i1' : Lib.itoa (1 : Int) = [49] := i1
    have i2' : Lib.itoa (2 : Int) = [50] := i2
    have i8' : Lib.itoa (8 : Int) = [56] := i8
    rw [i1', i2', i8']; rfl
  have w2 : wordText 0 = [119, 111, 114, 100, 32, 48, 120, 48, 48, 48, 48, 48, 48, 48, 48, 10] := by
    rw [wordText, d2, if_neg (by decide), hex_small 0 (by omega)]; rfl
  simp only [printT, List.map_cons, List.map_nil, List.flatten_cons, List.flatten_nil, w1, w2]
  rfl
theorem aw4 : mnem 25 = [110, 111, 112] := by decide
end Am
end Go.Proofs.YtgppllppddaodaaGreatDoor

/-
  A small separation logic over the model's walks: known slots (Env), owned and read-only blocks (Heap), and judgements for operations, regions, code and calls. Everything here is proved over any program.
-/
namespace Go.Proofs.YtgppllppddaodaaGreatDoor
namespace Sl
open Go

abbrev Env := List (Nat × Value)
abbrev Heap := List (Nat × Obj)

def Env.get : Env → Nat → Option Value
  | [], _ => none
  | (k, v) :: r, t => match Nat.beq k t with
    | true => some v
    | false => Env.get r t

def ev (e : Env) : Operand → Option Value
  | .tmp t => e.get t
  | .const v => some v
  | .global g => some (.pointer (some ⟨g, 0, none⟩))
  | .func f => some (.func (.func f) #[] #[])

/-- A block of plain cells, nothing of it frozen. -/
abbrev cb (l : List Value) (T : TypeId) : Obj := .cells l.toArray T (0, 0)

abbrev keys (L : Heap) : List Nat := L.map Prod.fst

structure EnvOk (N : Nat) (e : Env) (a : Act) : Prop where
  size : N ≤ a.tmps.size
  defers : a.defers = []
  get : ∀ t v, Env.get e t = some v → a.tmps[t]? = some v

structure Holds (R L : Heap) (w : World) : Prop where
  ro : ∀ p ∈ R, w.heap[p.1]? = some p.2
  own : ∀ p ∈ L, w.heap[p.1]? = some p.2
  nd : (keys L).Nodup
  dj : ∀ p ∈ R, p.1 ∉ keys L

structure Mv (L : Heap) (w : World) (L' : Heap) (w' : World) : Prop where
  os : w'.os = w.os
  tape : w'.tape = w.tape
  output : w'.output = w.output
  size : w.heap.size ≤ w'.heap.size
  block : ∀ k, k < w.heap.size → k ∉ keys L → w'.heap[k]? = w.heap[k]?
  new : ∀ k ∈ keys L', k ∈ keys L ∨ w.heap.size ≤ k

structure St (N : Nat) (R : Heap) (e : Env) (L : Heap) (a : Act) (w : World) : Prop where
  env : EnvOk N e a
  hp : Holds R L w

theorem lt_of_some {α : Type} {xs : Array α} {i : Nat} {x : α} (h : xs[i]? = some x) : i < xs.size := by
  rcases Nat.lt_or_ge i xs.size with h' | h'
  · exact h'
  · simp [Array.getElem?_eq_none h'] at h

theorem Mv.refl (L : Heap) (w : World) : Mv L w L w := ⟨rfl, rfl, rfl, Nat.le_refl _, fun _ _ _ => rfl, fun _ h => .inl h⟩

theorem Mv.trans {L L1 L2 : Heap} {w w1 w2 : World} (h : Mv L w L1 w1) (k : Mv L1 w1 L2 w2) : Mv L w L2 w2 where
  os := k.os.trans h.os
  tape := k.tape.trans h.tape
  output := k.output.trans h.output
  size := Nat.le_trans h.size k.size
  block i hi hn := by
    have h1 := h.block i hi hn
    rw [← h1]
    refine k.block i (Nat.lt_of_lt_of_le hi h.size) fun hm => ?_
    rcases h.new i hm with h2 | h2
    · exact hn h2
    · omega
  new i hi := by
    rcases k.new i hi with h1 | h1
    · exact h.new i h1
    · exact .inr (Nat.le_trans h.size h1)

theorem EnvOk.ev {N : Nat} {e : Env} {a : Act} (h : EnvOk N e a) {x : Operand} {v : Value} (hx : Sl.ev e x = some v) : a.eval x = v := by
  cases x with
  | tmp t =>
    have := h.get t v hx
    simp [Act.eval, Array.getD_eq_getD_getElem?, this]
  | const c => simpa [Sl.ev, Act.eval] using hx
  | global g => simpa [Sl.ev, Act.eval] using hx
  | func f => simpa [Sl.ev, Act.eval] using hx

theorem Env.get_cons (d : Nat) (v : Value) (e : Env) (t : Nat) : Env.get ((d, v) :: e) t = if d = t then some v else Env.get e t := by
  simp only [Env.get]
  by_cases h : d = t
  · subst h; simp
  · have : Nat.beq d t = false := by
      rw [Bool.eq_false_iff]; intro hb; exact h (Nat.eq_of_beq_eq_true hb)
    simp [this, h]

theorem EnvOk.put {N : Nat} {e : Env} {a : Act} (h : EnvOk N e a) {d : Nat} (hd : d < N) (v : Value) : EnvOk N ((d, v) :: e) (a.put (some d) v) where
  size := by simpa [Act.put] using h.size
  defers := by simpa [Act.put] using h.defers
  get t u ht := by
    have hlt : d < a.tmps.size := Nat.lt_of_lt_of_le hd h.size
    rw [Env.get_cons] at ht
    simp only [Act.put]
    by_cases hdt : d = t
    · subst hdt
      simp only [if_true] at ht
      simp [hlt]; exact Option.some.inj ht
    · simp only [hdt, if_false] at ht
      rw [Array.getElem?_setIfInBounds_ne hdt]
      exact h.get t u ht

theorem EnvOk.put_none {N : Nat} {e : Env} {a : Act} (h : EnvOk N e a) (v : Value) : EnvOk N e (a.put none v) := h

/-- The environment e' knows at least what e tells. -/
def EnvLe (e e' : Env) : Prop := ∀ t v, Env.get e t = some v → Env.get e' t = some v
theorem EnvLe.refl (e : Env) : EnvLe e e := fun _ _ h => h
theorem EnvLe.nil (e : Env) : EnvLe [] e := fun _ _ h => by simp [Env.get] at h
theorem EnvLe.cons {d : Nat} {v : Value} {e e' : Env} (h : Env.get e' d = some v) (h' : EnvLe e e') : EnvLe ((d, v) :: e) e' := by
  intro t u ht
  rw [Env.get_cons] at ht
  by_cases hdt : d = t
  · subst hdt; simp only [if_true] at ht; rw [← ht]; exact h
  · simp only [hdt, if_false] at ht; exact h' t u ht
theorem EnvOk.le {N : Nat} {e e' : Env} {a : Act} (h : EnvOk N e' a) (k : EnvLe e e') : EnvOk N e a := ⟨h.size, h.defers, fun t v ht => h.get t v (k t v ht)⟩

/-- L' is L with one chunk turned. -/
inductive Upd (b : Nat) (o o' : Obj) : Heap → Heap → Prop
  | here {L : Heap} : Upd b o o' ((b, o) :: L) ((b, o') :: L)
  | there {p : Nat × Obj} {L L' : Heap} : Upd b o o' L L' → Upd b o o' (p :: L) (p :: L')

theorem Upd.mem {b : Nat} {o o' : Obj} {L L' : Heap} (h : Upd b o o' L L') : (b, o) ∈ L := by
  induction h with
  | here => exact .head _
  | there _ ih => exact .tail _ ih
theorem Upd.keys {b : Nat} {o o' : Obj} {L L' : Heap} (h : Upd b o o' L L') : keys L' = keys L := by
  induction h with
  | here => rfl
  | there _ ih => simp only [Sl.keys, List.map_cons] at ih ⊢; rw [ih]
theorem Upd.mem' {b : Nat} {o o' : Obj} {L L' : Heap} (h : Upd b o o' L L') : ∀ p ∈ L', p = (b, o') ∨ (p ∈ L) := by
  induction h with
  | here => intro p hp; cases hp with
    | head => exact .inl rfl
    | tail _ h => exact .inr (.tail _ h)
  | there _ ih => intro p hp; cases hp with
    | head => exact .inr (.head _)
    | tail _ h => exact (ih p h).imp id (.tail _)
/-- The others have another number. -/
theorem Upd.ne {b : Nat} {o o' : Obj} {L L' : Heap} (h : Upd b o o' L L') (hnd : (Sl.keys L).Nodup) : ∀ p ∈ L', p = (b, o') ∨ (p ∈ L ∧ p.1 ≠ b) := by
  induction h with
  | here => intro p hp; cases hp with
    | head => exact .inl rfl
    | tail _ h =>
      refine .inr ⟨.tail _ h, fun he => ?_⟩
      simp only [Sl.keys, List.map_cons, List.nodup_cons] at hnd
      exact hnd.1 (he ▸ List.mem_map_of_mem h)
  | there hu ih =>
    intro p hp
    simp only [Sl.keys, List.map_cons, List.nodup_cons] at hnd
    cases hp with
    | head =>
      refine .inr ⟨.head _, fun he => hnd.1 ?_⟩
      rw [he]; exact List.mem_map_of_mem hu.mem
    | tail _ h => exact (ih hnd.2 p h).imp id fun ⟨a, b⟩ => ⟨.tail _ a, b⟩

/-- The world with one block turned. -/
def setBlk (w : World) (b : Nat) (o : Obj) : World := { w with heap := w.heap.setIfInBounds b o }

theorem Holds.upd {R L L' : Heap} {w : World} {b : Nat} {o o' : Obj} (h : Holds R L w) (hu : Upd b o o' L L') : Holds R L' (setBlk w b o') where
  ro p hp := by
    have := h.ro p hp
    have hne : b ≠ p.1 := fun he => h.dj p hp (he ▸ List.mem_map_of_mem hu.mem)
    simp only [setBlk]
    rw [Array.getElem?_setIfInBounds_ne hne]; exact this
  own p hp := by
    simp only [setBlk]
    have hb := lt_of_some (h.own _ hu.mem)
    rcases hu.ne h.nd p hp with rfl | ⟨hm, hne⟩
    · simp [hb]
    · rw [Array.getElem?_setIfInBounds_ne (Ne.symm hne)]; exact h.own p hm
  nd := by rw [hu.keys]; exact h.nd
  dj p hp := by rw [hu.keys]; exact h.dj p hp

theorem Mv.upd {L L' : Heap} {w : World} {b : Nat} {o o' : Obj} (hu : Upd b o o' L L') : Mv L w L' (setBlk w b o') where
  os := rfl
  tape := rfl
  output := rfl
  size := by simp [setBlk]
  block k hk hn := by
    simp only [setBlk]
    refine Array.getElem?_setIfInBounds_ne fun he => hn ?_
    rw [← he]; exact List.mem_map_of_mem hu.mem
  new k hk := .inl (by rw [← hu.keys]; exact hk)

theorem Holds.alloc {R L : Heap} {w : World} (h : Holds R L w) (o : Obj) : Holds R ((w.heap.size, o) :: L) { w with heap := w.heap.push o } where
  ro p hp := by
    have := h.ro p hp
    rw [Array.getElem?_push, if_neg (by have := lt_of_some this; omega)]; exact this
  own p hp := by
    cases hp with
    | head => simp
    | tail _ hp =>
      have := h.own p hp
      show (w.heap.push o)[p.1]? = _
      rw [Array.getElem?_push, if_neg (by have := lt_of_some this; omega)]; exact this
  nd := by
    simp only [keys, List.map_cons, List.nodup_cons]
    refine ⟨fun hm => ?_, h.nd⟩
    obtain ⟨p, hp, he⟩ := List.mem_map.1 hm
    have := lt_of_some (h.own p hp)
    omega
  dj p hp hm := by
    simp only [keys, List.map_cons, List.mem_cons] at hm
    rcases hm with hm | hm
    · have := lt_of_some (h.ro p hp); omega
    · exact h.dj p hp hm

theorem Mv.alloc (L : Heap) (w : World) (o : Obj) : Mv L w ((w.heap.size, o) :: L) { w with heap := w.heap.push o } where
  os := rfl
  tape := rfl
  output := rfl
  size := by simp
  block k hk _ := by
    show (w.heap.push o)[k]? = _
    rw [Array.getElem?_push, if_neg (by omega)]
  new k hk := by
    simp only [keys, List.map_cons, List.mem_cons] at hk
    rcases hk with rfl | hk
    · exact .inr (Nat.le_refl _)
    · exact .inl hk

theorem Holds.drew {R L : Heap} {w : World} (h : Holds R L w) (n : Nat) : Holds R L { w with drawn := n } := ⟨h.ro, h.own, h.nd, h.dj⟩
theorem Mv.drew (L : Heap) (w : World) (n : Nat) : Mv L w L { w with drawn := n } := ⟨rfl, rfl, rfl, Nat.le_refl _, fun _ _ _ => rfl, fun _ h => .inl h⟩

/-! ### Taking chunks out -/
inductive Pick (p : Nat × Obj) : Heap → Heap → Prop
  | here {L : Heap} : Pick p (p :: L) L
  | there {q : Nat × Obj} {L L' : Heap} : Pick p L L' → Pick p (q :: L) (q :: L')
inductive Split : Heap → Heap → Heap → Prop
  | nil {L : Heap} : Split L [] L
  | cons {p : Nat × Obj} {L L1 A F : Heap} : Pick p L L1 → Split L1 A F → Split L (p :: A) F
theorem Pick.perm {p : Nat × Obj} {L L' : Heap} (h : Pick p L L') : L.Perm (p :: L') := by
  induction h with
  | here => exact List.Perm.refl _
  | there _ ih => exact (List.Perm.cons _ ih).trans (List.Perm.swap _ _ _)
theorem Split.perm {L A F : Heap} (h : Split L A F) : L.Perm (A ++ F) := by
  induction h with
  | nil => exact List.Perm.refl _
  | cons hp _ ih => exact hp.perm.trans (List.Perm.cons _ ih)

theorem Holds.perm {R L L' : Heap} {w : World} (h : Holds R L w) (hp : L.Perm L') : Holds R L' w where
  ro := h.ro
  own p hm := h.own p (hp.mem_iff.2 hm)
  nd := ((hp.map Prod.fst).nodup_iff).1 h.nd
  dj p hm hk := h.dj p hm (((hp.map Prod.fst).mem_iff).2 hk)
theorem Holds.left {R A F : Heap} {w : World} (h : Holds R (A ++ F) w) : Holds R A w where
  ro := h.ro
  own p hm := h.own p (List.mem_append_left _ hm)
  nd := by have := h.nd; rw [keys, List.map_append] at this; exact (List.nodup_append.1 this).1
  dj p hm hk := h.dj p hm (by rw [keys, List.map_append]; exact List.mem_append_left _ hk)
/-- Weaker in what is owned. -/
theorem Holds.split {R L A F : Heap} {w : World} (h : Holds R L w) (hs : Split L A F) : Holds R A w := (h.perm hs.perm).left
theorem Mv.perm_right {L L1 L2 : Heap} {w w' : World} (h : Mv L w L1 w') (hs : ∀ k ∈ keys L2, k ∈ keys L1) : Mv L w L2 w' := ⟨h.os, h.tape, h.output, h.size, h.block, fun k hk => h.new k (hs k hk)⟩
theorem Split.keys {L A F : Heap} (h : Split L A F) : ∀ k ∈ Sl.keys A, k ∈ Sl.keys L := fun k hk =>
  ((h.perm.map Prod.fst).mem_iff).2 (by rw [List.map_append]; exact List.mem_append_left _ hk)

end Sl
end Go.Proofs.YtgppllppddaodaaGreatDoor

/-
  The judgement for the operations of a region, and its rules: pure operations.
-/
namespace Go.Proofs.YtgppllppddaodaaGreatDoor
namespace Sl
open Go

/-- Will this operation be carried out? (none: not known.) -/
def wantedE (ops : Array Oper) (e : Env) (o : Oper) : Option Bool :=
  match o.guard with
  | none => some true
  | some (j, want) =>
    match (ops[j]?).bind (·.dst) with
    | some t => match Env.get e t with
      | some (.bool b) => some (b == want)
      | some (.tuple _) => some false
      | _ => none
    | none => none

theorem wanted_of {N : Nat} {ops : Array Oper} {e : Env} {a : Act} (h : EnvOk N e a) {o : Oper} {b : Bool} (hw : wantedE ops e o = some b) : Region.wanted o (yielded ops a.tmps) = b := by
  unfold wantedE at hw
  unfold Region.wanted
  split at hw
  · simp_all
  · rename_i j want hg
    simp only [hg]
    split at hw
    · rename_i t ht
      split at hw
      · rename_i b' hb
        have := h.get _ _ hb
        simp only [yielded, ht, Option.bind_some, this]
        have := Option.some.inj hw
        rw [← this]
        cases b' <;> cases want <;> rfl
      · rename_i vs hb
        have := h.get _ _ hb
        simp only [yielded, ht, Option.bind_some, this]
        have := Option.some.inj hw
        rw [← this]
        cases want <;> rfl
      · cases hw
    · cases hw

/-- The operations l of a region (ops: all of it) lead from e and L to K. -/
def OpsW (P : Program) (N : Nat) (R : Heap) (ops : Array Oper) (l : List Oper) (e : Env) (L : Heap) (K : Env → Heap → Prop) : Prop :=
  ∀ a w, St N R e L a w → ∀ Q : Exit → Act → World → Prop,
    (∀ a' w' e' L', K e' L' → St N R e' L' a' w' → Mv L w L' w' → Q .normal a' w') → wpList P ops Q l a w

variable {P : Program} {N : Nat} {R : Heap} {ops : Array Oper} {rest : List Oper} {e : Env} {L : Heap} {K : Env → Heap → Prop}

theorem ow_nil (h : K e L) : OpsW P N R ops [] e L K := fun a w hst _ hQ => hQ a w e L h hst (Mv.refl L w)

theorem OpsW.mono {l : List Oper} {K' : Env → Heap → Prop} (h : OpsW P N R ops l e L K) (hk : ∀ e L, K e L → K' e L) : OpsW P N R ops l e L K' :=
  fun a w hst Q hQ => h a w hst Q fun a' w' e' L' hK => hQ a' w' e' L' (hk _ _ hK)

theorem blt_lt {a b : Nat} (h : Nat.blt a b = true) : a < b := by simpa [Nat.blt_eq] using h

def putE (d : Option Tmp) (v : Value) (e : Env) : Env := match d with | some t => (t, v) :: e | none => e
theorem EnvOk.putE {N : Nat} {e : Env} {a : Act} (h : EnvOk N e a) {d : Option Tmp} (hd : ∀ t, d = some t → t < N) (v : Value) : EnvOk N (Sl.putE d v e) (a.put d v) := by
  cases d with
  | none => exact h
  | some t => exact h.put (hd t rfl) v

/-- The engine: an operation that hands back v and leaves the world in L'. -/
theorem ow_run {o : Oper} {v : Value} {L' : Heap} (hw : wantedE ops e o = some true) (hd : ∀ t, o.dst = some t → t < N)
    (hrun : ∀ a w, St N R e L a w → ∃ w', ((execOp a.eval o).run P w = .ok (.value v) w' ∨ ((execOp a.eval o).run P w = .ok .skip w' ∧ v = undef)) ∧ Holds R L' w' ∧ Mv L w L' w')
    (k : OpsW P N R ops rest (putE o.dst v e) L' K) : OpsW P N R ops (o :: rest) e L K := by
  intro a w hst Q hQ
  obtain ⟨w', hr, hh, hm⟩ := hrun a w hst
  unfold wpList
  rw [if_pos (by simpa using wanted_of hst.env hw)]
  left
  have hk : wpList P ops Q rest (a.put o.dst v) w' :=
    k _ _ ⟨hst.env.putE hd v, hh⟩ Q fun a' w'' e' L'' hK hs hm' => hQ a' w'' e' L'' hK hs (hm.trans hm')
  unfold Oper.wp
  rcases hr with hr | ⟨hr, rfl⟩
  · rw [hr]; exact hk
  · rw [hr]; exact hk

/-- As ow_run, where what is left is known by a property alone. -/
theorem ow_runEx {o : Oper} (G : Value → Heap → Prop) (hw : wantedE ops e o = some true) (hd : ∀ t, o.dst = some t → t < N)
    (hrun : ∀ a w, St N R e L a w → ∃ v L' w', G v L' ∧ (execOp a.eval o).run P w = .ok (.value v) w' ∧ Holds R L' w' ∧ Mv L w L' w')
    (k : ∀ v L', G v L' → OpsW P N R ops rest (putE o.dst v e) L' K) : OpsW P N R ops (o :: rest) e L K := by
  intro a w hst Q hQ
  obtain ⟨v, L', w', hG, hr, hh, hm⟩ := hrun a w hst
  unfold wpList
  rw [if_pos (by simpa using wanted_of hst.env hw)]
  left
  have hk : wpList P ops Q rest (a.put o.dst v) w' :=
    k v L' hG _ _ ⟨hst.env.putE hd v, hh⟩ Q fun a' w'' e' L'' hK hs hm' => hQ a' w'' e' L'' hK hs (hm.trans hm')
  unfold Oper.wp
  rw [hr]; exact hk

/-- As ow_runEx, of an operation that hands back nothing. -/
theorem ow_runSkip {o : Oper} (G : Heap → Prop) (hw : wantedE ops e o = some true) (hdst : o.dst = none)
    (hrun : ∀ a w, St N R e L a w → ∃ L' w', G L' ∧ (execOp a.eval o).run P w = .ok .skip w' ∧ Holds R L' w' ∧ Mv L w L' w')
    (k : ∀ L', G L' → OpsW P N R ops rest e L' K) : OpsW P N R ops (o :: rest) e L K := by
  intro a w hst Q hQ
  obtain ⟨L', w', hG, hr, hh, hm⟩ := hrun a w hst
  unfold wpList
  rw [if_pos (by simpa using wanted_of hst.env hw)]
  left
  have hk : wpList P ops Q rest (a.put o.dst undef) w' :=
    k L' hG _ _ ⟨by rw [hdst]; exact hst.env.put_none _, hh⟩ Q fun a' w'' e' L'' hK hs hm' => hQ a' w'' e' L'' hK hs (hm.trans hm')
  unfold Oper.wp
  rw [hr]; exact hk

/-- A guard that does not hold. -/
theorem ow_skip {o : Oper} {t : Nat} (hw : wantedE ops e o = some false) (hdst : o.dst = some t) (hd : Nat.blt t N = true)
    (k : OpsW P N R ops rest ((t, undef) :: e) L K) : OpsW P N R ops (o :: rest) e L K := by
  intro a w hst Q hQ
  unfold wpList
  rw [if_neg (by rw [wanted_of hst.env hw]; simp)]
  have : EnvOk N ((t, undef) :: e) (a.put o.dst undef) := by rw [hdst]; exact hst.env.put (blt_lt hd) _
  exact k _ _ ⟨this, hst.hp⟩ Q hQ

theorem ow_pure {o : Oper} {d : Nat} {v : Value} (hdst : o.dst = some d) (hw : wantedE ops e o = some true) (hd : Nat.blt d N = true)
    (hrun : ∀ (a : Act) (w : World), EnvOk N e a → (execOp a.eval o).run P w = .ok (.value v) w)
    (k : OpsW P N R ops rest ((d, v) :: e) L K) : OpsW P N R ops (o :: rest) e L K := by
  refine ow_run hw (fun t ht => ?_) (fun a w hst => ⟨w, .inl (hrun a w hst.env), hst.hp, Mv.refl _ _⟩) (by rw [hdst]; exact k)
  rw [hdst] at ht; cases ht; exact blt_lt hd

section
variable {d : Nat} {ty : TypeId} {pos : String} {af : Array Edge} {g : Option (Nat × Bool)} {x y : Operand} {v : Value}

theorem ow_move (hw : wantedE ops e ⟨some d, .move x, ty, pos, af, g⟩ = some true) (hd : Nat.blt d N = true) (hx : ev e x = some v)
    (k : OpsW P N R ops rest ((d, v) :: e) L K) : OpsW P N R ops (⟨some d, .move x, ty, pos, af, g⟩ :: rest) e L K :=
  ow_pure rfl hw hd (fun a w h => by rw [← h.ev hx]; rfl) k

theorem ow_assign (hw : wantedE ops e ⟨some d, .assign x, ty, pos, af, g⟩ = some true) (hd : Nat.blt d N = true) (hx : ev e x = some v)
    (k : OpsW P N R ops rest ((d, v) :: e) L K) : OpsW P N R ops (⟨some d, .assign x, ty, pos, af, g⟩ :: rest) e L K :=
  ow_pure rfl hw hd (fun a w h => by rw [← h.ev hx]; rfl) k

theorem ow_pick_t {c : Operand} (hw : wantedE ops e ⟨some d, .pick c x y, ty, pos, af, g⟩ = some true) (hd : Nat.blt d N = true) (hc : ev e c = some (.bool true)) (hx : ev e x = some v)
    (k : OpsW P N R ops rest ((d, v) :: e) L K) : OpsW P N R ops (⟨some d, .pick c x y, ty, pos, af, g⟩ :: rest) e L K :=
  ow_pure rfl hw hd (fun a w h => by
    have h1 := h.ev hx
    have h2 := h.ev hc
    show ((do pure (.value (if ← asBool (a.eval c) then a.eval x else a.eval y)) : Sem Next)).run P w = _
    rw [h2, h1]; rfl) k
theorem ow_pick_f {c : Operand} (hw : wantedE ops e ⟨some d, .pick c x y, ty, pos, af, g⟩ = some true) (hd : Nat.blt d N = true) (hc : ev e c = some (.bool false)) (hy : ev e y = some v)
    (k : OpsW P N R ops rest ((d, v) :: e) L K) : OpsW P N R ops (⟨some d, .pick c x y, ty, pos, af, g⟩ :: rest) e L K :=
  ow_pure rfl hw hd (fun a w h => by
    have h1 := h.ev hy
    have h2 := h.ev hc
    show ((do pure (.value (if ← asBool (a.eval c) then a.eval x else a.eval y)) : Sem Next)).run P w = _
    rw [h2, h1]; rfl) k

theorem ow_nilCheck {ad : Addr} (hw : wantedE ops e ⟨some d, .nilCheck x, ty, pos, af, g⟩ = some true) (hd : Nat.blt d N = true) (hx : ev e x = some (.pointer (some ad)))
    (k : OpsW P N R ops rest ((d, .pointer (some ad)) :: e) L K) : OpsW P N R ops (⟨some d, .nilCheck x, ty, pos, af, g⟩ :: rest) e L K :=
  ow_pure rfl hw hd (fun a w h => by
    have h1 := h.ev hx
    simp only [execOp, h1]; rfl) k

theorem ow_makeFunc {fn : Fn} {first captured : Array Operand} (hw : wantedE ops e ⟨some d, .makeFunc fn first captured, ty, pos, af, g⟩ = some true) (hd : Nat.blt d N = true)
    {fs cs : List Value} (hf : first.toList.map (ev e) = fs.map some) (hc : captured.toList.map (ev e) = cs.map some)
    (k : OpsW P N R ops rest ((d, .func fn fs.toArray cs.toArray) :: e) L K) : OpsW P N R ops (⟨some d, .makeFunc fn first captured, ty, pos, af, g⟩ :: rest) e L K :=
  ow_pure rfl hw hd (fun a w h => by
    have key : ∀ (xs : Array Operand) (vs : List Value), xs.toList.map (ev e) = vs.map some → xs.map a.eval = vs.toArray := by
      intro xs vs hv
      apply Array.ext'
      rw [Array.toList_map]
      generalize xs.toList = l at hv
      induction l generalizing vs with
      | nil => cases vs <;> simp_all
      | cons o l ih =>
        cases vs with
        | nil => simp at hv
        | cons u vs =>
          simp only [List.map_cons, List.cons.injEq] at hv
          simp only [List.map_cons, List.cons.injEq]
          exact ⟨h.ev hv.1, ih vs hv.2⟩
    simp only [execOp, key _ _ hf, key _ _ hc]; rfl) k

theorem ow_extract {vs : List Value} {i : Nat} (hw : wantedE ops e ⟨some d, .extract x i, ty, pos, af, g⟩ = some true) (hd : Nat.blt d N = true) (hx : ev e x = some (.tuple vs.toArray)) (hi : vs[i]? = some v)
    (k : OpsW P N R ops rest ((d, v) :: e) L K) : OpsW P N R ops (⟨some d, .extract x i, ty, pos, af, g⟩ :: rest) e L K :=
  ow_pure rfl hw hd (fun a w h => by
    have h1 := h.ev hx
    simp only [execOp, h1, Instr.extract, List.getElem?_toArray, hi]; rfl) k

/-- Any one binary operation, its run given. -/
theorem ow_bin {op : BinOp} {t t' : TypeId} {vx vy : Value} (hw : wantedE ops e ⟨some d, .binOp op t x y t', ty, pos, af, g⟩ = some true) (hd : Nat.blt d N = true)
    (hx : ev e x = some vx) (hy : ev e y = some vy) (hg : ∀ w, (eqGuard op t x y vx vy).run P w = .ok () w) (hr : ∀ w, (binOp op t vx vy).run P w = .ok v w)
    (k : OpsW P N R ops rest ((d, v) :: e) L K) : OpsW P N R ops (⟨some d, .binOp op t x y t', ty, pos, af, g⟩ :: rest) e L K :=
  ow_pure rfl hw hd (fun a w h => by
    have h1 := h.ev hx
    have h2 := h.ev hy
    simp only [execOp, h1, h2]
    have hg' := hg w
    have hr' := hr w
    simp [go_sem, hg', hr']) k

theorem run_guard_int (op : BinOp) (t : TypeId) (k k' : IntKind) (a b : Int) (w : World) : (eqGuard op t x y (.int k a) (.int k' b)).run P w = .ok () w := by
  unfold eqGuard; cases op <;> rfl
theorem run_guard_str (op : BinOp) (t : TypeId) (a b : ByteArray) (w : World) : (eqGuard op t x y (.string a) (.string b)).run P w = .ok () w := by
  unfold eqGuard; cases op <;> rfl
theorem run_guard_ptr (op : BinOp) (t : TypeId) (a b : Option Addr) (w : World) : (eqGuard op t x y (.pointer a) (.pointer b)).run P w = .ok () w := by
  unfold eqGuard; cases op <;> rfl

theorem run_bin_arith {op : BinOp} (t : TypeId) (k : IntKind) (a b : Int) (w : World) : 
    (op = .add → (binOp op t (.int k a) (.int k b)).run P w = .ok (.int k (k.wrap (a + b))) w) ∧
    (op = .sub → (binOp op t (.int k a) (.int k b)).run P w = .ok (.int k (k.wrap (a - b))) w) ∧
    (op = .mul → (binOp op t (.int k a) (.int k b)).run P w = .ok (.int k (k.wrap (a * b))) w) := by
  refine ⟨?_, ?_, ?_⟩ <;> rintro rfl <;> simp [binOp, Op.intArith] <;> rfl

theorem ow_add {t t' : TypeId} {k' : IntKind} {m n : Int} (hw : wantedE ops e ⟨some d, .binOp .add t x y t', ty, pos, af, g⟩ = some true) (hd : Nat.blt d N = true)
    (hx : ev e x = some (.int k' m)) (hy : ev e y = some (.int k' n)) (k : OpsW P N R ops rest ((d, .int k' (k'.wrap (m + n))) :: e) L K) : OpsW P N R ops (⟨some d, .binOp .add t x y t', ty, pos, af, g⟩ :: rest) e L K :=
  ow_bin hw hd hx hy (run_guard_int _ _ _ _ _ _) (fun w => (run_bin_arith t k' m n w).1 rfl) k
theorem ow_sub {t t' : TypeId} {k' : IntKind} {m n : Int} (hw : wantedE ops e ⟨some d, .binOp .sub t x y t', ty, pos, af, g⟩ = some true) (hd : Nat.blt d N = true)
    (hx : ev e x = some (.int k' m)) (hy : ev e y = some (.int k' n)) (k : OpsW P N R ops rest ((d, .int k' (k'.wrap (m - n))) :: e) L K) : OpsW P N R ops (⟨some d, .binOp .sub t x y t', ty, pos, af, g⟩ :: rest) e L K :=
  ow_bin hw hd hx hy (run_guard_int _ _ _ _ _ _) (fun w => (run_bin_arith t k' m n w).2.1 rfl) k
theorem ow_mul {t t' : TypeId} {k' : IntKind} {m n : Int} (hw : wantedE ops e ⟨some d, .binOp .mul t x y t', ty, pos, af, g⟩ = some true) (hd : Nat.blt d N = true)
    (hx : ev e x = some (.int k' m)) (hy : ev e y = some (.int k' n)) (k : OpsW P N R ops rest ((d, .int k' (k'.wrap (m * n))) :: e) L K) : OpsW P N R ops (⟨some d, .binOp .mul t x y t', ty, pos, af, g⟩ :: rest) e L K :=
  ow_bin hw hd hx hy (run_guard_int _ _ _ _ _ _) (fun w => (run_bin_arith t k' m n w).2.2 rfl) k

theorem wrap64_id {n : Int} (h1 : -9223372036854775808 ≤ n) (h2 : n < 9223372036854775808) : IntKind.i64.wrap n = n := by
  simp only [IntKind.wrap]; unfold IntKind.bits; simp [IntKind.signed]; omega
/-- int's sums that fit. -/
theorem ow_add64 {t t' : TypeId} {m n : Int} (hw : wantedE ops e ⟨some d, .binOp .add t x y t', ty, pos, af, g⟩ = some true) (hd : Nat.blt d N = true)
    (hx : ev e x = some (.int .i64 m)) (hy : ev e y = some (.int .i64 n)) (hb : -9223372036854775808 ≤ m + n ∧ m + n < 9223372036854775808)
    (k : OpsW P N R ops rest ((d, .int .i64 (m + n)) :: e) L K) : OpsW P N R ops (⟨some d, .binOp .add t x y t', ty, pos, af, g⟩ :: rest) e L K :=
  ow_add hw hd hx hy (by rw [wrap64_id hb.1 hb.2]; exact k)
theorem ow_sub64 {t t' : TypeId} {m n : Int} (hw : wantedE ops e ⟨some d, .binOp .sub t x y t', ty, pos, af, g⟩ = some true) (hd : Nat.blt d N = true)
    (hx : ev e x = some (.int .i64 m)) (hy : ev e y = some (.int .i64 n)) (hb : -9223372036854775808 ≤ m - n ∧ m - n < 9223372036854775808)
    (k : OpsW P N R ops rest ((d, .int .i64 (m - n)) :: e) L K) : OpsW P N R ops (⟨some d, .binOp .sub t x y t', ty, pos, af, g⟩ :: rest) e L K :=
  ow_sub hw hd hx hy (by rw [wrap64_id hb.1 hb.2]; exact k)
theorem ow_mul64 {t t' : TypeId} {m n : Int} (hw : wantedE ops e ⟨some d, .binOp .mul t x y t', ty, pos, af, g⟩ = some true) (hd : Nat.blt d N = true)
    (hx : ev e x = some (.int .i64 m)) (hy : ev e y = some (.int .i64 n)) (hb : -9223372036854775808 ≤ m * n ∧ m * n < 9223372036854775808)
    (k : OpsW P N R ops rest ((d, .int .i64 (m * n)) :: e) L K) : OpsW P N R ops (⟨some d, .binOp .mul t x y t', ty, pos, af, g⟩ :: rest) e L K :=
  ow_mul hw hd hx hy (by rw [wrap64_id hb.1 hb.2]; exact k)

/-- What a comparison of whole numbers says. -/
def cmpP : BinOp → Int → Int → Prop
  | .eql, m, n => m = n
  | .neq, m, n => m ≠ n
  | .lss, m, n => m < n
  | .leq, m, n => m ≤ n
  | .gtr, m, n => n < m
  | .geq, m, n => n ≤ m
  | _, _, _ => False
def isCmp : BinOp → Bool
  | .eql | .neq | .lss | .leq | .gtr | .geq => true
  | _ => false
instance cmpDec (op : BinOp) (m n : Int) : Decidable (cmpP op m n) := by cases op <;> simp only [cmpP] <;> infer_instance
theorem run_cmp {op : BinOp} (h : isCmp op = true) (t : TypeId) (k : IntKind) (m n : Int) (w : World) : (binOp op t (.int k m) (.int k n)).run P w = .ok (.bool (decide (cmpP op m n))) w := by
  cases op <;> simp [isCmp] at h <;> simp [binOp, Op.intCmp, cmpP] <;> first | rfl | skip
  by_cases hmn : m = n <;> simp [hmn]

/-- A comparison: both ways. -/
theorem ow_cmp {op : BinOp} {t t' : TypeId} {k' : IntKind} {m n : Int} (hc : isCmp op = true) (hw : wantedE ops e ⟨some d, .binOp op t x y t', ty, pos, af, g⟩ = some true) (hd : Nat.blt d N = true)
    (hx : ev e x = some (.int k' m)) (hy : ev e y = some (.int k' n))
    (kt : cmpP op m n → OpsW P N R ops rest ((d, .bool true) :: e) L K) (kf : ¬ cmpP op m n → OpsW P N R ops rest ((d, .bool false) :: e) L K) : OpsW P N R ops (⟨some d, .binOp op t x y t', ty, pos, af, g⟩ :: rest) e L K := by
  refine ow_bin hw hd hx hy (run_guard_int _ _ _ _ _ _) (fun w => run_cmp hc t k' m n w) ?_
  by_cases h : cmpP op m n
  · rw [decide_eq_true h]; exact kt h
  · rw [decide_eq_false h]; exact kf h
/-- A comparison, its answer kept. -/
theorem ow_cmpB {op : BinOp} {t t' : TypeId} {k' : IntKind} {m n : Int} (hc : isCmp op = true) (hw : wantedE ops e ⟨some d, .binOp op t x y t', ty, pos, af, g⟩ = some true) (hd : Nat.blt d N = true)
    (hx : ev e x = some (.int k' m)) (hy : ev e y = some (.int k' n))
    (kt : OpsW P N R ops rest ((d, .bool (decide (cmpP op m n))) :: e) L K) : OpsW P N R ops (⟨some d, .binOp op t x y t', ty, pos, af, g⟩ :: rest) e L K :=
  ow_bin hw hd hx hy (run_guard_int _ _ _ _ _ _) (fun w => run_cmp hc t k' m n w) kt

theorem ow_not {t : TypeId} {b : Bool} (hw : wantedE ops e ⟨some d, .unOp .not t x, ty, pos, af, g⟩ = some true) (hd : Nat.blt d N = true) (hx : ev e x = some (.bool b))
    (k : OpsW P N R ops rest ((d, .bool (!b)) :: e) L K) : OpsW P N R ops (⟨some d, .unOp .not t x, ty, pos, af, g⟩ :: rest) e L K :=
  ow_pure rfl hw hd (fun a w h => by simp only [execOp, h.ev hx]; rfl) k

/-- Any operation whose run is reckoned by the kernel: x's value alone. -/
theorem ow_un {o : Oper} {vx : Value} (hdst : o.dst = some d) (hw : wantedE ops e o = some true) (hd : Nat.blt d N = true) (hx : ev e x = some vx)
    (hr : ∀ (ρ : Operand → Value) (w : World), ρ x = vx → (execOp ρ o).run P w = .ok (.value v) w)
    (k : OpsW P N R ops rest ((d, v) :: e) L K) : OpsW P N R ops (o :: rest) e L K :=
  ow_pure hdst hw hd (fun a w h => hr a.eval w (h.ev hx)) k
end

end Sl
end Go.Proofs.YtgppllppddaodaaGreatDoor

/-
  The rules for operations that touch memory, types or strings, and calls by contract.
-/
namespace Go.Proofs.YtgppllppddaodaaGreatDoor
namespace Sl
open Go

/-! ### Facts of types, each a closed reckoning over a program -/
def plainT (P : Program) (t : TypeId) : Bool := match P.underlying t with | some (.struct _) | some (.array _ _) => false | some _ => true | none => false
def aggT (P : Program) (t : TypeId) : Bool := match P.underlying t with | some (.struct _) | some (.array _ _) => true | _ => false
def sizeT (P : Program) (t : TypeId) : Option Nat := (P.info? t).map (·.size)
def zeroT (P : Program) (t : TypeId) : Option Value := (P.info? t).bind (·.zero)
def fieldT (P : Program) (t : TypeId) (i : Nat) : Option Nat :=
  match P.underlying t with
  | some (.struct fs) => match fs[i]? with
    | some f => match sizeT P f.type with
      | some (_ + 1) => some f.offset
      | _ => none
    | none => none
  | _ => none
def placesT (P : Program) (t : TypeId) : Option (List (Nat × Nat)) :=
  match P.underlying t with
  | some (.struct fs) => fs.toList.mapM fun f => (sizeT P f.type).map fun n => (f.offset, n)
  | _ => none
def elemT (P : Program) (t : TypeId) : Option TypeId := match P.underlying t with | some (.slice e) => some e | _ => none
def strT (P : Program) (t : TypeId) : Bool := match P.underlying t with | some .string => true | _ => false
def concreteT (P : Program) (t : TypeId) : Bool := match P.underlying t with | some (.interface _) => false | some _ => true | none => false
def convT (P : Program) (s t : TypeId) (k : IntKind) : Bool := match P.underlying s, P.underlying t with | some (.int _), some (.int k') => k' = k | _, _ => false
def callT (P : Program) (f : FuncId) : Bool := match P.funcs[f]? with | some fn => fn.name != "runtime.NumGoroutine" && fn.body.isSome | none => false

variable {P : Program} {N : Nat} {R : Heap} {ops : Array Oper} {rest : List Oper} {e : Env} {L : Heap} {K : Env → Heap → Prop}
variable {w : World}

theorem run_underlying {t : TypeId} {d : TypeDesc} (h : P.underlying t = some d) : (underlying t).run P w = .ok d w := by
  unfold underlying; simp [go_sem, h]
theorem run_isAgg_plain {t : TypeId} (h : plainT P t = true) : (isAgg t).run P w = .ok false w := by
  unfold plainT at h
  unfold isAgg
  cases hu : P.underlying t with
  | none => simp [hu] at h
  | some d => cases d <;> simp [hu] at h <;> simp [go_sem, run_underlying hu]
theorem run_isAgg_agg {t : TypeId} (h : aggT P t = true) : (isAgg t).run P w = .ok true w := by
  unfold aggT at h
  unfold isAgg
  cases hu : P.underlying t with
  | none => simp [hu] at h
  | some d => cases d <;> simp [hu] at h <;> simp [go_sem, run_underlying hu]
theorem run_sizeOf {t : TypeId} {n : Nat} (h : sizeT P t = some n) : (sizeOf t).run P w = .ok n w := by
  unfold sizeT at h
  unfold sizeOf typeInfo
  cases hu : P.info? t with
  | none => simp [hu] at h
  | some d => simp [hu] at h; simp [go_sem, hu, h]
theorem run_zeroValue {t : TypeId} {v : Value} (h : zeroT P t = some v) : (zeroValue t).run P w = .ok v w := by
  unfold zeroT at h
  unfold zeroValue typeInfo
  cases hu : P.info? t with
  | none => simp [hu] at h
  | some d => simp [hu] at h; simp [go_sem, hu, h]

/-! ### Cells -/
theorem cell_of {b : Nat} {l : List Value} {T : TypeId} (h : w.heap[b]? = some (cb l T)) (o : Nat) : w.cell? ⟨b, o, none⟩ = l[o]? := by
  simp [World.cell?, h]
theorem frozen_of {b : Nat} {l : List Value} {T : TypeId} (h : w.heap[b]? = some (cb l T)) (o : Nat) : w.frozen? ⟨b, o, none⟩ = false := by
  simp [World.frozen?, h]
theorem setCell_of {b : Nat} {l : List Value} {T : TypeId} (h : w.heap[b]? = some (cb l T)) (o : Nat) (v : Value) : w.setCell ⟨b, o, none⟩ v = setBlk w b (cb (l.set o v) T) := by
  have hb := lt_of_some h
  unfold World.setCell setBlk
  congr 1
  apply Array.ext_getElem?
  intro i
  rw [Array.getElem?_modify, Array.getElem?_setIfInBounds]
  by_cases hi : b = i
  · subst hi
    have hg : w.heap[b] = cb l T := by
      have := h; rw [Array.getElem?_eq_getElem hb] at this; exact Option.some.inj this
    simp [hb, hg]
  · simp [hi]
theorem cellB_of {b : Nat} {l : List Value} {T : TypeId} {f : Nat × Nat} (h : w.heap[b]? = some (.cells l.toArray T f)) (o : Nat) : w.cell? ⟨b, o, none⟩ = l[o]? := by
  simp [World.cell?, h]
theorem add_addr (b o i : Nat) : (⟨b, o, none⟩ : Addr).add i = ⟨b, o + i, none⟩ := by
  unfold Addr.add; split
  · simp_all
  · rfl

theorem run_load_of {b : Nat} {l : List Value} {T : TypeId} {f : Nat × Nat} (h : w.heap[b]? = some (.cells l.toArray T f)) {o : Nat} {v : Value} (hv : l[o]? = some v) : (load ⟨b, o, none⟩).run P w = .ok v w := by
  rw [run_load, cellB_of h, hv]

/-- A chunk that may be read. -/
def In (p : Nat × Obj) (R L : Heap) : Prop := p ∈ L ∨ p ∈ R
theorem In.get {p : Nat × Obj} (h : In p R L) (hh : Holds R L w) : w.heap[p.1]? = some p.2 := h.elim (hh.own p) (hh.ro p)
theorem In.own {p : Nat × Obj} (h : p ∈ L) : In p R L := .inl h
theorem In.ro {p : Nat × Obj} (h : p ∈ R) : In p R L := .inr h

section
variable {d : Nat} {ty : TypeId} {pos : String} {af : Array Edge} {g : Option (Nat × Bool)} {x y : Operand} {v : Value}

theorem dlt (hd : Nat.blt d N = true) : ∀ t, (some d : Option Tmp) = some t → t < N := fun t ht => by cases ht; exact blt_lt hd

theorem ow_load {b o : Nat} {l : List Value} {T t : TypeId} {f : Nat × Nat} (hw : wantedE ops e ⟨some d, .load t x, ty, pos, af, g⟩ = some true) (hd : Nat.blt d N = true)
    (hx : ev e x = some (.pointer (some ⟨b, o, none⟩))) (ht : plainT P t = true) (hm : In (b, .cells l.toArray T f) R L) (hl : l[o]? = some v)
    (k : OpsW P N R ops rest ((d, v) :: e) L K) : OpsW P N R ops (⟨some d, .load t x, ty, pos, af, g⟩ :: rest) e L K :=
  ow_run hw (dlt hd) (fun a w hst => by
    refine ⟨w, .inl ?_, hst.hp, Mv.refl _ _⟩
    have h1 := hst.env.ev hx
    have h2 := hm.get hst.hp
    simp only [execOp, h1, Instr.loadAt, Instr.sureAddr, loadVar]
    simp [go_sem, run_isAgg_plain ht, cellB_of h2, hl]) k

/-- vs: n cells of l from place o on. -/
inductive Sub : List Value → Nat → Nat → List Value → Prop
  | nil {l : List Value} : Sub l 0 0 []
  | take {x : Value} {r vs : List Value} {n : Nat} : Sub r 0 n vs → Sub (x :: r) 0 (n + 1) (x :: vs)
  | skip {x : Value} {r vs : List Value} {o n : Nat} : Sub r o n vs → Sub (x :: r) (o + 1) n vs
theorem Sub.eq {l vs : List Value} {o n : Nat} (h : Sub l o n vs) : (l.drop o).take n = vs ∧ vs.length = n := by
  induction h with
  | nil => simp
  | take _ ih => simpa using ih
  | skip _ ih => simpa using ih
theorem Sub.of {l : List Value} {o n : Nat} (h : o + n ≤ l.length) : Sub l o n ((l.drop o).take n) := by
  induction l generalizing o n with
  | nil => simp at h; obtain ⟨rfl, rfl⟩ := h; exact .nil
  | cons x r ih =>
    cases o with
    | zero => cases n with
      | zero => exact .nil
      | succ n => simp only [List.drop_zero, List.take_succ_cons]; exact .take (by have := ih (o := 0) (n := n) (by simp at h; omega); simpa using this)
    | succ o => simp only [List.drop_succ_cons]; exact .skip (ih (by simp at h; omega))

theorem ow_loadAgg {b o n : Nat} {l vs : List Value} {T t : TypeId} {f : Nat × Nat} (hw : wantedE ops e ⟨some d, .load t x, ty, pos, af, g⟩ = some true) (hd : Nat.blt d N = true)
    (hx : ev e x = some (.pointer (some ⟨b, o, none⟩))) (ht : aggT P t = true) (hs : sizeT P t = some n) (hm : In (b, .cells l.toArray T f) R L) (hsub : Sub l o n vs)
    (k : OpsW P N R ops rest ((d, .agg vs.toArray) :: e) L K) : OpsW P N R ops (⟨some d, .load t x, ty, pos, af, g⟩ :: rest) e L K :=
  ow_run hw (dlt hd) (fun a w hst => by
    refine ⟨w, .inl ?_, hst.hp, Mv.refl _ _⟩
    obtain ⟨hl, hn⟩ := hsub.eq
    have h1 := hst.env.ev hx
    have h2 := hm.get hst.hp
    have h3 : (loadCells ⟨b, o, none⟩ n).run P w = .ok vs.toArray w := by
      have := run_loadCells_list (P := P) (w := w) ⟨b, o, none⟩ vs (fun j u hj => by
        rw [add_addr, cellB_of h2]
        rw [← hl, List.getElem?_take] at hj
        split at hj
        · rwa [List.getElem?_drop] at hj
        · cases hj)
      rw [hn] at this
      exact this
    simp only [execOp, h1, Instr.loadAt, Instr.sureAddr, loadVar]
    unfold loadCells at h3
    simp [go_sem, run_isAgg_agg ht, run_sizeOf hs, h3]) k

/-- l' is l with v at place o. -/
inductive SetL : List Value → Nat → Value → List Value → Prop
  | here {x v : Value} {r : List Value} : SetL (x :: r) 0 v (v :: r)
  | there {x v : Value} {r r' : List Value} {n : Nat} : SetL r n v r' → SetL (x :: r) (n + 1) v (x :: r')
theorem SetL.eq {l l' : List Value} {o : Nat} {v : Value} (h : SetL l o v l') : l' = l.set o v ∧ o < l.length := by
  induction h with
  | here => simp
  | there _ ih => simp [ih.1.symm]; exact ih.2
/-- l' is l with vs from place o on. -/
inductive SetLs : List Value → Nat → List Value → List Value → Prop
  | nil {l : List Value} {o : Nat} : SetLs l o [] l
  | cons {l l' l'' : List Value} {o : Nat} {v : Value} {vs : List Value} : SetL l o v l' → SetLs l' (o + 1) vs l'' → SetLs l o (v :: vs) l''

theorem run_storeCells {b : Nat} {T : TypeId} : ∀ (vs : List Value) (w : World) (l l' : List Value) (i o : Nat), w.heap[b]? = some (cb l T) → SetLs l (o + i) vs l' → (∀ u ∈ vs, u.oneCell' = true) →
    (storeCells ⟨b, o, none⟩ vs i).run P w = .ok () (setBlk w b (cb l' T))
  | [], w, l, l', i, o, h, hs, _ => by
    cases hs
    have : setBlk w b (cb l T) = w := by
      unfold setBlk
      have hb := lt_of_some h
      have : w.heap.setIfInBounds b (cb l T) = w.heap := by
        apply Array.ext_getElem?
        intro j
        rw [Array.getElem?_setIfInBounds]
        split
        · rename_i he; subst he; exact h.symm
        · rfl
      rw [this]
    rw [this]; rfl
  | v :: vs, w, l, l', i, o, h, hs, h1 => by
    cases hs with
    | cons hv hvs =>
      obtain ⟨he, hlt⟩ := hv.eq
      have hst : (store (⟨b, o, none⟩ : Addr) v).run P w = .ok () (setBlk w b (cb (l.set o v) T)) ∨ True := .inr trivial
      clear hst
      unfold storeCells
      rw [add_addr]
      have hone := h1 v (.head _)
      have hc : w.cell? ⟨b, o + i, none⟩ = some (l[o + i]'hlt) := by rw [cell_of h]; simp [hlt]
      have hr := run_store P w ⟨b, o + i, none⟩ v .plain hone
      rw [hc] at hr
      simp only [frozen_of h, Bool.false_eq_true, if_false] at hr
      rw [setCell_of h] at hr
      have hlt' : b < w.heap.size := lt_of_some h
      have h' : (setBlk w b (cb (l.set (o + i) v) T)).heap[b]? = some (cb (l.set (o + i) v) T) := by simp [setBlk, hlt']
      have ih := run_storeCells vs (setBlk w b (cb (l.set (o + i) v) T)) (l.set (o + i) v) l' (i + 1) o h' (by rw [← he]; exact hvs) (fun u hu => h1 u (.tail _ hu))
      have hbind : (do store (⟨b, o + i, none⟩ : Addr) v; storeCells ⟨b, o, none⟩ vs (i + 1) : Sem Unit).run P w = (storeCells ⟨b, o, none⟩ vs (i + 1)).run P (setBlk w b (cb (l.set (o + i) v) T)) := by
        simp [go_sem, hr]
      rw [hbind, ih]
      have : setBlk (setBlk w b (cb (l.set (o + i) v) T)) b (cb l' T) = setBlk w b (cb l' T) := by
        simp [setBlk, Array.setIfInBounds_setIfInBounds]
      rw [this]

theorem ow_storeCells {b o n : Nat} {l l' vs : List Value} {T t : TypeId} {L' : Heap} (hw : wantedE ops e ⟨none, .store t x y, ty, pos, af, g⟩ = some true)
    (hx : ev e x = some (.pointer (some ⟨b, o, none⟩))) (hy : ev e y = some v) (hc : v.cells = vs.toArray) (hs : sizeT P t = some n) (hn : vs.length = n) (h1 : vs.all (·.oneCell') = true)
    (hu : Upd b (cb l T) (cb l' T) L L') (hset : SetLs l o vs l')
    (k : OpsW P N R ops rest e L' K) : OpsW P N R ops (⟨none, .store t x y, ty, pos, af, g⟩ :: rest) e L K :=
  ow_run (v := undef) hw (fun t ht => by cases ht) (fun a w hst => by
    refine ⟨setBlk w b (cb l' T), .inr ⟨?_, rfl⟩, hst.hp.upd hu, Mv.upd hu⟩
    have e1 := hst.env.ev hx
    have e2 := hst.env.ev hy
    have h2 := hst.hp.own _ hu.mem
    have h3 := run_storeCells (P := P) vs w l l' 0 o h2 (by simpa using hset) (by simpa using h1)
    simp only [execOp, e1, e2, Instr.storeAt, Instr.sureAddr, storeVar, hc]
    simp [go_sem, run_sizeOf hs, hn, h3]) k

theorem ow_store {b o : Nat} {l l' : List Value} {T t : TypeId} {L' : Heap} (hw : wantedE ops e ⟨none, .store t x y, ty, pos, af, g⟩ = some true)
    (hx : ev e x = some (.pointer (some ⟨b, o, none⟩))) (hy : ev e y = some v) (hs : sizeT P t = some 1) (h1 : v.oneCell' = true)
    (hu : Upd b (cb l T) (cb l' T) L L') (hset : SetL l o v l')
    (k : OpsW P N R ops rest e L' K) : OpsW P N R ops (⟨none, .store t x y, ty, pos, af, g⟩ :: rest) e L K :=
  ow_storeCells (vs := [v]) hw hx hy (by cases v <;> simp_all [Value.cells, Value.oneCell']) hs rfl (by simpa using h1) hu (.cons hset .nil) k

theorem ow_storeAgg {b o n : Nat} {l l' vs : List Value} {T t : TypeId} {L' : Heap} (hw : wantedE ops e ⟨none, .store t x y, ty, pos, af, g⟩ = some true)
    (hx : ev e x = some (.pointer (some ⟨b, o, none⟩))) (hy : ev e y = some (.agg vs.toArray)) (hs : sizeT P t = some n) (hn : vs.length = n) (h1 : vs.all (·.oneCell') = true)
    (hu : Upd b (cb l T) (cb l' T) L L') (hset : SetLs l o vs l')
    (k : OpsW P N R ops rest e L' K) : OpsW P N R ops (⟨none, .store t x y, ty, pos, af, g⟩ :: rest) e L K :=
  ow_storeCells hw hx hy rfl hs hn h1 hu hset k

theorem ow_newVar {o : Oper} {vs : List Value} {t : TypeId} (hdst : o.dst = some d) (hw : wantedE ops e o = some true) (hd : Nat.blt d N = true)
    (hrun : ∀ (a : Act) (w : World), EnvOk N e a → (execOp a.eval o).run P w = .ok (.value (.pointer (some ⟨w.heap.size, 0, none⟩))) { w with heap := w.heap.push (cb vs t) })
    (k : ∀ b, OpsW P N R ops rest ((d, .pointer (some ⟨b, 0, none⟩)) :: e) ((b, cb vs t) :: L) K) : OpsW P N R ops (o :: rest) e L K :=
  ow_runEx (fun v L' => ∃ b, v = .pointer (some ⟨b, 0, none⟩) ∧ L' = (b, cb vs t) :: L) hw (fun t ht => by rw [hdst] at ht; cases ht; exact blt_lt hd) (fun a w hst =>
    ⟨_, _, _, ⟨w.heap.size, rfl, rfl⟩, hrun a w hst.env, hst.hp.alloc _, Mv.alloc _ _ _⟩)
    (fun v L' ⟨b, hv, hL⟩ => by rw [hv, hL, hdst]; exact k b)

theorem ow_alloc {z : Value} {vs : List Value} {t : TypeId} (hw : wantedE ops e ⟨some d, .alloc t, ty, pos, af, g⟩ = some true) (hd : Nat.blt d N = true) (hz : zeroT P t = some z) (hc : z.cells = vs.toArray)
    (k : ∀ b, OpsW P N R ops rest ((d, .pointer (some ⟨b, 0, none⟩)) :: e) ((b, cb vs t) :: L) K) : OpsW P N R ops (⟨some d, .alloc t, ty, pos, af, g⟩ :: rest) e L K :=
  ow_newVar rfl hw hd (fun a w _ => by
    simp only [execOp, Instr.alloc]
    simp [go_sem, run_zeroValue hz, newVar, newRow]
    show w.alloc (.cells z.cells t) = _
    rw [hc]) k

theorem ow_box {vx : Value} {vs : List Value} {t : TypeId} (hw : wantedE ops e ⟨some d, .box t x, ty, pos, af, g⟩ = some true) (hd : Nat.blt d N = true) (hx : ev e x = some vx) (hc : vx.cells = vs.toArray)
    (k : ∀ b, OpsW P N R ops rest ((d, .pointer (some ⟨b, 0, none⟩)) :: e) ((b, cb vs t) :: L) K) : OpsW P N R ops (⟨some d, .box t x, ty, pos, af, g⟩ :: rest) e L K :=
  ow_newVar rfl hw hd (fun a w h => by
    simp only [execOp, h.ev hx, Instr.box]
    simp [go_sem, newVar, newRow]
    show w.alloc (.cells vx.cells t) = _
    rw [hc]) k

theorem run_fieldPlace {a : Addr} {f : Field} {n : Nat} (h : sizeT P f.type = some (n + 1)) : (fieldPlace a f).run P w = .ok (a.add f.offset) w := by
  unfold fieldPlace; simp [go_sem, run_sizeOf h]

theorem ow_fieldAddr {b o off i : Nat} {t : TypeId} (o' : Nat) (hw : wantedE ops e ⟨some d, .fieldAddr t x i, ty, pos, af, g⟩ = some true) (hd : Nat.blt d N = true)
    (hx : ev e x = some (.pointer (some ⟨b, o, none⟩))) (hf : fieldT P t i = some off) (ho : o + off = o')
    (k : OpsW P N R ops rest ((d, .pointer (some ⟨b, o', none⟩)) :: e) L K) : OpsW P N R ops (⟨some d, .fieldAddr t x i, ty, pos, af, g⟩ :: rest) e L K :=
  ow_pure rfl hw hd (fun a w h => by
    have h1 := h.ev hx
    unfold fieldT at hf
    split at hf
    · rename_i fs hu
      split at hf
      · rename_i f hfi
        split at hf
        · rename_i n hs
          cases hf
          simp only [execOp, h1, Instr.fieldAt, Instr.sureAddr]
          simp [go_sem, run_underlying hu, hfi, run_sizeOf hs, add_addr, ho]
        · cases hf
      · cases hf
    · cases hf) k

theorem ow_indexAddr {b o sz len cap : Nat} {t el : TypeId} {kk : IntKind} {i : Nat} (hw : wantedE ops e ⟨some d, .indexAddr t x y, ty, pos, af, g⟩ = some true) (hd : Nat.blt d N = true)
    (hx : ev e x = some (.slice (some ⟨b, o, none⟩) len cap)) (hy : ev e y = some (.int kk (i : Int))) (ht : elemT P t = some el) (hs : sizeT P el = some sz) (hi : i < len)
    (k : OpsW P N R ops rest ((d, .pointer (some ⟨b, o + i * sz, none⟩)) :: e) L K) : OpsW P N R ops (⟨some d, .indexAddr t x y, ty, pos, af, g⟩ :: rest) e L K :=
  ow_pure rfl hw hd (fun a w h => by
    unfold elemT at ht
    split at ht
    · rename_i el' hu
      cases ht
      simp only [execOp, h.ev hx, h.ev hy, Instr.indexAt]
      have : (i : Int) < (len : Int) := by omega
      simp [go_sem, asIntOf, run_underlying hu, run_sizeOf hs, add_addr, hi]
    · cases ht) k

theorem ow_makeInterface {t : TypeId} (hw : wantedE ops e ⟨some d, .makeInterface t x, ty, pos, af, g⟩ = some true) (hd : Nat.blt d N = true) (hx : ev e x = some v) (ht : concreteT P t = true)
    (k : OpsW P N R ops rest ((d, .iface t v) :: e) L K) : OpsW P N R ops (⟨some d, .makeInterface t x, ty, pos, af, g⟩ :: rest) e L K :=
  ow_pure rfl hw hd (fun a w h => by
    unfold concreteT at ht
    cases hu : P.underlying t with
    | none => simp [hu] at ht
    | some ds => cases ds <;> simp [hu] at ht <;> simp only [execOp, h.ev hx, Instr.makeInterface] <;> simp [go_sem, run_underlying hu]) k

theorem ow_convInt {s t : TypeId} {k' kd : IntKind} {n : Int} (hw : wantedE ops e ⟨some d, .convert s t x, ty, pos, af, g⟩ = some true) (hd : Nat.blt d N = true) (hx : ev e x = some (.int k' n)) (ht : convT P s t kd = true)
    (k : OpsW P N R ops rest ((d, .int kd (kd.wrap n)) :: e) L K) : OpsW P N R ops (⟨some d, .convert s t x, ty, pos, af, g⟩ :: rest) e L K :=
  ow_pure rfl hw hd (fun a w h => by
    unfold convT at ht
    cases hu : P.underlying s with
    | none => simp [hu] at ht
    | some ds =>
      cases hu' : P.underlying t with
      | none => simp [hu, hu'] at ht
      | some dt =>
        cases ds <;> simp [hu, hu'] at ht
        cases dt <;> simp at ht
        subst ht
        simp only [execOp, h.ev hx, convert]
        simp [go_sem, run_underlying hu, run_underlying hu', Conv.intToInt]) k

theorem ow_assert_yes {st t : TypeId} (hw : wantedE ops e ⟨some d, .typeAssert x st t true, ty, pos, af, g⟩ = some true) (hd : Nat.blt d N = true) (hx : ev e x = some (.iface t v)) (ht : concreteT P t = true)
    (k : OpsW P N R ops rest ((d, .tuple #[v, .bool true]) :: e) L K) : OpsW P N R ops (⟨some d, .typeAssert x st t true, ty, pos, af, g⟩ :: rest) e L K :=
  ow_pure rfl hw hd (fun a w h => by
    unfold concreteT at ht
    cases hu : P.underlying t with
    | none => simp [hu] at ht
    | some ds => cases ds <;> simp [hu] at ht <;> simp only [execOp, h.ev hx, Instr.typeAssert] <;> simp [go_sem, run_underlying hu]) k
theorem ow_assert_no {st t u : TypeId} {z : Value} (hw : wantedE ops e ⟨some d, .typeAssert x st t true, ty, pos, af, g⟩ = some true) (hd : Nat.blt d N = true) (hx : ev e x = some (.iface u v)) (hne : Nat.beq u t = false) (ht : concreteT P t = true) (hz : zeroT P t = some z)
    (k : OpsW P N R ops rest ((d, .tuple #[z, .bool false]) :: e) L K) : OpsW P N R ops (⟨some d, .typeAssert x st t true, ty, pos, af, g⟩ :: rest) e L K :=
  ow_pure rfl hw hd (fun a w h => by
    unfold concreteT at ht
    have hne' : ¬ u = t := fun h => by subst h; simp at hne
    cases hu : P.underlying t with
    | none => simp [hu] at ht
    | some ds => cases ds <;> simp [hu] at ht <;> simp only [execOp, h.ev hx, Instr.typeAssert] <;> simp [go_sem, run_underlying hu, hne', run_zeroValue hz]) k
theorem ow_assert_nil {st t : TypeId} {z : Value} (hw : wantedE ops e ⟨some d, .typeAssert x st t true, ty, pos, af, g⟩ = some true) (hd : Nat.blt d N = true) (hx : ev e x = some .nilIface) (ht : concreteT P t = true) (hz : zeroT P t = some z)
    (k : OpsW P N R ops rest ((d, .tuple #[z, .bool false]) :: e) L K) : OpsW P N R ops (⟨some d, .typeAssert x st t true, ty, pos, af, g⟩ :: rest) e L K :=
  ow_pure rfl hw hd (fun a w h => by
    unfold concreteT at ht
    cases hu : P.underlying t with
    | none => simp [hu] at ht
    | some ds => cases ds <;> simp [hu] at ht <;> simp only [execOp, h.ev hx, Instr.typeAssert] <;> simp [go_sem, run_underlying hu, run_zeroValue hz]) k
end

end Sl
end Go.Proofs.YtgppllppddaodaaGreatDoor

/-
  The rules for strings, slices, append, ranges over strings, maps keyed by strings, and calls.
-/
namespace Go.Proofs.YtgppllppddaodaaGreatDoor
namespace Sl
open Go

variable {P : Program} {N : Nat} {R : Heap} {ops : Array Oper} {rest : List Oper} {e : Env} {L : Heap} {K : Env → Heap → Prop}
variable {w : World}

/-- A string of these bytes. -/
abbrev bs (l : List UInt8) : ByteArray := ⟨l.toArray⟩
abbrev str (l : List UInt8) : Value := .string ⟨l.toArray⟩

theorem evs_of {N : Nat} {e : Env} {a : Act} (h : EnvOk N e a) (xs : Array Operand) (vs : List Value) (hv : xs.toList.map (ev e) = vs.map some) : xs.map a.eval = vs.toArray := by
  apply Array.ext'
  rw [Array.toList_map]
  generalize xs.toList = l at hv
  induction l generalizing vs with
  | nil => cases vs <;> simp_all
  | cons o l ih =>
    cases vs with
    | nil => simp at hv
    | cons u vs =>
      simp only [List.map_cons, List.cons.injEq] at hv
      simp only [List.map_cons, List.cons.injEq]
      exact ⟨h.ev hv.1, ih vs hv.2⟩

theorem underlying_str {t : TypeId} (h : strT P t = true) : P.underlying t = some .string := by
  unfold strT at h; split at h
  · assumption
  · cases h
theorem underlying_slice {t el : TypeId} (h : elemT P t = some el) : P.underlying t = some (.slice el) := by
  unfold elemT at h; split at h
  · cases h; assumption
  · cases h

section
variable {d : Nat} {ty : TypeId} {pos : String} {af : Array Edge} {g : Option (Nat × Bool)} {x y : Operand} {v : Value}

theorem ow_lenStr {l : List UInt8} {t : TypeId} (hw : wantedE ops e ⟨some d, .call ⟨.builtin .len, #[x], #[t]⟩, ty, pos, af, g⟩ = some true) (hd : Nat.blt d N = true) (hx : ev e x = some (str l)) (ht : strT P t = true)
    (k : OpsW P N R ops rest ((d, .int .i64 l.length) :: e) L K) : OpsW P N R ops (⟨some d, .call ⟨.builtin .len, #[x], #[t]⟩, ty, pos, af, g⟩ :: rest) e L K :=
  ow_pure rfl hw hd (fun a w h => by
    have h1 := h.ev hx
    have hr : (Builtin.len_ #[t] ty #[str l]).run P w = .ok (goInt (⟨l.toArray⟩ : ByteArray).size) w := by
      unfold Builtin.len_; simp [go_sem, run_underlying (underlying_str ht)]
    simp only [execOp, resolve, invoke, builtin, h1, Sem.run_bind, Sem.run_pure, Result.andThen_ok, List.map_toArray, List.map_cons, List.map_nil, hr]
    rfl) k

theorem ow_lenSl {ad : Option Addr} {n c : Nat} {t el : TypeId} (hw : wantedE ops e ⟨some d, .call ⟨.builtin .len, #[x], #[t]⟩, ty, pos, af, g⟩ = some true) (hd : Nat.blt d N = true) (hx : ev e x = some (.slice ad n c)) (ht : elemT P t = some el)
    (k : OpsW P N R ops rest ((d, .int .i64 n) :: e) L K) : OpsW P N R ops (⟨some d, .call ⟨.builtin .len, #[x], #[t]⟩, ty, pos, af, g⟩ :: rest) e L K :=
  ow_pure rfl hw hd (fun a w h => by
    have h1 := h.ev hx
    have hr : (Builtin.len_ #[t] ty #[.slice ad n c]).run P w = .ok (goInt n) w := by
      unfold Builtin.len_; simp [go_sem, run_underlying (underlying_slice ht)]
    simp only [execOp, resolve, invoke, builtin, h1, Sem.run_bind, Sem.run_pure, Result.andThen_ok, List.map_toArray, List.map_cons, List.map_nil, hr]
    rfl) k

theorem ow_idxStr {l : List UInt8} {t : TypeId} {kk : IntKind} {i : Nat} {c : UInt8} (hw : wantedE ops e ⟨some d, .index t x y, ty, pos, af, g⟩ = some true) (hd : Nat.blt d N = true) (hx : ev e x = some (str l)) (hy : ev e y = some (.int kk (i : Int))) (ht : strT P t = true) (hi : l[i]? = some c)
    (k : OpsW P N R ops rest ((d, .int .u8 c.toNat) :: e) L K) : OpsW P N R ops (⟨some d, .index t x y, ty, pos, af, g⟩ :: rest) e L K :=
  ow_pure rfl hw hd (fun a w h => by
    have h0 : (⟨l.toArray⟩ : ByteArray)[i]? = some c := by
      have hlt : i < l.length := by
        rcases Nat.lt_or_ge i l.length with h' | h'
        · exact h'
        · simp [List.getElem?_eq_none h'] at hi
      have hlt' : i < (⟨l.toArray⟩ : ByteArray).size := by simpa [ByteArray.size] using hlt
      rw [getElem?_pos (⟨l.toArray⟩ : ByteArray) i hlt']
      rw [List.getElem?_eq_getElem hlt] at hi
      rw [← hi]; congr 1
    simp only [execOp, h.ev hx, h.ev hy, Instr.index]
    simp [go_sem, asIntOf, run_underlying (underlying_str ht), h0]) k

theorem extract_bs (l : List UInt8) (a b : Nat) : (⟨l.toArray⟩ : ByteArray).extract a b = ⟨((l.drop a).take (b - a)).toArray⟩ := by
  have := Lib.extract_data ⟨l.toArray⟩ a b
  cases hx : (⟨l.toArray⟩ : ByteArray).extract a b with
  | mk d => rw [hx] at this; congr 1; apply Array.ext'; rw [this]

theorem run_sliceStr {t : TypeId} (ht : strT P t = true) (s : ByteArray) {vlo vhi : Option Value} {i j : Nat} (hi1 : (vlo = none ∧ i = 0) ∨ vlo = some (.int .i64 i)) (hj1 : (vhi = none ∧ j = s.size) ∨ vhi = some (.int .i64 j)) (h1 : i ≤ j) (h2 : j ≤ s.size) (w : World) :
    (Instr.sliceAt t (.string s) vlo vhi none).run P w = .ok (.string (s.extract i j)) w := by
  have hj2 : ((j : Nat) : Int) ≤ (s.size : Int) := by omega
  have hi2 : (i : Int) ≤ (j : Int) := by omega
  have hi3 : i ≤ s.size := by omega
  simp only [Instr.sliceAt, go_sem]
  rcases hi1 with ⟨rfl, rfl⟩ | rfl <;> rcases hj1 with ⟨rfl, rfl⟩ | rfl <;>
    simp [go_sem, Instr.slice, Instr.sliceBounds, run_underlying (underlying_str ht), Instr.sliceBound, asIntOf, h1, h2]

/-- What a slice expression over a string leaves. -/
theorem ow_sliceStr {l : List UInt8} {t : TypeId} {lo hi : Option Operand} {vlo vhi : Option Value} {i j : Nat} (hw : wantedE ops e ⟨some d, .slice t x lo hi none, ty, pos, af, g⟩ = some true) (hd : Nat.blt d N = true) (hx : ev e x = some (str l)) (ht : strT P t = true)
    (hlo : (lo.map (ev e)) = vlo.map some) (hhi : (hi.map (ev e)) = vhi.map some)
    (hi1 : (vlo = none ∧ i = 0) ∨ vlo = some (.int .i64 i)) (hj1 : (vhi = none ∧ j = l.length) ∨ vhi = some (.int .i64 j)) (h1 : i ≤ j) (h2 : j ≤ l.length)
    (k : OpsW P N R ops rest ((d, str ((l.drop i).take (j - i))) :: e) L K) : OpsW P N R ops (⟨some d, .slice t x lo hi none, ty, pos, af, g⟩ :: rest) e L K :=
  ow_pure rfl hw hd (fun a w h => by
    have elo : lo.map a.eval = vlo := by
      cases lo with
      | none => cases vlo <;> simp_all
      | some o => cases vlo with
        | none => simp at hlo
        | some u => simp only [Option.map_some, Option.some.injEq] at hlo ⊢; exact h.ev hlo
    have ehi : hi.map a.eval = vhi := by
      cases hi with
      | none => cases vhi <;> simp_all
      | some o => cases vhi with
        | none => simp at hhi
        | some u => simp only [Option.map_some, Option.some.injEq] at hhi ⊢; exact h.ev hhi
    have hr := run_sliceStr (P := P) ht ⟨l.toArray⟩ hi1 hj1 h1 h2 w
    rw [extract_bs] at hr
    simp only [execOp, h.ev hx, elo, ehi, Option.map_none, Sem.run_bind, Sem.run_pure, Result.andThen_ok, hr]) k

/-- A slice expression over a slice. -/
theorem ow_sliceSl {ad : Option Addr} {n c sz : Nat} {t el : TypeId} {lo hi : Option Operand} {vlo vhi : Option Value} {i j : Nat} (hw : wantedE ops e ⟨some d, .slice t x lo hi none, ty, pos, af, g⟩ = some true) (hd : Nat.blt d N = true) (hx : ev e x = some (.slice ad n c)) (ht : elemT P t = some el) (hs : sizeT P el = some sz)
    (hlo : (lo.map (ev e)) = vlo.map some) (hhi : (hi.map (ev e)) = vhi.map some)
    (hi1 : (vlo = none ∧ i = 0) ∨ vlo = some (.int .i64 i)) (hj1 : (vhi = none ∧ j = n) ∨ vhi = some (.int .i64 j)) (h1 : i ≤ j) (h2 : j ≤ c)
    (k : OpsW P N R ops rest ((d, .slice (if c = i then ad else ad.map (·.add (i * sz))) (j - i) (c - i)) :: e) L K) : OpsW P N R ops (⟨some d, .slice t x lo hi none, ty, pos, af, g⟩ :: rest) e L K :=
  ow_pure rfl hw hd (fun a w h => by
    have elo : lo.map a.eval = vlo := by
      cases lo with
      | none => cases vlo <;> simp_all
      | some o => cases vlo with
        | none => simp at hlo
        | some u => simp only [Option.map_some, Option.some.injEq] at hlo ⊢; exact h.ev hlo
    have ehi : hi.map a.eval = vhi := by
      cases hi with
      | none => cases vhi <;> simp_all
      | some o => cases vhi with
        | none => simp at hhi
        | some u => simp only [Option.map_some, Option.some.injEq] at hhi ⊢; exact h.ev hhi
    have hj2 : ((j : Nat) : Int) ≤ (c : Int) := by omega
    have hi2 : (i : Int) ≤ (j : Int) := by omega
    simp only [execOp, h.ev hx, elo, ehi, Instr.sliceAt]
    simp only [go_sem, Option.map_none]
    rcases hi1 with ⟨rfl, rfl⟩ | rfl <;> rcases hj1 with ⟨rfl, rfl⟩ | rfl <;>
      simp [go_sem, Instr.slice, Instr.sliceBounds, run_underlying (underlying_slice ht), Instr.sliceBound, asIntOf, run_sizeOf hs, h1, h2]) k

theorem bs_toList (l : List UInt8) : (⟨l.toArray⟩ : ByteArray).toList = l := by rw [Lib.toList_data]

theorem ow_concat {l m : List UInt8} {t t' : TypeId} (hw : wantedE ops e ⟨some d, .binOp .add t x y t', ty, pos, af, g⟩ = some true) (hd : Nat.blt d N = true) (hx : ev e x = some (str l)) (hy : ev e y = some (str m)) (hb : l.length + m.length ≤ 9223372036854775807)
    (k : OpsW P N R ops rest ((d, str (l ++ m)) :: e) L K) : OpsW P N R ops (⟨some d, .binOp .add t x y t', ty, pos, af, g⟩ :: rest) e L K :=
  ow_bin hw hd hx hy (fun w => run_guard_str _ _ _ _ w) (fun w => by
    have h0 : ¬ ((((⟨l.toArray⟩ : ByteArray).size + (⟨m.toArray⟩ : ByteArray).size : Nat) : Int) > IntKind.i64.max) := by
      simp [ByteArray.size, IntKind.max, IntKind.signed, IntKind.bits]; omega
    simp only [binOp, Op.stringOp, if_neg h0]
    have : (⟨l.toArray⟩ : ByteArray) ++ ⟨m.toArray⟩ = ⟨(l ++ m).toArray⟩ := by
      apply ByteArray.ext; simp
    simp [go_sem, this]) k

theorem run_streq (t : TypeId) (l m : List UInt8) (w : World) : (binOp .eql t (str l) (str m)).run P w = .ok (.bool (decide (l = m))) w ∧ (binOp .neq t (str l) (str m)).run P w = .ok (.bool (decide (l ≠ m))) w := by
  constructor
  · simp only [binOp, Op.stringOp, bs_toList]
    by_cases h : l = m <;> simp [go_sem, h]
  · simp only [binOp, Op.stringOp, bs_toList]
    by_cases h : l = m <;> simp [go_sem, h]

theorem ow_streq {l m : List UInt8} {t t' : TypeId} (hw : wantedE ops e ⟨some d, .binOp .eql t x y t', ty, pos, af, g⟩ = some true) (hd : Nat.blt d N = true) (hx : ev e x = some (str l)) (hy : ev e y = some (str m))
    (kt : l = m → OpsW P N R ops rest ((d, .bool true) :: e) L K) (kf : l ≠ m → OpsW P N R ops rest ((d, .bool false) :: e) L K) : OpsW P N R ops (⟨some d, .binOp .eql t x y t', ty, pos, af, g⟩ :: rest) e L K := by
  refine ow_bin hw hd hx hy (fun w => run_guard_str _ _ _ _ w) (fun w => (run_streq t l m w).1) ?_
  by_cases h : l = m
  · rw [decide_eq_true h]; exact kt h
  · rw [decide_eq_false h]; exact kf h
theorem ow_strne {l m : List UInt8} {t t' : TypeId} (hw : wantedE ops e ⟨some d, .binOp .neq t x y t', ty, pos, af, g⟩ = some true) (hd : Nat.blt d N = true) (hx : ev e x = some (str l)) (hy : ev e y = some (str m))
    (kt : l ≠ m → OpsW P N R ops rest ((d, .bool true) :: e) L K) (kf : l = m → OpsW P N R ops rest ((d, .bool false) :: e) L K) : OpsW P N R ops (⟨some d, .binOp .neq t x y t', ty, pos, af, g⟩ :: rest) e L K := by
  refine ow_bin hw hd hx hy (fun w => run_guard_str _ _ _ _ w) (fun w => (run_streq t l m w).2) ?_
  by_cases h : l = m
  · rw [decide_eq_false (by simpa using h)]; exact kf h
  · rw [decide_eq_true h]; exact kt h

/-! ### A slice that owns its row -/
def rowT (P : Program) (t : TypeId) : Option (TypeId × Nat × Nat) :=
  match P.underlying t with
  | some (.slice el) => match P.info? el with
    | some i => match i.zero with
      | some z => if z.cells.size = i.size ∧ 0 < i.size then some (el, i.size, i.bytes) else none
      | none => none
    | none => none
  | _ => none

inductive OwnS (T : TypeId) (size : Nat) : Value → Heap → Nat → List Value → Prop
  | nil : OwnS T size (.slice none 0 0) [] 0 []
  | row (b cap n : Nat) (cells xs : List Value) : n ≤ cap → cap ≤ maxLen → cells.length = cap * size → cells.take (n * size) = xs → OwnS T size (.slice (some ⟨b, 0, none⟩) n cap) [(b, cb cells T)] n xs

theorem OwnS.len {T : TypeId} {size : Nat} {v : Value} {A : Heap} {n : Nat} {xs : List Value} (h : OwnS T size v A n xs) : xs.length = n * size := by
  cases h with
  | nil => simp
  | row b cap n cells xs h1 h2 h3 h4 =>
    rw [← h4, List.length_take, h3]
    exact Nat.min_eq_left (Nat.mul_le_mul_right _ h1)

theorem OwnS.owns {T : TypeId} {size : Nat} {v : Value} {A F : Heap} {n : Nat} {xs : List Value} (h : OwnS T size v A n xs) (hh : Holds R (A ++ F) w) : w.ownsRow 0 T size v n xs := by
  refine ⟨h.len, ?_⟩
  cases h with
  | nil => exact .inl ⟨rfl, rfl⟩
  | row b cap n cells xs h1 h2 h3 h4 =>
    exact .inr ⟨b, cap, cells.toArray, rfl, Nat.zero_le _, hh.own (b, cb cells T) (by simp), h1, h2, by simpa using h3, by simpa using h4⟩

theorem ow_append {t el : TypeId} {size bytes : Nat} {sv : Value} {A F : Heap} {n m c b o : Nat} {xs news l : List Value} {T : TypeId} {fz : Nat × Nat}
    (hw : wantedE ops e ⟨some d, .call ⟨.builtin .append, #[x, y], #[t, t]⟩, ty, pos, af, g⟩ = some true) (hd : Nat.blt d N = true)
    (hx : ev e x = some sv) (hy : ev e y = some (.slice (some ⟨b, o, none⟩) m c)) (ht : rowT P t = some (el, size, bytes))
    (hown : OwnS el size sv A n xs) (hsp : Split L A F) (hm : In (b, .cells l.toArray T fz) R L) (hl : (l.drop o).take (m * size) = news) (hlen : news.length = m * size) (h1 : ∀ u ∈ news, u.oneCell' = true)
    (hm0 : 0 < m) (h63 : n + m ≤ maxLen) (hby : (n + m) * bytes ≤ 140737488355328)
    (k : ∀ sv' A', OwnS el size sv' A' (n + m) (xs ++ news) → OpsW P N R ops rest ((d, sv') :: e) (A' ++ F) K) : OpsW P N R ops (⟨some d, .call ⟨.builtin .append, #[x, y], #[t, t]⟩, ty, pos, af, g⟩ :: rest) e L K := by
  refine ow_runEx (fun v L' => ∃ A', OwnS el size v A' (n + m) (xs ++ news) ∧ L' = A' ++ F) hw (dlt hd) (fun a w hst => ?_) (fun v L' ⟨A', hA, hL⟩ => by rw [hL]; exact k v A' hA)
  unfold rowT at ht
  split at ht
  · rename_i el' hu
    split at ht
    · rename_i i hi
      split at ht
      · rename_i z hz
        split at ht
        · rename_i hcond
          simp only [Option.some.injEq, Prod.mk.injEq] at ht
          obtain ⟨rfl, hsz, hbz⟩ := ht
          have hpr := hst.hp.perm hsp.perm
          have hrow := hown.owns hpr
          have hnews : ∀ j u, news[j]? = some u → w.cell? ((⟨b, o, none⟩ : Addr).add j) = some u := fun j u hj => by
            have h2 := hm.get hst.hp
            rw [add_addr, cellB_of h2]
            rw [← hl, List.getElem?_take] at hj
            split at hj
            · rwa [List.getElem?_drop] at hj
            · cases hj
          obtain ⟨gg, cap, w', hr, h2, h3, h4, h5⟩ := run_append_lies (P := P) (w := w) t ty 0 el' i z size bytes hu hi hz hsz hbz (hcond.1.trans hsz) (hsz ▸ hcond.2) sv n xs hrow
            ⟨b, o, none⟩ m c news hlen hnews h1 hm0 h63 hby (Nat.zero_le _) _ rfl
          obtain ⟨hx1, hx2⟩ := h2
          rcases hx2 with ⟨hx2, _⟩ | ⟨g', cap', cur, hv, _, hg, hncap, hcap, hcs, htk⟩
          · cases hx2
          · simp only [Value.slice.injEq, Option.some.injEq, Addr.mk.injEq] at hv
            obtain ⟨⟨rfl, -, -⟩, -, rfl⟩ := hv
            refine ⟨_, [(gg, cb cur.toList el')] ++ F, w', ⟨_, .row gg cap (n + m) cur.toList _ hncap hcap (by simpa using hcs) htk, rfl⟩, ?_, ?_, ?_⟩
            · have e1 := hst.env.ev hx
              have e2 := hst.env.ev hy
              simp only [execOp, resolve, invoke, builtin, Sem.run_bind, Sem.run_pure, Result.andThen_ok, List.map_toArray, List.map_cons, List.map_nil, e1, e2, hr]
            · -- what is held behind it
              have hgF : ∀ q ∈ F, q.1 ≠ gg := fun q hq he => by
                rcases h4 with h4 | h4
                · cases hown with
                  | nil => cases h4
                  | row b' cap' n cells xs _ _ _ _ =>
                    simp only [Value.ownBlock, Option.some.injEq] at h4
                    have hnd := hpr.nd
                    simp only [keys, List.singleton_append, List.map_cons, List.nodup_cons] at hnd
                    exact hnd.1 (by rw [h4, ← he]; exact List.mem_map_of_mem hq)
                · have := lt_of_some (hpr.own q (List.mem_append_right _ hq)); omega
              have hkeepF : ∀ q ∈ F, w'.heap[q.1]? = some q.2 := fun q hq => by
                rw [← hpr.own q (List.mem_append_right _ hq)]
                refine h3.block _ (lt_of_some (hpr.own q (List.mem_append_right _ hq))) fun he => ?_
                cases hown with
                | nil => cases he
                | row b' cap' n cells xs _ _ _ _ =>
                  simp only [Value.ownBlock, Option.some.injEq] at he
                  have hnd := hpr.nd
                  simp only [keys, List.singleton_append, List.map_cons, List.nodup_cons] at hnd
                  exact hnd.1 (by rw [← he]; exact List.mem_map_of_mem hq)
              have hndF : (keys F).Nodup := by
                have hnd := hpr.nd
                rw [keys, List.map_append] at hnd
                exact (List.nodup_append.1 hnd).2.1
              refine ⟨fun q hq => ?_, fun q hq => ?_, ?_, fun q hq hk => ?_⟩
              · rw [← hpr.ro q hq]
                refine h3.block _ (lt_of_some (hpr.ro q hq)) fun he => ?_
                cases hown with
                | nil => cases he
                | row b' cap' n cells xs _ _ _ _ =>
                  simp only [Value.ownBlock, Option.some.injEq] at he
                  exact hpr.dj q hq (by simp [keys, he])
              · simp only [List.singleton_append] at hq
                cases hq with
                | head => simpa using hg
                | tail _ hq => exact hkeepF q hq
              · simp only [keys, List.singleton_append, List.map_cons, List.nodup_cons]
                refine ⟨fun hm => ?_, hndF⟩
                obtain ⟨q, hq, he⟩ := List.mem_map.1 hm
                exact hgF q hq he
              · simp only [keys, List.singleton_append, List.map_cons, List.mem_cons] at hk
                rcases hk with hk | hk
                · rcases h4 with h4 | h4
                  · cases hown with
                    | nil => cases h4
                    | row b' cap' n cells xs _ _ _ _ =>
                      simp only [Value.ownBlock, Option.some.injEq] at h4
                      exact hpr.dj q hq (by simp [keys, h4, hk])
                  · have := lt_of_some (hpr.ro q hq); omega
                · exact hpr.dj q hq (by rw [keys, List.map_append]; exact List.mem_append_right _ hk)
            · refine ⟨h3.os, h3.tape, h3.output, h3.size, fun q hq hn => ?_, fun q hq => ?_⟩
              · refine h3.block q hq fun he => hn ?_
                have hkk := hsp.keys
                cases hown with
                | nil => cases he
                | row b' cap' n cells xs _ _ _ _ =>
                  simp only [Value.ownBlock, Option.some.injEq] at he
                  exact hkk q (by simp [keys, he])
              · simp only [keys, List.singleton_append, List.map_cons, List.mem_cons] at hq
                rcases hq with hq | hq
                · rcases h4 with h4 | h4
                  · cases hown with
                    | nil => cases h4
                    | row b' cap' n cells xs _ _ _ _ =>
                      simp only [Value.ownBlock, Option.some.injEq] at h4
                      exact .inl (hsp.keys q (by simp [keys, h4, hq]))
                  · exact .inr (by omega)
                · exact .inl (((hsp.perm.map Prod.fst).mem_iff).2 (by rw [List.map_append]; exact List.mem_append_right _ hq))
        · cases ht
      · cases ht
    · cases ht
  · cases ht
end

end Sl
end Go.Proofs.YtgppllppddaodaaGreatDoor
