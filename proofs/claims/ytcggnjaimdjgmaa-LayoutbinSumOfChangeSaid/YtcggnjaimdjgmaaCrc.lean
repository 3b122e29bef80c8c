/- The CRC-32's step on natural numbers: that it is what Go's operations come to, and that it loses nothing. Plain mathematics: no program is named here. -/
import Derived.Laws.Entries
import Derived.WalkKit
import Derived.Laws.Bits64
namespace Go.Proofs.Ytcggnjaimdjgmaa.Crc

theorem wrap_u32 (n : Int) : IntKind.u32.wrap n = n % 4294967296 := by simp [IntKind.wrap, IntKind.bits, IntKind.signed]
theorem toNat32 (a : Nat) (h : a < 4294967296) : (BitVec.ofInt 32 (a : Int)).toNat = a := by
  rw [BitVec.ofInt_natCast, BitVec.toNat_ofNat]; exact Nat.mod_eq_of_lt (by omega)
theorem bits_xor (a b : Nat) (ha : a < 4294967296) (hb : b < 4294967296) : Go.bits .xor .u32 (a : Int) (b : Int) = ((a ^^^ b : Nat) : Int) := by
  have hx : a ^^^ b < 2 ^ 32 := Nat.xor_lt_two_pow (by omega) (by omega)
  show IntKind.u32.wrap ((BitVec.ofInt 32 (a : Int) ^^^ BitVec.ofInt 32 (b : Int)).toNat : Int) = _
  rw [BitVec.toNat_xor, toNat32 a ha, toNat32 b hb, wrap_u32]
  omega
theorem bits_and1 (a : Nat) (ha : a < 4294967296) : Go.bits .and .u32 (a : Int) 1 = ((a % 2 : Nat) : Int) := by
  show IntKind.u32.wrap ((BitVec.ofInt 32 (a : Int) &&& BitVec.ofInt 32 1).toNat : Int) = _
  have h1 : (BitVec.ofInt 32 1).toNat = 1 := by decide
  rw [BitVec.toNat_and, toNat32 a ha, h1, wrap_u32, Nat.and_one_is_mod]
  omega

/-- One bit's step. -/
def bit1 (c : Nat) : Nat := if c % 2 = 1 then (c / 2) ^^^ 3988292384 else c / 2
/-- n steps. -/
def bitN : Nat → Nat → Nat
  | 0, c => c
  | n + 1, c => bitN n (bit1 c)
theorem bit1_lt {c : Nat} (h : c < 4294967296) : bit1 c < 4294967296 := by
  unfold bit1
  split
  · exact Nat.xor_lt_two_pow (n := 32) (by omega) (by omega)
  · omega
theorem bitN_lt : ∀ (n : Nat) {c : Nat}, c < 4294967296 → bitN n c < 4294967296
  | 0, _, h => h
  | n + 1, _, h => bitN_lt n (bit1_lt h)
theorem top_bit {x : Nat} (h : x < 2147483648) : (x ^^^ 3988292384).testBit 31 = true := by
  rw [Nat.testBit_xor, Nat.testBit_lt_two_pow (i := 31) (by omega)]; decide
theorem xor_cancel {a b m : Nat} (h : a ^^^ m = b ^^^ m) : a = b := by
  have := congrArg (· ^^^ m) h
  simpa [Nat.xor_assoc, Nat.xor_self] using this
theorem bit1_inj {a b : Nat} (ha : a < 4294967296) (hb : b < 4294967296) (h : bit1 a = bit1 b) : a = b := by
  unfold bit1 at h
  have ta := top_bit (x := a / 2) (by omega)
  have tb := top_bit (x := b / 2) (by omega)
  have la : (a / 2).testBit 31 = false := Nat.testBit_lt_two_pow (i := 31) (by omega)
  have lb : (b / 2).testBit 31 = false := Nat.testBit_lt_two_pow (i := 31) (by omega)
  split at h <;> split at h
  · have := xor_cancel h; omega
  · rw [h, lb] at ta; cases ta
  · rw [← h, la] at tb; cases tb
  · omega
theorem bitN_inj : ∀ (n : Nat) {a b : Nat}, a < 4294967296 → b < 4294967296 → bitN n a = bitN n b → a = b
  | 0, _, _, _, _, h => h
  | n + 1, _, _, ha, hb, h => bit1_inj ha hb (bitN_inj n (bit1_lt ha) (bit1_lt hb) h)

/-- One byte's step. -/
def byte1 (c b : Nat) : Nat := bitN 8 (c ^^^ b)
theorem byte1_lt {c b : Nat} (hc : c < 4294967296) (hb : b < 256) : byte1 c b < 4294967296 :=
  bitN_lt 8 (Nat.xor_lt_two_pow (n := 32) (by omega) (by omega))
theorem byte1_inj {c d b : Nat} (hc : c < 4294967296) (hd : d < 4294967296) (hb : b < 256) (h : byte1 c b = byte1 d b) : c = d :=
  xor_cancel (bitN_inj 8 (Nat.xor_lt_two_pow (n := 32) (by omega) (by omega)) (Nat.xor_lt_two_pow (n := 32) (by omega) (by omega)) h)
theorem byte1_inj2 {c a b : Nat} (hc : c < 4294967296) (ha : a < 256) (hb : b < 256) (h : byte1 c a = byte1 c b) : a = b := by
  have := bitN_inj 8 (Nat.xor_lt_two_pow (n := 32) (by omega) (by omega)) (Nat.xor_lt_two_pow (n := 32) (by omega) (by omega)) h
  rw [Nat.xor_comm c a, Nat.xor_comm c b] at this
  exact xor_cancel this

/-- All bytes of a list, from a state. -/
def run : List UInt8 → Nat → Nat
  | [], c => c
  | b :: r, c => run r (byte1 c b.toNat)
theorem run_lt : ∀ (l : List UInt8) {c : Nat}, c < 4294967296 → run l c < 4294967296
  | [], _, h => h
  | b :: r, _, h => run_lt r (byte1_lt h b.toNat_lt)
theorem run_append : ∀ (l m : List UInt8) (c : Nat), run (l ++ m) c = run m (run l c)
  | [], _, _ => rfl
  | _ :: r, m, _ => run_append r m _
theorem run_inj : ∀ (l : List UInt8) {c d : Nat}, c < 4294967296 → d < 4294967296 → run l c = run l d → c = d
  | [], _, _, _, _, h => h
  | b :: r, _, _, hc, hd, h => byte1_inj hc hd b.toNat_lt (run_inj r (byte1_lt hc b.toNat_lt) (byte1_lt hd b.toNat_lt) h)
/-- The CRC-32 of bytes. -/
def crc (l : List UInt8) : Nat := 4294967295 ^^^ run l 4294967295
theorem crc_lt (l : List UInt8) : crc l < 4294967296 := Nat.xor_lt_two_pow (n := 32) (by omega) (by have := run_lt l (c := 4294967295) (by omega); omega)
/-- A changed byte changes the sum. -/
theorem crc_change (p r : List UInt8) (a b : UInt8) : crc (p ++ a :: r) = crc (p ++ b :: r) ↔ a = b := by
  constructor
  · intro h
    unfold crc at h
    rw [Nat.xor_comm, Nat.xor_comm 4294967295] at h
    have h := xor_cancel h
    rw [run_append, run_append] at h
    have l := run_lt p (c := 4294967295) (by omega)
    have h := run_inj r (byte1_lt l a.toNat_lt) (byte1_lt l b.toNat_lt) h
    exact UInt8.toNat_inj.1 (byte1_inj2 l a.toNat_lt b.toNat_lt h)
  · rintro rfl; rfl
end Go.Proofs.Ytcggnjaimdjgmaa.Crc
