/- The digest in plain words: words of 32 bits, the schedule, the rounds, the blocks of a text. -/
import Derived.Test.YtolgclfbllcjhaaLSl
namespace Go.Proofs.Ytolgclfbllcjhaa.Dg
open Go Go.Sl
set_option linter.unusedVariables false
set_option linter.unusedSimpArgs false

abbrev W := BitVec 32
abbrev W32 (p : W) : Value := .int .u32 (p.toNat : Nat)

def rotr (x : W) (c : Nat) : W := x >>> c ||| x <<< (32 - c)
def s0 (x : W) : W := rotr x 7 ^^^ rotr x 18 ^^^ x >>> 3
def s1 (x : W) : W := rotr x 17 ^^^ rotr x 19 ^^^ x >>> 10
def S0 (x : W) : W := rotr x 2 ^^^ rotr x 13 ^^^ rotr x 22
def S1 (x : W) : W := rotr x 6 ^^^ rotr x 11 ^^^ rotr x 25
def wb (l : List UInt8) (i : Nat) : W := BitVec.ofNat 32 (l.getD i 0).toNat
def word (l : List UInt8) (t : Nat) : W := wb l (4 * t) <<< 24 ||| wb l (4 * t + 1) <<< 16 ||| wb l (4 * t + 2) <<< 8 ||| wb l (4 * t + 3)
def sched (l : List UInt8) : Nat → List W
  | 0 => []
  | n + 1 => sched l n ++ [if n < 16 then word l n else s1 ((sched l n).getD (n - 2) 0) + (sched l n).getD (n - 7) 0 + s0 ((sched l n).getD (n - 15) 0) + (sched l n).getD (n - 16) 0]
theorem sched_length (l : List UInt8) : ∀ n, (sched l n).length = n
  | 0 => rfl
  | n + 1 => by simp [sched, sched_length l n]
def kks : List W := [
  0x428a2f98#32, 0x71374491#32, 0xb5c0fbcf#32, 0xe9b5dba5#32, 0x3956c25b#32, 0x59f111f1#32, 0x923f82a4#32, 0xab1c5ed5#32,
  0xd807aa98#32, 0x12835b01#32, 0x243185be#32, 0x550c7dc3#32, 0x72be5d74#32, 0x80deb1fe#32, 0x9bdc06a7#32, 0xc19bf174#32,
  0xe49b69c1#32, 0xefbe4786#32, 0x0fc19dc6#32, 0x240ca1cc#32, 0x2de92c6f#32, 0x4a7484aa#32, 0x5cb0a9dc#32, 0x76f988da#32,
  0x983e5152#32, 0xa831c66d#32, 0xb00327c8#32, 0xbf597fc7#32, 0xc6e00bf3#32, 0xd5a79147#32, 0x06ca6351#32, 0x14292967#32,
  0x27b70a85#32, 0x2e1b2138#32, 0x4d2c6dfc#32, 0x53380d13#32, 0x650a7354#32, 0x766a0abb#32, 0x81c2c92e#32, 0x92722c85#32,
  0xa2bfe8a1#32, 0xa81a664b#32, 0xc24b8b70#32, 0xc76c51a3#32, 0xd192e819#32, 0xd6990624#32, 0xf40e3585#32, 0x106aa070#32,
  0x19a4c116#32, 0x1e376c08#32, 0x2748774c#32, 0x34b0bcb5#32, 0x391c0cb3#32, 0x4ed8aa4a#32, 0x5b9cca4f#32, 0x682e6ff3#32,
  0x748f82ee#32, 0x78a5636f#32, 0x84c87814#32, 0x8cc70208#32, 0x90befffa#32, 0xa4506ceb#32, 0xbef9a3f7#32, 0xc67178f2#32]
def kk (t : Nat) : W := kks.getD t 0
def t1 (S : Nat → W) (k w : W) : W := S 7 + S1 (S 4) + (S 4 &&& S 5 ^^^ ~~~ S 4 &&& S 6) + k + w
def t2 (S : Nat → W) : W := S0 (S 0) + (S 0 &&& S 1 ^^^ S 0 &&& S 2 ^^^ S 1 &&& S 2)
def rnd (k w : W) (S : Nat → W) : Nat → W
  | 0 => t1 S k w + t2 S
  | 1 => S 0
  | 2 => S 1
  | 3 => S 2
  | 4 => S 3 + t1 S k w
  | 5 => S 4
  | 6 => S 5
  | _ => S 6
def rounds (l : List UInt8) (S : Nat → W) : Nat → (Nat → W)
  | 0 => S
  | n + 1 => rnd (kk n) ((sched l 64).getD n 0) (rounds l S n)
def blk (S : Nat → W) (l : List UInt8) : Nat → W := fun i => S i + rounds l S 64 i
def init : Nat → W
  | 0 => 0x6a09e667#32
  | 1 => 0xbb67ae85#32
  | 2 => 0x3c6ef372#32
  | 3 => 0xa54ff53a#32
  | 4 => 0x510e527f#32
  | 5 => 0x9b05688c#32
  | 6 => 0x1f83d9ab#32
  | _ => 0x5be0cd19#32
def oct (S : Nat → W) : List Value := [W32 (S 0), W32 (S 1), W32 (S 2), W32 (S 3), W32 (S 4), W32 (S 5), W32 (S 6), W32 (S 7)]
/-- the state behind the first n blocks of a text -/
def stN (m : List UInt8) : Nat → (Nat → W)
  | 0 => init
  | n + 1 => blk (stN m n) ((m.drop (64 * n)).take 64)
def st (m : List UInt8) : Nat → W := stN m (m.length / 64)
def rest (m : List UInt8) : List UInt8 := m.drop (64 * (m.length / 64))
def be8 (n : Nat) : List UInt8 := (List.range 8).map fun i => UInt8.ofNat (n / 2 ^ (56 - 8 * i))
def tail (n : Nat) : List UInt8 := [128] ++ List.replicate ((119 - n % 64) % 64) 0 ++ be8 (n * 8 % 2 ^ 64)
def wbytes (x : W) : List UInt8 := [UInt8.ofNat (x.toNat / 2 ^ 24), UInt8.ofNat (x.toNat / 2 ^ 16), UInt8.ofNat (x.toNat / 2 ^ 8), UInt8.ofNat x.toNat]
def sbytes (S : Nat → W) : List UInt8 := (List.range 8).flatMap fun i => wbytes (S i)
def sha (m : List UInt8) : List UInt8 := sbytes (st (m ++ tail m.length))

theorem stN_append (m s : List UInt8) : ∀ n, 64 * n ≤ m.length → stN (m ++ s) n = stN m n
  | 0, _ => rfl
  | n + 1, h => by
    simp only [stN]
    rw [stN_append m s n (by omega), List.drop_append_of_le_length (by omega), List.take_append_of_le_length (by rw [List.length_drop]; omega)]
/-! ### operations on words -/
section
variable {P : Program} {L : Lcs} {ty : TypeId} {pos : String} {af : Array Edge} {dst : Option Nat} {gd : Option (Nat × Bool)} {x y : Operand} {t t' : TypeId} {p q : W}
theorem bits_xorW (p q : W) : bits .xor .u32 (p.toNat : Nat) (q.toNat : Nat) = ((p ^^^ q).toNat : Nat) := by rw [u32_xor_nat _ _ p.isLt q.isLt, BitVec.toNat_xor]
theorem bits_andW (p q : W) : bits .and .u32 (p.toNat : Nat) (q.toNat : Nat) = ((p &&& q).toNat : Nat) := by rw [u32_and_nat _ _ p.isLt q.isLt, BitVec.toNat_and]
theorem bits_orW (p q : W) : bits .or .u32 (p.toNat : Nat) (q.toNat : Nat) = ((p ||| q).toNat : Nat) := by rw [u32_or_nat _ _ p.isLt q.isLt, BitVec.toNat_or]
theorem s_xorW (hx : ev L x = some (W32 p)) (hy : ev L y = some (W32 q)) : OpF P ⟨dst, .binOp .xor t x y t', ty, pos, af, gd⟩ L (W32 (p ^^^ q)) := by
  have := s_bits (P := P) (dst := dst) (gd := gd) (ty := ty) (pos := pos) (af := af) (t := t) (t' := t') (op := .xor) (.inr (.inr (.inl rfl))) hx hy
  rwa [bits_xorW] at this
theorem s_andW (hx : ev L x = some (W32 p)) (hy : ev L y = some (W32 q)) : OpF P ⟨dst, .binOp .and t x y t', ty, pos, af, gd⟩ L (W32 (p &&& q)) := by
  have := s_bits (P := P) (dst := dst) (gd := gd) (ty := ty) (pos := pos) (af := af) (t := t) (t' := t') (op := .and) (.inl rfl) hx hy
  rwa [bits_andW] at this
theorem s_orW (hx : ev L x = some (W32 p)) (hy : ev L y = some (W32 q)) : OpF P ⟨dst, .binOp .or t x y t', ty, pos, af, gd⟩ L (W32 (p ||| q)) := by
  have := s_bits (P := P) (dst := dst) (gd := gd) (ty := ty) (pos := pos) (af := af) (t := t) (t' := t') (op := .or) (.inr (.inl rfl)) hx hy
  rwa [bits_orW] at this
theorem s_addW (hx : ev L x = some (W32 p)) (hy : ev L y = some (W32 q)) : OpF P ⟨dst, .binOp .add t x y t', ty, pos, af, gd⟩ L (W32 (p + q)) :=
  s_add_in hx hy (by rw [IntKind.wrap_u32, BitVec.toNat_add]; omega)
theorem s_comW (hx : ev L x = some (W32 p)) : OpF P ⟨dst, .unOp .xor t x, ty, pos, af, gd⟩ L (W32 (~~~ p)) := by
  have := s_com (P := P) (dst := dst) (gd := gd) (ty := ty) (pos := pos) (af := af) (t := t) hx
  have e : bits .xor .u32 (if IntKind.u32.signed then -1 else IntKind.u32.max) (p.toNat : Nat) = ((~~~ p).toNat : Nat) := by
    have h1 : (if IntKind.u32.signed then (-1 : Int) else IntKind.u32.max) = (((BitVec.allOnes 32 : W).toNat : Nat) : Int) := by decide
    rw [h1, bits_xorW, BitVec.allOnes_xor]
  rwa [e] at this
theorem s_shlW {k : IntKind} {n : Int} (c : Nat) (hx : ev L x = some (W32 p)) (hy : ev L y = some (.int k n)) (hn : n = (c : Nat)) (hc : c ≤ 32) : OpF P ⟨dst, .binOp .shl t x y t', ty, pos, af, gd⟩ L (W32 (p <<< c)) := by
  have := s_shl (P := P) (dst := dst) (gd := gd) (ty := ty) (pos := pos) (af := af) (t := t) (t' := t') hx hy (by omega)
  have e : IntKind.u32.wrap ((p.toNat : Nat) * 2 ^ (min n.toNat IntKind.u32.bits)) = ((p <<< c).toNat : Nat) := by
    have h1 : min n.toNat IntKind.u32.bits = c := by subst hn; simp [IntKind.bits]; omega
    rw [h1, IntKind.wrap_u32, BitVec.toNat_shiftLeft, Nat.shiftLeft_eq]
    rw [Int.natCast_emod, Int.natCast_mul, Int.natCast_pow]; rfl
  rwa [e] at this
theorem s_shrW {k : IntKind} {n : Int} (c : Nat) (hx : ev L x = some (W32 p)) (hy : ev L y = some (.int k n)) (hn : n = (c : Nat)) (hc : c ≤ 32) : OpF P ⟨dst, .binOp .shr t x y t', ty, pos, af, gd⟩ L (W32 (p >>> c)) := by
  have := s_shr (P := P) (dst := dst) (gd := gd) (ty := ty) (pos := pos) (af := af) (t := t) (t' := t') hx hy (by omega)
  have e : ((p.toNat : Nat) : Int).fdiv (2 ^ (min n.toNat IntKind.u32.bits)) = ((p >>> c).toNat : Nat) := by
    have h1 : min n.toNat IntKind.u32.bits = c := by subst hn; simp [IntKind.bits]; omega
    rw [h1, BitVec.toNat_ushiftRight, Nat.shiftRight_eq_div_pow, Int.fdiv_eq_ediv_of_nonneg _ (by exact Int.pow_nonneg (by decide))]
    rw [Int.natCast_ediv, Int.natCast_pow]; rfl
  rwa [e] at this
theorem s_convW {dsrc : TypeDesc} [hs : HU P t dsrc] [ht : HU P t' (.int .u32)] (b : UInt8) (hx : ev L x = some (.int .u8 (b.toNat : Nat))) : OpF P ⟨dst, .convert t t' x, ty, pos, af, gd⟩ L (W32 (BitVec.ofNat 32 b.toNat)) :=
  s_conv_keep hx (by rw [IntKind.wrap_u32, BitVec.toNat_ofNat]; omega)
end
theorem or_comm' (p q : W) : p ||| q = q ||| p := BitVec.or_comm p q
end Go.Proofs.Ytolgclfbllcjhaa.Dg
