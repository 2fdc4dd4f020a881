/- The digest of "abc", reckoned by the kernel. -/
import Derived.Test.YtolgclfbllcjhaaLG8
namespace Go.Proofs.Ytolgclfbllcjhaa.Dg
open Go Go.Sl
set_option linter.unusedVariables false
set_option linter.unusedSimpArgs false

def force {α : Type} (x : W) (f : W → α) : α := Nat.rec (motive := fun _ => α) (f 0#32) (fun n _ => f (BitVec.ofNat 32 (n + 1))) x.toNat
theorem force_eq {α : Type} (x : W) (f : W → α) : force x f = f x := by
  unfold force
  have h : ∀ n : Nat, x.toNat = n → Nat.rec (motive := fun _ => α) (f 0#32) (fun n _ => f (BitVec.ofNat 32 (n + 1))) n = f (BitVec.ofNat 32 n) := fun n _ => by cases n <;> rfl
  rw [h _ rfl]; simp
/-- the schedule, latest first -/
def schedF (l : List UInt8) : Nat → List W
  | 0 => []
  | n + 1 =>
    let r := schedF l n
    match decide (n < 16) with
    | true => force (word l n) fun x => x :: r
    | false => force (s1 (r.getD 1 0) + r.getD 6 0 + s0 (r.getD 14 0) + r.getD 15 0) fun x => x :: r
theorem schedF_eq (l : List UInt8) : ∀ n, schedF l n = (sched l n).reverse
  | 0 => rfl
  | n + 1 => by
    have ih := schedF_eq l n
    have hl := sched_length l n
    have hg : ∀ k, k < n → ((sched l n).reverse).getD k 0 = (sched l n).getD (n - 1 - k) 0 := fun k hk => by
      simp only [List.getD_eq_getElem?_getD]
      rw [List.getElem?_reverse (by omega), hl]
    simp only [schedF, sched, ih]
    split
    · rename_i h
      have h' : n < 16 := by simpa using h
      rw [force_eq, if_pos h']; simp
    · rename_i h
      have h' : ¬ n < 16 := by simpa using h
      rw [force_eq, if_neg h', hg 1 (by omega), hg 6 (by omega), hg 14 (by omega), hg 15 (by omega)]
      simp [show n - 1 - 1 = n - 2 by omega, show n - 1 - 6 = n - 7 by omega, show n - 1 - 14 = n - 15 by omega, show n - 1 - 15 = n - 16 by omega]
def stepF (k w : W) : List W → List W
  | [a, b, c, d, e, f, g, h] =>
    force (h + S1 e + (e &&& f ^^^ ~~~ e &&& g) + k + w) fun x => force (x + (S0 a + (a &&& b ^^^ a &&& c ^^^ b &&& c))) fun y => force (d + x) fun z => [y, a, b, c, z, e, f, g]
  | l => l
def roundsF (s : List W) : List (W × W) → List W
  | [] => s
  | p :: r => match stepF p.1 p.2 s with
    | [] => []
    | a :: t => roundsF (a :: t) r
def vec (S : Nat → W) : List W := [S 0, S 1, S 2, S 3, S 4, S 5, S 6, S 7]
theorem stepF_eq (k w : W) (S : Nat → W) : stepF k w (vec S) = vec (rnd k w S) := by
  simp only [stepF, vec, force_eq]; rfl
def rndl (S : Nat → W) : List (W × W) → (Nat → W)
  | [] => S
  | p :: r => rndl (rnd p.1 p.2 S) r
theorem roundsF_eq : ∀ (r : List (W × W)) (S : Nat → W), roundsF (vec S) r = vec (rndl S r)
  | [], S => rfl
  | p :: r, S => by
    rw [roundsF, stepF_eq]
    exact roundsF_eq r _
theorem rndl_append (r : List (W × W)) (p : W × W) : ∀ S, rndl S (r ++ [p]) = rnd p.1 p.2 (rndl S r) := by
  induction r with
  | nil => intro S; rfl
  | cons q r ih => intro S; exact ih _
theorem rounds_succ (l : List UInt8) (S : Nat → W) (n : Nat) : rounds l S (n + 1) = rnd (kk n) ((sched l 64).getD n 0) (rounds l S n) := by
  conv => lhs; unfold rounds
theorem rounds_eq (l : List UInt8) (S : Nat → W) (ws : List W) (hw : sched l 64 = ws) (n : Nat) : rounds l S n = rndl S ((List.range n).map fun i => (kk i, ws.getD i 0)) := by
  induction n with
  | zero => unfold rounds; simp only [List.range_zero, List.map_nil, rndl]
  | succ n ih => rw [rounds_succ, hw, ih, List.range_succ, List.map_append, List.map_cons, List.map_nil, rndl_append]
theorem zip_eq (l : List UInt8) : ((List.range 64).map fun i => (kk i, (sched l 64).getD i 0)) = kks.zip (schedF l 64).reverse := by
  rw [schedF_eq, List.reverse_reverse]
  have hl := sched_length l 64
  have hk : kks.length = 64 := rfl
  apply List.ext_getElem
  · simp [hl, hk]
  · intro i h1 h2
    have hi : i < 64 := by simpa using h1
    simp [kk, hi, hl, hk]
theorem vec_rounds (l : List UInt8) (S : Nat → W) : vec (rounds l S 64) = roundsF (vec S) (kks.zip (schedF l 64).reverse) := by rw [rounds_eq l S _ rfl, zip_eq, roundsF_eq]
def abc : List UInt8 := [97, 98, 99]
def abcHex : List UInt8 := [98, 97, 55, 56, 49, 54, 98, 102, 56, 102, 48, 49, 99, 102, 101, 97, 52, 49, 52, 49, 52, 48, 100, 101, 53, 100, 97, 101, 50, 50, 50, 51, 98, 48, 48, 51, 54, 49, 97, 51, 57, 54, 49, 55, 55, 97, 57, 99, 98, 52, 49, 48, 102, 102, 54, 49, 102, 50, 48, 48, 49, 53, 97, 100]
def abcL : List UInt8 := [97, 98, 99, 128, 0, 0, 0, 0, 0, 0, 0, 0, 0, 0, 0, 0, 0, 0, 0, 0, 0, 0, 0, 0, 0, 0, 0, 0, 0, 0, 0, 0, 0, 0, 0, 0, 0, 0, 0, 0, 0, 0, 0, 0, 0, 0, 0, 0, 0, 0, 0, 0, 0, 0, 0, 0, 0, 0, 0, 0, 0, 0, 0, 24]
theorem abc_rounds : vec (rounds abcL init 64) = [0x506e3058#32, 0xd39a2165#32, 0x04d24d6c#32, 0xb85e2ce9#32, 0x5ef50f24#32, 0xfb121210#32, 0x948d25b6#32, 0x961f4894#32] := by
  rw [vec_rounds]; decide +kernel
theorem sbytes_vec (S : Nat → W) : sbytes S = (vec S).flatMap wbytes := rfl
theorem vec_blk (S : Nat → W) (l : List UInt8) : vec (blk S l) = List.zipWith (· + ·) (vec S) (vec (rounds l S 64)) := rfl
theorem abc_pad : abc ++ tail abc.length = abcL := by decide +kernel
theorem sha_abc : hexs (sha abc) = abcHex := by
  have e : st abcL = blk init abcL := rfl
  rw [sha, abc_pad, e, sbytes_vec, vec_blk, abc_rounds]
  decide +kernel
theorem sha_length (m : List UInt8) : (sha m).length = 32 := by rw [sha, sbytes_length]
end Go.Proofs.Ytolgclfbllcjhaa.Dg
