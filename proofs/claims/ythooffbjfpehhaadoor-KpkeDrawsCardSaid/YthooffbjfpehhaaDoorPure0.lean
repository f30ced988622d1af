/- What is proved: plain facts on lists of bytes and on numbers, for the laws of this seat; no condition. -/
import Derived.Test.YthooffbjfpehhaaDoorFrame2
set_option linter.unusedVariables false
set_option linter.unusedSimpArgs false
/- The plain law of layer 11: numbers, lengths, texts, lists, as plain functions. -/
set_option linter.unusedVariables false
namespace Go.Vw
open Go Go.Vc
def fitsF (n : Int) : Bool := decide (n = 1 ∨ n = 2 ∨ n = 4 ∨ n = 8)
def beN (l : List UInt8) : Nat := l.foldl (fun n c => n * 256 + c.toNat) 0
theorem ofInt_nat (n : Nat) : BitVec.ofInt 64 (n : Int) = BitVec.ofNat 64 n := by simp
def getF (b : List UInt8) (i n : Int) : Int × Int × Int :=
 if i < 0 ∨ (b.length : Int) < i ∨ ¬ (n = 1 ∨ n = 2 ∨ n = 4 ∨ n = 8) then (0, 0, 1)
 else if (b.length : Int) - i < n then (0, 0, 111)
 else if 9223372036854775808 ≤ beN ((b.take (i + n).toNat).drop i.toNat) then (0, 0, 112)
 else ((beN ((b.take (i + n).toNat).drop i.toNat) : Int), i + n, 0)
def numB (n : Int) (k : Nat) : List UInt8 := (List.range k).map fun j => UInt8.ofInt (n / 256 ^ (k - 1 - j))
def numF (n size : Int) : List UInt8 :=
 if ¬ (size = 1 ∨ size = 2 ∨ size = 4 ∨ size = 8) ∨ n < 0 ∨ (size < 8 ∧ (256 : Int) ^ size.toNat ≤ n) then [] else numB n size.toNat
end Go.Vw

/- The plain law of layer 11, continued: lengths, texts, lists. -/
set_option linter.unusedVariables false
namespace Go.Vw
open Go Go.Vc
def tblI (k : Int) : Int := ([6, 14, 30] : List Int).getD k.toNat 0
def lenF (n : Int) : List UInt8 :=
 if n < 64 then [UInt8.ofInt n] else if n < 16384 then [UInt8.ofInt (n / 256 + 64), UInt8.ofInt n]
 else [UInt8.ofInt (n / 16777216 + 128), UInt8.ofInt (n / 65536), UInt8.ofInt (n / 256), UInt8.ofInt n]
theorem u8_toNat (n : Int) : ((UInt8.ofInt n).toNat : Int) = n % 256 := by
 simp only [UInt8.ofInt, UInt8.toNat_ofNat']
 omega
theorem iOr_add {a b : Int} {i : Nat} (h0 : 0 ≤ a) (h1 : a < 2 ^ i) (hb : 0 ≤ b) (h2 : a + b * 2 ^ i ≤ 9223372036854775807) : iOr .i64 a (b * 2 ^ i) = a + b * 2 ^ i := by
 obtain ⟨m, rfl⟩ := Int.eq_ofNat_of_zero_le h0
 obtain ⟨q, rfl⟩ := Int.eq_ofNat_of_zero_le hb
 have e0 : (q : Int) * 2 ^ i = ((q * 2 ^ i : Nat) : Int) := by push_cast; rfl
 rw [e0] at h2 ⊢
 have hm : m < 2 ^ i := by
  have : ((2 : Int) ^ i) = ((2 ^ i : Nat) : Int) := by push_cast; rfl
  rw [this] at h1; omega
 have e1 : (BitVec.ofInt 64 (m : Int) ||| BitVec.ofInt 64 ((q * 2 ^ i : Nat) : Int)).toNat = m + q * 2 ^ i := by
  rw [ofInt_nat, ofInt_nat, BitVec.toNat_or]
  simp only [BitVec.toNat_ofNat, Nat.reducePow]
  rw [Nat.mod_eq_of_lt (by omega), Nat.mod_eq_of_lt (by omega), Nat.or_comm, ← Nat.shiftLeft_eq, ← Nat.shiftLeft_add_eq_or_of_lt hm]
  omega
 show IntKind.i64.wrap ((BitVec.ofInt 64 (m : Int) ||| BitVec.ofInt 64 ((q * 2 ^ i : Nat) : Int)).toNat : Int) = _
 rw [e1, wrap_i64 (by omega) (by omega)]
 push_cast; rfl
def spanN (b : List UInt8) (k n from' e : Int) : Int × Int × Int :=
 if e ≠ 0 then (0, 0, e) else if 0 < k ∧ n < iShl .i64 1 (([6, 14, 30] : List Int).getD (k - 1).toNat 0).toNat then (0, 0, 112) else if 1048576 < n then (0, 0, 2)
 else if (b.length : Int) - from' < n then (0, 0, 111) else (from', from' + n, 0)
def spanK (b : List UInt8) (i k : Int) : Int × Int × Int :=
 if k = 3 then (0, 0, 112) else
 spanN b k (iAnd .i64 (getF b i (iShl .i64 1 k.toNat)).1 (iShl .i64 1 (([6, 14, 30] : List Int).getD k.toNat 0).toNat - 1)) (getF b i (iShl .i64 1 k.toNat)).2.1 (getF b i (iShl .i64 1 k.toNat)).2.2
def spanF (b : List UInt8) (i : Int) : Int × Int × Int :=
 if i < 0 ∨ (b.length : Int) < i then (0, 0, 1) else if i = b.length then (0, 0, 111) else spanK b i ((u8Shr (b.getD i.toNat 0) 6).toNat : Int)
def textF (s : List UInt8) : List UInt8 := if 1048576 < s.length then [] else lenF s.length ++ s
def textE (s : List UInt8) : Int := if 1048576 < s.length then 2 else 0
def getTextF (b : List UInt8) (i : Int) : List UInt8 × Int × Int :=
 if (spanF b i).2.2 ≠ 0 then ([], 0, (spanF b i).2.2) else ((b.take (spanF b i).2.1.toNat).drop (spanF b i).1.toNat, (spanF b i).2.1, 0)
end Go.Vw

/- The plain law of layer 11, continued: lists; what the reference computes. -/
set_option linter.unusedVariables false
namespace Go.Vw
open Go Go.Vc
def catT (l : List (List UInt8)) : List UInt8 := l.flatMap textF
def okT (l : List (List UInt8)) : Prop := (∀ s, s ∈ l → s.length ≤ 1048576) ∧ (catT l).length ≤ 1048576
instance (l : List (List UInt8)) : Decidable (okT l) := inferInstanceAs (Decidable (_ ∧ _))
def listF (l : List (List UInt8)) : List UInt8 := if okT l then textF (catT l) else []
def listE (l : List (List UInt8)) : Int := if okT l then textE (catT l) else 2
def parseF (b : List UInt8) : Nat → Int → List (List UInt8) → List (List UInt8) × Int
 | 0, _, out => (out, 0)
 | f + 1, i, out => if i < b.length then (if (getTextF b i).2.2 ≠ 0 then ([], (getTextF b i).2.2) else parseF b f (getTextF b i).2.1 (out ++ [(getTextF b i).1])) else (out, 0)
def parse (b : List UInt8) (i : Int) (out : List (List UInt8)) : List (List UInt8) × Int := parseF b (b.length + 1 - i.toNat) i out
abbrev allOf (b : List UInt8) (i : Int) : List UInt8 := (b.take (spanF b i).2.1.toNat).drop (spanF b i).1.toNat
def getListF (b : List UInt8) (i : Int) : List (List UInt8) × Int × Int :=
 if (spanF b i).2.2 ≠ 0 then ([], 0, (spanF b i).2.2)
 else if (parse (allOf b i) 0 []).2 ≠ 0 then ([], 0, (parse (allOf b i) 0 []).2) else ((parse (allOf b i) 0 []).1, (spanF b i).2.1, 0)
def PL (b : List UInt8) (s : List (List UInt8) × Int) : Prop := 0 ≤ s.2 ∧ s.2 ≤ b.length ∧ s.1.length ≤ s.2 ∧ parse b s.2 s.1 = parse b 0 []
end Go.Vw

/- The plain law of layer 11, continued: the reference's lengths. -/
set_option linter.unusedVariables false
namespace Go.Vw
open Go Go.Vc
theorem iAnd_mask {a : Int} {m : Nat} (h0 : 0 ≤ a) (h1 : a ≤ 9223372036854775807) (hm : m ≤ 62) : iAnd .i64 a ((2 : Int) ^ m - 1) = a % 2 ^ m := by
 obtain ⟨q, rfl⟩ := Int.eq_ofNat_of_zero_le h0
 have hp : 0 < 2 ^ m := Nat.two_pow_pos m
 have e1 : (2 : Int) ^ m - 1 = ((2 ^ m - 1 : Nat) : Int) := by
  have : ((2 : Int) ^ m) = ((2 ^ m : Nat) : Int) := by push_cast; rfl
  omega
 have hb : 2 ^ m ≤ 2 ^ 62 := Nat.pow_le_pow_right (by omega) hm
 have e2 : (BitVec.ofInt 64 (q : Int) &&& BitVec.ofInt 64 ((2 ^ m - 1 : Nat) : Int)).toNat = q % 2 ^ m := by
  rw [ofInt_nat, ofInt_nat, BitVec.toNat_and]
  simp only [BitVec.toNat_ofNat]
  rw [Nat.mod_eq_of_lt (show q < 2 ^ 64 by omega), Nat.mod_eq_of_lt (show 2 ^ m - 1 < 2 ^ 64 by omega), Nat.and_two_pow_sub_one_eq_mod]
 rw [e1]
 show IntKind.i64.wrap ((BitVec.ofInt 64 (q : Int) &&& BitVec.ofInt 64 ((2 ^ m - 1 : Nat) : Int)).toNat : Int) = _
 rw [e2]
 have := Nat.mod_lt q hp
 rw [wrap_i64 (by omega) (by omega)]
 push_cast; rfl
def hdF (b : List UInt8) (i : Int) : Int × Int × Int := ((spanF b i).2.1 - (spanF b i).1, (spanF b i).1, (spanF b i).2.2)
def szOf (c : UInt8) : Int := if 128 ≤ c.toNat then 4 else if 64 ≤ c.toNat then 2 else 1
def lenN (b : List UInt8) (i : Int) (s : Nat) : Nat := (b.getD i.toNat 0).toNat % 64 * 256 ^ (s - 1) + beN ((b.drop (i.toNat + 1)).take (s - 1))
end Go.Vw

/- Hkdf, in plain Lean: SHA-256's words and rounds. -/
set_option linter.unusedVariables false
namespace Go.Vh
open Go Go.Vc
abbrev nl : List UInt8 := []
def K256 : List UInt32 := [1116352408, 1899447441, 3049323471, 3921009573, 961987163, 1508970993, 2453635748, 2870763221, 3624381080, 310598401, 607225278, 1426881987, 1925078388, 2162078206, 2614888103, 3248222580, 3835390401, 4022224774, 264347078, 604807628, 770255983, 1249150122, 1555081692, 1996064986, 2554220882, 2821834349, 2952996808, 3210313671, 3336571891, 3584528711, 113926993, 338241895, 666307205, 773529912, 1294757372, 1396182291, 1695183700, 1986661051, 2177026350, 2456956037, 2730485921, 2820302411, 3259730800, 3345764771, 3516065817, 3600352804, 4094571909, 275423344, 430227734, 506948616, 659060556, 883997877, 958139571, 1322822218, 1537002063, 1747873779, 1955562222, 2024104815, 2227730452, 2361852424, 2428436474, 2756734187, 3204031479, 3329325298]
def H256 : List UInt32 := [1779033703, 3144134277, 1013904242, 2773480762, 1359893119, 2600822924, 528734635, 1541459225]
def h0 (j : Nat) : UInt32 := H256.getD j 0
def rotr (x : UInt32) (n : Int) : UInt32 := u32Shr x n.toNat ||| u32Shl x (32 - n).toNat
def be (b : List UInt8) (i : Nat) : UInt32 := u32Shl (b.getD (4 * i) 0).toUInt32 24 ||| u32Shl (b.getD (4 * i + 1) 0).toUInt32 16 ||| u32Shl (b.getD (4 * i + 2) 0).toUInt32 8 ||| (b.getD (4 * i + 3) 0).toUInt32
def sg0 (x : UInt32) : UInt32 := rotr x 7 ^^^ rotr x 18 ^^^ u32Shr x 3
def sg1 (x : UInt32) : UInt32 := rotr x 17 ^^^ rotr x 19 ^^^ u32Shr x 10
def wdN (b : List UInt8) : Nat → Nat → UInt32
 | 0, j => if j < 16 then be b j else 0
 | k + 1, j => if j = 16 + k then wdN b k k + wdN b k (k + 9) + sg0 (wdN b k (k + 1)) + sg1 (wdN b k (k + 14)) else wdN b k j
def wd (b : List UInt8) : Nat → UInt32 := wdN b 48
def stT (g : Nat → UInt32) (k w : UInt32) : UInt32 := g 7 + (rotr (g 4) 6 ^^^ rotr (g 4) 11 ^^^ rotr (g 4) 25) + (g 6 ^^^ (g 4 &&& (g 5 ^^^ g 6))) + k + w
def stU (g : Nat → UInt32) : UInt32 := (rotr (g 0) 2 ^^^ rotr (g 0) 13 ^^^ rotr (g 0) 22) + ((g 0 &&& g 1) ||| (g 2 &&& (g 0 ||| g 1)))
def step (g : Nat → UInt32) (k w : UInt32) (j : Nat) : UInt32 :=
 match j with
 | 0 => stT g k w + stU g
 | 1 => g 0
 | 2 => g 1
 | 3 => g 2
 | 4 => g 3 + stT g k w
 | 5 => g 4
 | 6 => g 5
 | _ => g 6
def rounds (g w : Nat → UInt32) : Nat → Nat → UInt32
 | 0 => g
 | k + 1 => step (rounds g w k) (K256.getD k 0) (w k)
def comp (g : Nat → UInt32) (b : List UInt8) (j : Nat) : UInt32 := g j + rounds g (wd b) 64 j
def refT (g : Nat → UInt32) (k w : UInt32) : UInt32 := g 7 + (rotr (g 4) 6 ^^^ rotr (g 4) 11 ^^^ rotr (g 4) 25) + ((g 4 &&& g 5) ^^^ (~~~(g 4) &&& g 6)) + k + w
def refU (g : Nat → UInt32) : UInt32 := (rotr (g 0) 2 ^^^ rotr (g 0) 13 ^^^ rotr (g 0) 22) + ((g 0 &&& g 1) ^^^ (g 0 &&& g 2) ^^^ (g 1 &&& g 2))
def stN (l : List UInt8) : Nat → Nat → UInt32
 | 0 => h0
 | k + 1 => comp (stN l k) (l.drop (64 * k))
def hst (l : List UInt8) : Nat → UInt32 := stN l (l.length / 64)
def rst (l : List UInt8) : List UInt8 := l.drop (64 * (l.length / 64))
def jn (l p : List UInt8) : List UInt8 := (rst l ++ p).take (64 * ((rst l ++ p).length / 64))
theorem ap_full {l0 l : List UInt8} {n : Nat} (h : l0.length ≤ n) : (l0.drop 0).take n ++ l = l0 ++ l := by rw [List.drop_zero, List.take_of_length_le h]
def zlen (n : Nat) : Nat := (119 - n % 64) % 64
def len8 (m : UInt64) : Nat → List UInt8
 | 0 => []
 | k + 1 => len8 m k ++ [(u64Shr (u64Shl m 3) (56 - 8 * k)).toUInt8]
def pad (l : List UInt8) : List UInt8 := [128] ++ List.replicate (zlen l.length) 0 ++ len8 (UInt64.ofNat l.length) 8
def ptx (l : List UInt8) : List UInt8 := l ++ pad l
def w4 (x : UInt32) : List UInt8 := [(u32Shr x 24).toUInt8, (u32Shr x 16).toUInt8, (u32Shr x 8).toUInt8, x.toUInt8]
def outN (g : Nat → UInt32) : Nat → List UInt8
 | 0 => []
 | k + 1 => outN g k ++ w4 (g k)
def sha (l : List UInt8) : List UInt8 := outN (stN (ptx l) ((ptx l).length / 64)) 8
def xorF (a b : List UInt8) : Nat → UInt8
 | 0 => 0
 | k + 1 => xorF a b k ||| (a.getD k 0 ^^^ b.getD k 0)
def longF (t : List UInt8) : List UInt8 :=
 if (t.length : Int) < 64 then [UInt8.ofInt t.length] ++ t else [UInt8.ofInt ((t.length : Int) / 256) ||| 64, UInt8.ofInt t.length] ++ t
def cat (l : List (List UInt8)) : List UInt8 := l.flatten
def cb (l : List (List UInt8)) (r : Nat) : List UInt8 := if r = 0 then List.replicate (cat l).length 0 else cat (l.take r)
def key0 (k : List UInt8) : List UInt8 := if 64 < k.length then sha k else k
def padN (k : List UInt8) (c : UInt8) : Nat → List UInt8
 | 0 => []
 | n + 1 => padN k c n ++ [k.getD n 0 ^^^ c]
def padF (k : List UInt8) (c : UInt8) : List UInt8 := padN k c 64
def mac (k t : List UInt8) : List UInt8 := sha (padF (key0 k) 92 ++ sha (padF (key0 k) 54 ++ t))
def padL (k : List UInt8) (c : UInt8) (s : Nat) : List UInt8 := padN k c s ++ (k ++ List.replicate (64 - k.length) 0).drop s
attribute [irreducible] padF mac sha
def tN (k i : List UInt8) : Nat → List UInt8
 | 0 => []
 | s + 1 => mac k (cat [tN k i s, i, [UInt8.ofInt ((s : Int) + 1)]])
def okm (k i : List UInt8) : Nat → List UInt8
 | 0 => []
 | s + 1 => okm k i s ++ tN k i (s + 1)
def expand (k i : List UInt8) (n : Nat) : List UInt8 := (okm k i ((n + 31) / 32)).take n
def expandN (k i : List UInt8) (n : Int) : List UInt8 := if n < 0 ∨ 8160 < n then [] else expand k i n.toNat
end Go.Vh

/- keccak in plain words: the program's change of a state, and the document's, are one. -/
namespace Go.Vh
open Go Go.Vc
def rot (x : UInt64) (n : Nat) : UInt64 := u64Shl x n ||| u64Shr x (64 - n)
def turnsL : List Nat := [1, 3, 6, 10, 15, 21, 28, 36, 45, 55, 2, 14, 27, 41, 56, 8, 25, 43, 62, 18, 39, 61, 20, 44]
def placesL : List Nat := [10, 7, 11, 17, 18, 3, 5, 16, 8, 21, 24, 4, 15, 23, 19, 13, 12, 2, 20, 14, 22, 9, 6, 1]
def constL : List UInt64 := [0x0000000000000001, 0x0000000000008082, 0x800000000000808a, 0x8000000080008000,
 0x000000000000808b, 0x0000000080000001, 0x8000000080008081, 0x8000000000008009,
 0x000000000000008a, 0x0000000000000088, 0x0000000080008009, 0x000000008000000a,
 0x000000008000808b, 0x800000000000008b, 0x8000000000008089, 0x8000000000008003,
 0x8000000000008002, 0x8000000000000080, 0x000000000000800a, 0x800000008000000a,
 0x8000000080008081, 0x8000000000008080, 0x0000000080000001, 0x8000000080008008]
abbrev Ln := Nat → UInt64
def smN (w : Ln) : Nat → Ln
 | 0, _ => 0
 | s + 1, j => if j = s % 5 then smN w s j ^^^ w s else smN w s j
def thF (w : Ln) (j : Nat) : UInt64 := w j ^^^ (smN w 25 ((j + 4) % 5) ^^^ rot (smN w 25 ((j + 1) % 5)) 1)
def rpN (a : Ln) : Nat → Ln × UInt64
 | 0 => (a, a 1)
 | s + 1 => (fun j => if j = placesL.getD s 0 then rot (rpN a s).2 (turnsL.getD s 0) else (rpN a s).1 j, (rpN a s).1 (placesL.getD s 0))
def chF (a : Ln) (j : Nat) : UInt64 := a j ^^^ (~~~ (a (5 * (j / 5) + (j % 5 + 1) % 5)) &&& a (5 * (j / 5) + (j % 5 + 2) % 5))
def rdF (w : Ln) (c : UInt64) (j : Nat) : UInt64 := if j = 0 then chF (rpN (thF w) 24).1 0 ^^^ c else chF (rpN (thF w) 24).1 j
def kfN (w : Ln) : Nat → Ln
 | 0 => w
 | s + 1 => rdF (kfN w s) (constL.getD s 0)
def kf (w : Ln) : Ln := kfN w 24
def tr (w : Ln) (i : Nat) : UInt64 := w (i / 5 + 5 * (i % 5))
def cR (v : Ln) (x : Nat) : UInt64 := v (x * 5) ^^^ v (x * 5 + 1) ^^^ v (x * 5 + 2) ^^^ v (x * 5 + 3) ^^^ v (x * 5 + 4)
def dR (v : Ln) (x : Nat) : UInt64 := cR v ((x + 4) % 5) ^^^ rot (cR v ((x + 1) % 5)) 1
def tL : List Nat := [0, 36, 3, 41, 18, 1, 44, 10, 45, 2, 62, 6, 43, 15, 61, 28, 55, 25, 21, 56, 27, 20, 39, 8, 14]
def xR (j : Nat) : Nat := (3 * (j % 5) + j / 5) % 5
def bR (v : Ln) (j : Nat) : UInt64 := rot (v (xR j * 5 + j / 5) ^^^ dR v (xR j)) (tL.getD (xR j * 5 + j / 5) 0)
def chR (b : Ln) (j : Nat) : UInt64 := b j ^^^ (~~~ (b ((j / 5 + 1) % 5 * 5 + j % 5)) &&& b ((j / 5 + 2) % 5 * 5 + j % 5))
def rdR (v : Ln) (c : UInt64) (j : Nat) : UInt64 := if j = 0 then chR (bR v) 0 ^^^ c else chR (bR v) j
theorem sm_col (w : Ln) (x : Nat) (h : x < 5) : smN w 25 x = cR (tr w) x := by
 have z : ∀ a : UInt64, (0 : UInt64) ^^^ a = a := fun _ => UInt64.zero_xor
 match x, h with
 | 0, _ => exact congrArg (· ^^^ w 5 ^^^ w 10 ^^^ w 15 ^^^ w 20) (z (w 0))
 | 1, _ => exact congrArg (· ^^^ w 6 ^^^ w 11 ^^^ w 16 ^^^ w 21) (z (w 1))
 | 2, _ => exact congrArg (· ^^^ w 7 ^^^ w 12 ^^^ w 17 ^^^ w 22) (z (w 2))
 | 3, _ => exact congrArg (· ^^^ w 8 ^^^ w 13 ^^^ w 18 ^^^ w 23) (z (w 3))
 | 4, _ => exact congrArg (· ^^^ w 9 ^^^ w 14 ^^^ w 19 ^^^ w 24) (z (w 4))
theorem th_eq (w : Ln) (j : Nat) (h : j < 25) : thF w j = tr w (j % 5 * 5 + j / 5) ^^^ dR (tr w) (j % 5) := by
 unfold thF dR
 rw [sm_col w _ (Nat.mod_lt _ (by decide)), sm_col w _ (Nat.mod_lt _ (by decide)), show (j % 5 + 4) % 5 = (j + 4) % 5 by omega, show (j % 5 + 1) % 5 = (j + 1) % 5 by omega]
 congr 1
 unfold tr
 congr 1
 omega
def srcL : List Nat := [0, 6, 12, 18, 24, 3, 9, 10, 16, 22, 1, 7, 13, 19, 20, 4, 5, 11, 17, 23, 2, 8, 14, 15, 21]
def ixP (j : Nat) : Nat := placesL.findIdx (· == j)
def hpP (s : Nat) : Nat := if s = 0 then 1 else placesL.getD (s - 1) 0
theorem ixP_b : ∀ s : Fin 24, ∀ j : Fin 25, (j.val = placesL.getD s 0 ↔ ixP j = s) := by decide +kernel
theorem pl_b : ∀ s : Fin 24, placesL.getD s 0 < 25 := by decide +kernel
theorem rpN_is (a : Ln) (s : Nat) (hs : s ≤ 24) : (rpN a s).2 = a (hpP s) ∧ ∀ j, j < 25 → (rpN a s).1 j = if ixP j < s then rot (a (hpP (ixP j))) (turnsL.getD (ixP j) 0) else a j := by
 induction s with
 | zero => exact ⟨rfl, fun j _ => by rw [if_neg (Nat.not_lt_zero _)]; rfl⟩
 | succ s ih =>
  obtain ⟨i1, i2⟩ := ih (by omega)
  have hp := pl_b ⟨s, hs⟩
  have hi := (ixP_b ⟨s, hs⟩ ⟨placesL.getD s 0, hp⟩).1 rfl
  simp only at hp hi
  refine ⟨?_, fun j hj => ?_⟩
  ·show (rpN a s).1 (placesL.getD s 0) = _
   rw [i2 _ hp, hi, if_neg (Nat.lt_irrefl s)]
   rfl
  ·show (if j = placesL.getD s 0 then rot (rpN a s).2 (turnsL.getD s 0) else (rpN a s).1 j) = _
   have hx := ixP_b ⟨s, hs⟩ ⟨j, hj⟩
   simp only at hx
   by_cases h9 : j = placesL.getD s 0
   ·have hx := hx.1 h9
    rw [if_pos h9, hx, if_pos (Nat.lt_succ_self s), i1]
   ·have hx : ixP j ≠ s := fun e => h9 (hx.2 e)
    rw [if_neg h9, i2 j hj]
    by_cases h8 : ixP j < s
    ·rw [if_pos h8, if_pos (by omega)]
    ·rw [if_neg h8, if_neg (by omega)]
theorem src_p : ∀ j : Fin 25, (ixP j < 24 ↔ j.val ≠ 0) ∧ (j.val ≠ 0 → hpP (ixP j) = srcL.getD j 0 ∧ turnsL.getD (ixP j) 0 = tL.getD (srcL.getD j 0 % 5 * 5 + srcL.getD j 0 / 5) 0) := by decide +kernel
theorem rp_eq (a : Ln) (j : Nat) (h : j < 25) : (rpN a 24).1 j = if j = 0 then a 0 else rot (a (srcL.getD j 0)) (tL.getD (srcL.getD j 0 % 5 * 5 + srcL.getD j 0 / 5) 0) := by
 obtain ⟨h1, h2⟩ := src_p ⟨j, h⟩
 simp only at h1 h2
 rw [(rpN_is a 24 (Nat.le_refl _)).2 j h]
 by_cases h0 : j = 0
 ·rw [if_neg (fun e => h1.1 e h0), if_pos h0, h0]
 ·rw [if_pos (h1.2 h0), if_neg h0, (h2 h0).1, (h2 h0).2]
theorem rot_0 (x : UInt64) : rot x 0 = x := by
 have h1 : u64Shl x 0 = x := by unfold u64Shl; simp
 have h2 : u64Shr x (64 - 0) = 0 := by
  unfold u64Shr
  rw [Nat.div_eq_of_lt (by have := x.toNat_lt; simpa using this)]; rfl
 unfold rot
 rw [h1, h2]; exact UInt64.or_zero
theorem src_b : ∀ j : Fin 25, srcL.getD j 0 < 25 ∧ srcL.getD j 0 % 5 = xR (j / 5 + 5 * (j % 5)) ∧ srcL.getD j 0 / 5 = (j / 5 + 5 * (j % 5)) / 5 := by decide +kernel
theorem b_eq (w : Ln) (j : Nat) (h : j < 25) : (rpN (thF w) 24).1 j = bR (tr w) (j / 5 + 5 * (j % 5)) := by
 rw [rp_eq _ _ h]
 obtain ⟨h1, h2, h3⟩ := src_b ⟨j, h⟩
 simp only at h1 h2 h3
 by_cases h0 : j = 0
 ·subst h0
  rw [if_pos rfl, th_eq w 0 (by omega)]
  exact (rot_0 _).symm
 ·rw [if_neg h0, th_eq _ _ h1]
  unfold bR
  rw [h2, h3]
theorem tr_i : ∀ i : Fin 25, ((i.val / 5 + 1) % 5 * 5 + i % 5) / 5 + 5 * (((i.val / 5 + 1) % 5 * 5 + i % 5) % 5) = 5 * ((i / 5 + 5 * (i % 5)) / 5) + ((i / 5 + 5 * (i % 5)) % 5 + 1) % 5 ∧
  ((i.val / 5 + 2) % 5 * 5 + i % 5) / 5 + 5 * (((i.val / 5 + 2) % 5 * 5 + i % 5) % 5) = 5 * ((i / 5 + 5 * (i % 5)) / 5) + ((i / 5 + 5 * (i % 5)) % 5 + 2) % 5 := by decide +kernel
theorem rd_tr (w : Ln) (c : UInt64) (i : Nat) (h : i < 25) : rdR (tr w) c i = tr (rdF w c) i := by
 have hb : ∀ i, i < 25 → bR (tr w) i = (rpN (thF w) 24).1 (i / 5 + 5 * (i % 5)) := fun i hi => by
  rw [b_eq w _ (by omega)]
  congr 1
  omega
 have hc : ∀ i, i < 25 → chR (bR (tr w)) i = chF (rpN (thF w) 24).1 (i / 5 + 5 * (i % 5)) := fun i hi => by
  unfold chR chF
  obtain ⟨e1, e2⟩ := tr_i ⟨i, hi⟩
  simp only at e1 e2
  rw [hb i hi, hb _ (by omega), hb _ (by omega), e1, e2]
 unfold tr rdF
 by_cases h0 : i = 0
 ·subst h0
  unfold rdR
  rw [if_pos rfl, if_pos rfl]
  exact congrArg (· ^^^ c) (hc 0 (by omega))
 ·unfold rdR
  rw [if_neg h0, if_neg (by omega)]
  exact hc i h
def xT (i : Nat) : Nat := ([1, 0, 2, 1, 2, 3, 3, 0, 1, 3, 1, 4, 4, 0, 3, 4, 3, 2, 2, 0, 4, 2, 4, 1, 1] : List Nat).getD i 0
def yT (i : Nat) : Nat := ([0, 2, 1, 2, 3, 3, 0, 1, 3, 1, 4, 4, 0, 3, 4, 3, 2, 2, 0, 4, 2, 4, 1, 1, 0] : List Nat).getD i 0
def ixT (j : Nat) : Nat := ([24, 7, 1, 13, 19, 0, 23, 3, 8, 10, 18, 2, 17, 4, 21, 6, 9, 16, 5, 14, 12, 22, 20, 15, 11] : List Nat).getD j 24
def tP (i j : Nat) : Nat := if ixT j < i then tL.getD j 0 else 0
theorem turn_b : ∀ i : Fin 24, xT i < 5 ∧ yT i < 5 ∧ (i.val + 1) * (i + 2) / 2 % 64 = tL.getD (xT i * 5 + yT i) 0 ∧ (2 * xT i + 3 * yT i) % 5 = yT (i + 1) ∧ yT i = xT (i + 1) ∧ ixT (xT i * 5 + yT i) = i := by decide +kernel
theorem turn_j : ∀ i : Fin 24, ∀ j : Fin 25, ixT j = i.val → j.val = xT i * 5 + yT i := by decide +kernel
theorem tP_put {i : Nat} (h : i < 24) (j : Nat) : (if j = xT i * 5 + yT i then tL.getD (xT i * 5 + yT i) 0 else tP i j) = tP (i + 1) j := by
 obtain ⟨h1, h2, _, _, _, h3⟩ := turn_b ⟨i, h⟩
 simp only at h1 h2 h3
 unfold tP
 by_cases h9 : j = xT i * 5 + yT i
 ·rw [if_pos h9, h9, h3, if_pos (Nat.lt_succ_self i)]
 ·rw [if_neg h9]
  by_cases hj : j < 25
  ·have h8 : ixT j ≠ i := fun e => h9 (turn_j ⟨i, h⟩ ⟨j, hj⟩ e)
   by_cases h7 : ixT j < i
   ·rw [if_pos h7, if_pos (by omega)]
   ·rw [if_neg h7, if_neg (by omega)]
  ·have h8 : ixT j = 24 := by
    unfold ixT
    rw [List.getD_eq_getElem?_getD, List.getElem?_eq_none (by simp only [List.length_cons, List.length_nil]; omega)]; rfl
   rw [h8, if_neg (by omega)]
   by_cases h7 : 24 < i + 1
   ·omega
   ·rw [if_neg h7]
theorem tP_24 : ∀ j : Fin 25, tP 24 j = tL.getD j 0 := by decide +kernel
theorem tP_25 {j : Nat} (h : j < 25) : tP 24 j = tL.getD j 0 := tP_24 ⟨j, h⟩
theorem tL_le (j : Nat) : tL.getD j 0 ≤ 63 := by
 by_cases h : j < 25
 ·exact (show ∀ j : Fin 25, tL.getD j 0 ≤ 63 by decide +kernel) ⟨j, h⟩
 ·rw [List.getD_eq_getElem?_getD, List.getElem?_eq_none (by simp only [tL, List.length_cons, List.length_nil]; omega)]; exact Nat.zero_le _
def rT (n : Nat) : Nat := ([1, 2, 4, 8, 16, 32, 64, 128, 113, 226, 181, 27, 54, 108, 216, 193, 243, 151, 95, 190, 13, 26, 52, 104, 208, 209, 211, 215, 223, 207, 239, 175, 47, 94, 188, 9, 18, 36, 72, 144, 81, 162, 53, 106, 212, 217, 195, 247, 159, 79, 158, 77, 154, 69, 138, 101, 202, 229, 187, 7, 14, 28, 56, 112, 224, 177, 19, 38, 76, 152, 65, 130, 117, 234, 165, 59, 118, 236, 169, 35, 70, 140, 105, 210, 213, 219, 199, 255, 143, 111, 222, 205, 235, 167, 63, 126, 252, 137, 99, 198, 253, 139, 103, 206, 237, 171, 39, 78, 156, 73, 146, 85, 170, 37, 74, 148, 89, 178, 21, 42, 84, 168, 33, 66, 132, 121, 242, 149, 91, 182, 29, 58, 116, 232, 161, 51, 102, 204, 233, 163, 55, 110, 220, 201, 227, 183, 31, 62, 124, 248, 129, 115, 230, 189, 11, 22, 44, 88, 176, 17, 34, 68, 136, 97, 194, 245, 155, 71, 142] : List Nat).getD n 0
def bit7 (j : Nat) : UInt64 := u64Shl 1 (u64Shl 1 j - 1).toNat
def msk : Nat → UInt64
 | 0 => 0
 | j + 1 => msk j ||| bit7 j
def lP (n m : Nat) : UInt64 := if m < n / 7 then constL.getD m 0 else if m = n / 7 then constL.getD m 0 &&& msk (n % 7) else 0
theorem rT_b : ∀ n : Fin 168, rT n < 256 ∧ (256 ≤ 2 * rT n → iXor .i64 (((rT n : Nat) : Int) * 2) 369 = ((rT (n + 1) : Nat) : Int)) ∧ (2 * rT n < 256 → rT n * 2 = rT (n + 1)) := by decide +kernel
theorem lP_b : ∀ n : Fin 168, (rT n % 2 = 1 → lP n (n / 7) ||| bit7 (n % 7) = lP (n + 1) (n / 7)) ∧ (rT n % 2 ≠ 1 → lP n (n / 7) = lP (n + 1) (n / 7)) := by decide +kernel
theorem lP_else (n m : Nat) (h : m ≠ n / 7) : lP n m = lP (n + 1) m := by
 unfold lP
 by_cases h1 : m < n / 7
 ·rw [if_pos h1, if_pos (by omega)]
 ·rw [if_neg h1, if_neg h, if_neg (by omega)]
  by_cases h2 : m = (n + 1) / 7
  ·rw [if_pos h2, show (n + 1) % 7 = 0 by omega]; exact UInt64.and_zero.symm
  ·rw [if_neg h2]
theorem lP_yes {i j : Nat} (hi : i < 24) (hj : j < 7) (h : rT (7 * i + j) % 2 = 1) (m : Nat) : (if m = i then lP (7 * i + j) i ||| bit7 j else lP (7 * i + j) m) = lP (7 * i + j + 1) m := by
 have h1 := (lP_b ⟨7 * i + j, by omega⟩).1 h
 simp only [show (7 * i + j) / 7 = i by omega, show (7 * i + j) % 7 = j by omega] at h1
 by_cases h9 : m = i
 ·rw [if_pos h9, h1, h9]
 ·rw [if_neg h9]; exact lP_else _ _ (by omega)
theorem lP_no {i j : Nat} (hi : i < 24) (hj : j < 7) (h : rT (7 * i + j) % 2 ≠ 1) (m : Nat) : lP (7 * i + j) m = lP (7 * i + j + 1) m := by
 have h1 := (lP_b ⟨7 * i + j, by omega⟩).2 h
 simp only [show (7 * i + j) / 7 = i by omega] at h1
 by_cases h9 : m = i
 ·rw [h9, h1]
 ·exact lP_else _ _ (by omega)
theorem lP_0 (m : Nat) : lP 0 m = 0 := by
 unfold lP
 rw [if_neg (by omega)]
 split
 ·exact UInt64.and_zero
 ·rfl
theorem lP_end (m : Nat) (h : m < 24) : lP 168 m = constL.getD m 0 := by unfold lP; rw [if_pos (by omega)]
theorem rot64_left {x : UInt64} {n : Int} (h : 1 ≤ n ∧ n ≤ 63) : u64Shl x (((UInt64.ofInt n &&& 63).toNat : Int)).toNat ||| u64Shr x (((64 - (UInt64.ofInt n &&& 63) : UInt64).toNat : Int)).toNat = rot x n.toNat := by
 obtain ⟨k, rfl⟩ : ∃ k : Nat, n = k := ⟨n.toNat, by omega⟩
 obtain ⟨h1, h2⟩ := (show ∀ k : Fin 64, 1 ≤ k.val → (UInt64.ofInt ((k.val : Nat) : Int) &&& 63).toNat = k ∧ (64 - (UInt64.ofInt ((k.val : Nat) : Int) &&& 63) : UInt64).toNat = 64 - k by decide +kernel) ⟨k, by omega⟩ (by show 1 ≤ k; omega)
 simp only at h1 h2
 rw [h1, h2]
 rfl
theorem pl_lt (k : Nat) : placesL.getD k 0 < 25 := by
 by_cases h : k < 24
 ·exact pl_b ⟨k, h⟩
 ·rw [List.getD_eq_getElem?_getD, List.getElem?_eq_none (by simp only [placesL, List.length_cons, List.length_nil]; omega)]; exact Nat.zero_lt_succ _
theorem tn_b {k : Nat} (h : k < 24) : 1 ≤ turnsL.getD k 0 ∧ turnsL.getD k 0 ≤ 63 := (show ∀ k : Fin 24, 1 ≤ turnsL.getD k 0 ∧ turnsL.getD k 0 ≤ 63 by decide +kernel) ⟨k, h⟩
theorem ch_at {a : Ln} {y x : Nat} (h : x < 5) : a (5 * y + x) ^^^ (~~~ (a (5 * y + (x + 1) % 5)) &&& a (5 * y + (x + 2) % 5)) = chF a (5 * y + x) := by
 unfold chF
 rw [show (5 * y + x) / 5 = y by omega, show (5 * y + x) % 5 = x by omega]
theorem chR_at {b : Ln} {x y : Nat} (h : y < 5) : b (x * 5 + y) ^^^ (~~~ (b ((x + 1) % 5 * 5 + y)) &&& b ((x + 2) % 5 * 5 + y)) = chR b (x * 5 + y) := by
 unfold chR
 rw [show (x * 5 + y) / 5 = x by omega, show (x * 5 + y) % 5 = y by omega]
theorem xR_lt (j : Nat) : xR j < 5 := Nat.mod_lt _ (by decide)
theorem xR_iff {x y : Nat} (hx : x < 5) (hy : y < 5) (j : Nat) : (xR j = x ∧ j / 5 = y) ↔ j = y * 5 + (2 * x + 3 * y) % 5 := by
 have key := (show ∀ r x y : Fin 5, (3 * r.val + y) % 5 = x ↔ r.val = (2 * x + 3 * y) % 5 by decide +kernel) ⟨j % 5, Nat.mod_lt _ (by decide)⟩ ⟨x, hx⟩ ⟨y, hy⟩
 simp only at key
 unfold xR
 constructor
 ·rintro ⟨h1, h2⟩
  rw [h2] at h1
  have := key.1 h1
  omega
 ·intro h
  have h2 : j / 5 = y := by omega
  exact ⟨by rw [h2]; exact key.2 (by omega), h2⟩
theorem b_put {v : Ln} {x y : Nat} (hx : x < 5) (hy : y < 5) (j : Nat) :
  (if j = y * 5 + (2 * x + 3 * y) % 5 then rot (v (x * 5 + y) ^^^ dR v x) (tL.getD (x * 5 + y) 0) else if xR j < x ∨ (xR j = x ∧ j / 5 < y) then bR v j else 0) = if xR j < x ∨ (xR j = x ∧ j / 5 < y + 1) then bR v j else 0 := by
 have hi := xR_iff hx hy j
 by_cases h9 : j = y * 5 + (2 * x + 3 * y) % 5
 ·obtain ⟨h1, h2⟩ := hi.2 h9
  rw [if_pos h9, if_pos (.inr ⟨h1, by omega⟩)]
  unfold bR
  rw [h1, h2]
 ·have h8 : ¬ (xR j = x ∧ j / 5 = y) := fun e => h9 (hi.1 e)
  rw [if_neg h9]
  by_cases h7 : xR j < x ∨ (xR j = x ∧ j / 5 < y)
  ·rw [if_pos h7, if_pos (h7.imp id fun e => ⟨e.1, by omega⟩)]
  ·rw [if_neg h7, if_neg (by omega)]
def spB (r : Nat) (e : UInt8) (w : Ln) (p : Nat) (g : Bool) (j : Nat) : PV :=
 if j = 0 then .v (.int .i64 (r : Int)) else if j = 1 then .u8 e else if j < 27 then .u64 (w (j - 2)) else if j = 27 then .v (.int .i64 (p : Int)) else .v (.bool (decide (j = 28) && g))
theorem spB_w {r : Nat} {e : UInt8} {w : Ln} {p : Nat} {g : Bool} {k i : Nat} (hk : k = 2 + i) (hi : i < 25) : spB r e w p g k = .u64 (w i) := by
 subst hk
 unfold spB
 rw [if_neg (by omega), if_neg (by omega), if_pos (by omega), show 2 + i - 2 = i by omega]
theorem spB_one {r : Nat} {e : UInt8} {w : Ln} {p : Nat} {g : Bool} (j : Nat) : (BV.p (spB r e w p g j)).one := by
 unfold spB
 repeat' split
 all_goals first | trivial | rfl
theorem spB_cg {r : Nat} {e : UInt8} {w w' : Ln} {p : Nat} {g : Bool} (h : ∀ j, j < 25 → w j = w' j) (j : Nat) : spB r e w p g j = spB r e w' p g j := by
 unfold spB
 by_cases h1 : j < 27
 ·by_cases h2 : 2 ≤ j
  ·rw [h (j - 2) (by omega)]
  ·have : j = 0 ∨ j = 1 := by omega
   rcases this with rfl | rfl <;> rfl
 ·rw [if_neg (show ¬ j < 27 from h1), if_neg (show ¬ j < 27 from h1)]
theorem spB_st {r : Nat} {e : UInt8} {w w' : Ln} {p : Nat} {g : Bool} {k i : Nat} {v : UInt64} (hk : k = 2 + i) (hi : i < 25) (hv : w' i = v) (hw : ∀ j, j < 25 → j ≠ i → w' j = w j) (j : Nat) : (if j = k then PV.u64 v else spB r e w p g j) = spB r e w' p g j := by
 subst hk
 by_cases h9 : j = 2 + i
 ·rw [if_pos h9, h9, spB_w rfl hi, hv]
 ·rw [if_neg h9]
  unfold spB
  by_cases h2 : 2 ≤ j
  ·by_cases h3 : j < 27
   ·rw [hw (j - 2) (by omega) (by omega)]
   ·rw [if_neg h3, if_neg h3]
  ·have : j = 0 ∨ j = 1 := by omega
   rcases this with rfl | rfl <;> rfl
theorem tr_at {w : Ln} {n : Nat} (h : n < 25) : tr w (n % 5 * 5 + n / 5) = w n := by unfold tr; congr 1; omega
theorem spB_at {r : Nat} {e : UInt8} {w : Ln} {p p' : Nat} {g : Bool} {x : Int} (h : ((p' : Nat) : Int) = x) (j : Nat) : (if j = 27 then PV.v (.int .i64 x) else spB r e w p g j) = spB r e w p' g j := by
 subst h
 unfold spB
 by_cases h9 : j = 27
 ·subst h9; rfl
 ·simp only [if_neg h9]
theorem spB_gv {r : Nat} {e : UInt8} {w : Ln} {p : Nat} {g g' : Bool} (j : Nat) : (if j = 28 then PV.v (.bool g') else spB r e w p g j) = spB r e w p g' j := by
 unfold spB
 by_cases h9 : j = 28
 ·subst h9; rfl
 ·rw [if_neg h9]
  simp only [h9, decide_false, Bool.false_and]
theorem spB_ag {r : Nat} {e : UInt8} {w w' : Ln} {p : Nat} {g : Bool} (f : Nat → PV) (hf : ∀ j, j < 25 → f j = .u64 (w' j)) (j : Nat) : (if 2 ≤ j ∧ j < 27 then f (j - 2) else spB r e w p g j) = spB r e w' p g j := by
 by_cases h9 : 2 ≤ j ∧ j < 27
 ·rw [if_pos h9, hf _ (by omega), spB_w (i := j - 2) (by omega) (by omega)]
 ·rw [if_neg h9]
  unfold spB
  by_cases h2 : j < 2
  ·have : j = 0 ∨ j = 1 := by omega
   rcases this with rfl | rfl <;> rfl
  ·simp only [if_neg (show ¬ j < 27 by omega)]
def layF (w : Ln) (p : Nat) (c : UInt8) (j : Nat) : UInt64 := if j = p / 8 then w j ^^^ u64Shl c.toUInt64 (p % 8 * 8) else w j
def wrS (r : Nat) (p : Ln × Nat) (c : UInt8) : Ln × Nat := if p.2 + 1 = r then (kf (layF p.1 p.2 c), 0) else (layF p.1 p.2 c, p.2 + 1)
def wrN (r : Nat) (b : List UInt8) : Nat → Ln × Nat
 | 0 => (fun _ => 0, 0)
 | s + 1 => wrS r (wrN r b s) (b.getD s 0)
def padK (r : Nat) (e : UInt8) (p : Ln × Nat) : Ln := kf (layF (layF p.1 p.2 e) (r - 1) 128)
def gvT (r : Nat) (p : Ln × Nat) : Ln × Nat := if p.2 = r then (kf p.1, 0) else p
def gvN (r : Nat) (w : Ln) : Nat → Ln × Nat
 | 0 => (w, 0)
 | s + 1 => ((gvT r (gvN r w s)).1, (gvT r (gvN r w s)).2 + 1)
def gvB (r : Nat) (w : Ln) (s : Nat) : UInt8 := (u64Shr ((gvT r (gvN r w s)).1 ((gvT r (gvN r w s)).2 / 8)) ((gvT r (gvN r w s)).2 % 8 * 8)).toUInt8
def gvL (r : Nat) (w : Ln) : Nat → List UInt8
 | 0 => []
 | s + 1 => gvL r w s ++ [gvB r w s]
def spg (r : Nat) (e : UInt8) (b : List UInt8) (n : Nat) : List UInt8 := gvL r (padK r e (wrN r b b.length)) n
theorem wrN_le (r : Nat) (b : List UInt8) (h : 0 < r) (s : Nat) : (wrN r b s).2 < r := by
 induction s with
 | zero => exact h
 | succ s ih =>
  show (wrS r (wrN r b s) _).2 < r
  unfold wrS
  split
  ·exact h
  ·show _ + 1 < r; omega
theorem gvT_lt (r : Nat) (p : Ln × Nat) (h : 0 < r) (hp : p.2 ≤ r) : (gvT r p).2 < r := by
 unfold gvT
 split
 ·exact h
 ·omega
theorem gvN_le (r : Nat) (w : Ln) (h : 0 < r) (s : Nat) : (gvN r w s).2 ≤ r := by
 induction s with
 | zero => exact Nat.zero_le _
 | succ s ih => exact gvT_lt r _ h ih
theorem gvL_len (r : Nat) (w : Ln) (n : Nat) : (gvL r w n).length = n := by
 induction n with
 | zero => rfl
 | succ n ih => simp [gvL, ih]
theorem gvL_set (r : Nat) (w : Ln) (s m : Nat) (h : s < m) : (gvL r w s ++ List.replicate (m - s) 0).set s (gvB r w s) = gvL r w (s + 1) ++ List.replicate (m - (s + 1)) 0 := by
 have e : m - s = (m - (s + 1)) + 1 := by omega
 rw [e, List.replicate_succ, List.set_append, if_neg (by rw [gvL_len]; omega), gvL_len, Nat.sub_self, List.set_cons_zero]
 show _ = (gvL r w s ++ [gvB r w s]) ++ _
 rw [List.append_assoc]; rfl
theorem gvL_end (r : Nat) (w : Ln) (m : Nat) : gvL r w m ++ List.replicate (m - m) 0 = gvL r w m := by rw [Nat.sub_self]; exact List.append_nil _
theorem gvT_eq (r : Nat) (p : Ln × Nat) : (if ((p.2 : Nat) : Int) = ((r : Nat) : Int) then kf p.1 else p.1) = (gvT r p).1 ∧ (if ((p.2 : Nat) : Int) = ((r : Nat) : Int) then 0 else p.2) = (gvT r p).2 := by
 unfold gvT
 by_cases h : p.2 = r
 ·have h2 : ((p.2 : Nat) : Int) = ((r : Nat) : Int) := by omega
  rw [if_pos h2, if_pos h2, if_pos h]; exact ⟨rfl, rfl⟩
 ·have h2 : ¬ ((p.2 : Nat) : Int) = ((r : Nat) : Int) := by omega
  rw [if_neg h2, if_neg h2, if_neg h]; exact ⟨rfl, rfl⟩
theorem and7 {r : Nat} (h : r ≤ 192) (h8 : r % 8 = 0) : iAnd .i64 (r : Int) 7 = 0 := (show ∀ r : Fin 193, r.val % 8 = 0 → iAnd .i64 ((r.val : Nat) : Int) 7 = 0 by decide +kernel) ⟨r, by omega⟩ h8
theorem spg_len (r : Nat) (e : UInt8) (b : List UInt8) (n : Nat) : (spg r e b n).length = n := gvL_len _ _ _
end Go.Vh

/- Kpke, in plain Lean. -/
set_option linter.unusedVariables false
namespace Go.Vk
open Go Go.Vc
def sqF (d n : Int) : Int := if d < 1 ∨ 11 < d then 0 else ((n % 3329) * 2 ^ d.toNat + 1664) / 3329 % 2 ^ d.toNat
def stF (d n : Int) : Int := if d < 1 ∨ 11 < d then 0 else ((n % 2 ^ d.toNat) * 3329 + 2 ^ (d.toNat - 1)) / 2 ^ d.toNat
theorem mod_pos {n m : Int} (h0 : 0 < m) (h : ¬ n.tmod m < 0) : n.tmod m = n % m := by
 rw [Int.emod_eq_tmod]
 split
 ·omega
 ·rename_i h2
  exfalso
  have h3 : n < 0 := by
   rcases Int.lt_or_le n 0 with h4 | h4
   ·exact h4
   ·exact absurd (Or.inl h4) h2
  have h5 : n.tmod m = -((-n).tmod m) := by rw [Int.neg_tmod]; omega
  have h6 := Int.tmod_nonneg m (show 0 ≤ -n by omega)
  have h7 : n.tmod m = 0 := by omega
  exact h2 (Or.inr (Int.dvd_of_tmod_eq_zero h7))
theorem mod_neg {n m : Int} (h0 : 0 < m) (h : n.tmod m < 0) : n.tmod m + m = n % m := by
 rw [Int.emod_eq_tmod]
 split
 ·rename_i h2
  rcases h2 with h2 | h2
  ·have := Int.tmod_nonneg m h2; omega
  ·rw [Int.tmod_eq_zero_of_dvd h2] at h; omega
 ·omega
theorem shl_pow {a : Int} {k : Nat} (h0 : 0 ≤ a) (hk : k ≤ 60) (h : a * 2 ^ k ≤ 9223372036854775807) : iShl .i64 a k = a * 2 ^ k := by
 unfold iShl
 have hb : IntKind.i64.bits = 64 := rfl
 rw [hb, Nat.min_eq_left (by omega)]
 have hp : (0 : Int) < 2 ^ k := Int.pow_pos (by decide)
 have := Int.mul_nonneg h0 (Int.le_of_lt hp)
 exact wrap_i64 (by omega) (by omega)
theorem shr_pow {a : Int} {k : Nat} (hk : k ≤ 60) : iShr .i64 a k = a / 2 ^ k := by
 unfold iShr
 have hb : IntKind.i64.bits = 64 := rfl
 rw [hb, Nat.min_eq_left (by omega)]
theorem pow11 {d : Int} (h1 : 1 ≤ d) (h2 : d ≤ 11) : (2 : Int) ≤ 2 ^ d.toNat ∧ (2 : Int) ^ d.toNat ≤ 2048 := by
 obtain ⟨k, hk⟩ : ∃ k : Nat, d.toNat = k := ⟨_, rfl⟩
 rw [hk]
 have h3 : 1 ≤ k := by omega
 have h4 : k ≤ 11 := by omega
 clear hk h1 h2
 match k, h3, h4 with
 | 1, _, _ => decide
 | 2, _, _ => decide
 | 3, _, _ => decide
 | 4, _, _ => decide
 | 5, _, _ => decide
 | 6, _, _ => decide
 | 7, _, _ => decide
 | 8, _, _ => decide
 | 9, _, _ => decide
 | 10, _, _ => decide
 | 11, _, _ => decide
theorem sq_shl {d : Int} (n : Int) (h1 : ¬ d < 1) (h2 : ¬ 11 < d) : iShl .i64 (n % 3329) d.toNat = (n % 3329) * 2 ^ d.toNat ∧ 0 ≤ (n % 3329) * 2 ^ d.toNat ∧ (n % 3329) * 2 ^ d.toNat ≤ 6815744 ∧ iShl .i64 1 d.toNat = 2 ^ d.toNat ∧ (2 : Int) ≤ 2 ^ d.toNat ∧ (2 : Int) ^ d.toNat ≤ 2048 := by
 have hp := pow11 (d := d) (by omega) (by omega)
 have h3 := Int.emod_nonneg n (show (3329 : Int) ≠ 0 by decide)
 have h4 := Int.emod_lt_of_pos n (show (0 : Int) < 3329 by decide)
 have h5 : 0 ≤ (n % 3329) * 2 ^ d.toNat := Int.mul_nonneg h3 (by omega)
 have h6 : (n % 3329) * 2 ^ d.toNat ≤ 3328 * 2048 := Int.mul_le_mul (by omega) hp.2 (by omega) (by decide)
 refine ⟨shl_pow h3 (by omega) (by omega), h5, by omega, ?_, hp⟩
 rw [shl_pow (by decide) (by omega) (by omega), Int.one_mul]
theorem sq_ret {d n : Int} (h1 : ¬ d < 1) (h2 : ¬ 11 < d) : iAnd .i64 ((iShl .i64 (n % 3329) d.toNat + 1664) / 3329) (iShl .i64 1 d.toNat - 1) = sqF d n := by
 obtain ⟨a1, a2, a3, a4, a5, a6⟩ := sq_shl n h1 h2
 unfold sqF
 rw [if_neg (by omega), a1, a4, Go.Vw.iAnd_mask (by omega) (by omega) (by omega)]
theorem st_shl {d : Int} (n : Int) (h1 : ¬ d < 1) (h2 : ¬ 11 < d) : iShl .i64 1 d.toNat = 2 ^ d.toNat ∧ (2 : Int) ≤ 2 ^ d.toNat ∧ (2 : Int) ^ d.toNat ≤ 2048 ∧ 0 ≤ n % iShl .i64 1 d.toNat ∧ n % iShl .i64 1 d.toNat ≤ 2047 ∧ iShl .i64 1 (d - 1).toNat = 2 ^ (d.toNat - 1) ∧ 0 ≤ iShl .i64 1 (d - 1).toNat ∧ iShl .i64 1 (d - 1).toNat ≤ 2048 := by
 have hp := pow11 (d := d) (by omega) (by omega)
 have e1 : iShl .i64 1 d.toNat = 2 ^ d.toNat := by rw [shl_pow (by decide) (by omega) (by omega), Int.one_mul]
 have h3 := Int.emod_nonneg n (show (2 : Int) ^ d.toNat ≠ 0 by omega)
 have h4 := Int.emod_lt_of_pos n (show (0 : Int) < 2 ^ d.toNat by omega)
 have e0 : (d - 1).toNat = d.toNat - 1 := by omega
 have hq : (0 : Int) < 2 ^ (d.toNat - 1) := Int.pow_pos (by decide)
 have hq2 : (2 : Int) ^ d.toNat = 2 ^ (d.toNat - 1) * 2 := by
  rw [← Int.pow_succ]
  congr 1
  omega
 have e2 : iShl .i64 1 (d - 1).toNat = 2 ^ (d.toNat - 1) := by rw [e0, shl_pow (by decide) (by omega) (by omega), Int.one_mul]
 rw [e1, e2]
 exact ⟨rfl, hp.1, hp.2, h3, by omega, rfl, by omega, by omega⟩
theorem st_ret {d n : Int} (h1 : ¬ d < 1) (h2 : ¬ 11 < d) : iShr .i64 (n % iShl .i64 1 d.toNat * 3329 + iShl .i64 1 (d - 1).toNat) d.toNat = stF d n := by
 obtain ⟨a1, a2, a3, a4, a5, a6, a7, a8⟩ := st_shl n h1 h2
 unfold stF
 rw [if_neg (by omega), a1, a6, shr_pow (by omega)]
def mOf (d : Int) : Int := if d = 12 then 3329 else 2 ^ d.toNat
def cof (d : Int) (p : Nat → Int) (s : Nat) : Nat := (p s % mOf d).toNat
def encV (D : Nat) (c : Nat → Nat) : Nat → Nat
 | 0 => 0
 | s + 1 => encV D c s + c s * 2 ^ (D * s)
def leB (v k : Nat) : List UInt8 := (List.range k).map fun i => UInt8.ofNat (v / 2 ^ (8 * i))
def encF (d : Int) (p : Nat → Int) : List UInt8 := if d < 1 ∨ 12 < d then [] else leB (encV d.toNat (cof d p) 256) (d.toNat * 256 / 8)
theorem leB_len (v k : Nat) : (leB v k).length = k := by simp [leB]
theorem mOf_b {d : Int} (h1 : ¬ d < 1) (h2 : ¬ 12 < d) : 2 ≤ mOf d ∧ mOf d ≤ 4096 ∧ mOf d ≤ 2 ^ d.toNat ∧ iShl .i64 1 d.toNat = 2 ^ d.toNat ∧ (2 : Int) ^ d.toNat ≤ 4096 := by
 by_cases e : d = 12
 ·subst e; unfold mOf; rw [if_pos rfl]; decide
 ·have hp := pow11 (d := d) (by omega) (by omega)
  unfold mOf
  rw [if_neg e, shl_pow (by decide) (by omega) (by omega), Int.one_mul]
  omega
theorem cof_lt {d : Int} (p : Nat → Int) (s : Nat) (h1 : ¬ d < 1) (h2 : ¬ 12 < d) : cof d p s < 2 ^ d.toNat ∧ ((cof d p s : Nat) : Int) = p s % mOf d ∧ cof d p s < 4096 := by
 have hm := mOf_b h1 h2
 have h3 := Int.emod_nonneg (p s) (show mOf d ≠ 0 by omega)
 have h4 := Int.emod_lt_of_pos (p s) (show 0 < mOf d by omega)
 have h5 : ((2 ^ d.toNat : Nat) : Int) = 2 ^ d.toNat := by simp
 unfold cof
 omega
theorem encV_lt {d : Int} (p : Nat → Int) (h1 : ¬ d < 1) (h2 : ¬ 12 < d) : ∀ s, encV d.toNat (cof d p) s < 2 ^ (d.toNat * s)
 | 0 => by simp [encV]
 | s + 1 => by
  have ih := encV_lt p h1 h2 s
  have hc := (cof_lt p s h1 h2).1
  show encV d.toNat (cof d p) s + cof d p s * 2 ^ (d.toNat * s) < _
  rw [Nat.mul_succ, Nat.pow_add]
  have h3 : (cof d p s + 1) * 2 ^ (d.toNat * s) ≤ 2 ^ d.toNat * 2 ^ (d.toNat * s) := Nat.mul_le_mul_right _ hc
  rw [Nat.add_mul, Nat.one_mul] at h3
  rw [Nat.mul_comm (2 ^ (d.toNat * s))]
  omega
theorem enc_or {d : Int} (p : Nat → Int) {s : Nat} (h1 : ¬ d < 1) (h2 : ¬ 12 < d) :
  iOr .i64 ((encV d.toNat (cof d p) s / 2 ^ (8 * (d.toNat * s / 8)) : Nat) : Int) (iShl .i64 (p s % mOf d) ((d.toNat * s - 8 * (d.toNat * s / 8) : Nat) : Int).toNat) = ((encV d.toNat (cof d p) (s + 1) / 2 ^ (8 * (d.toNat * s / 8 + 0)) : Nat) : Int) := by
 have hv := encV_lt p h1 h2 s
 obtain ⟨hc, hc2, hc3⟩ := cof_lt p s h1 h2
 generalize hV : encV d.toNat (cof d p) s = V at *
 generalize hX : d.toNat * s = X at *
 have hk : X = 8 * (X / 8) + (X - 8 * (X / 8)) := by omega
 have hb : X - 8 * (X / 8) < 8 := by omega
 generalize hB : X - 8 * (X / 8) = B at *
 generalize hK : 8 * (X / 8) = K at *
 have e1 : encV d.toNat (cof d p) (s + 1) = V + cof d p s * 2 ^ X := by rw [← hV, ← hX]; rfl
 rw [e1, Int.toNat_natCast, ← hc2]
 have hpB : (2 : Nat) ^ B ≤ 2 ^ 7 := Nat.pow_le_pow_right (by decide) (by omega)
 have h5 : cof d p s * 2 ^ B ≤ 524160 := Nat.le_trans (Nat.mul_le_mul (show cof d p s ≤ 4095 by omega) hpB) (by decide)
 have h6 : ((cof d p s : Nat) : Int) * 2 ^ B = ((cof d p s * 2 ^ B : Nat) : Int) := by rw [Int.natCast_mul, Int.natCast_pow]; rfl
 have h60 : ((cof d p s * 2 ^ B : Nat) : Int) ≤ 524160 := Int.ofNat_le.2 h5
 have h7 : V / 2 ^ K < 2 ^ B := Nat.div_lt_of_lt_mul (by rw [← Nat.pow_add, ← hk]; exact hv)
 have h8 : (((2 : Nat) ^ B : Nat) : Int) = 2 ^ B := by simp
 have h9 : (2 : Nat) ^ B ≤ 128 := hpB
 have h10 : ((V / 2 ^ K : Nat) : Int) < 2 ^ B := by rw [← h8]; exact_mod_cast h7
 have h11 : (0 : Int) ≤ ((V / 2 ^ K : Nat) : Int) := Int.natCast_nonneg _
 have h12 : ((V / 2 ^ K : Nat) : Int) ≤ 128 := by
  have : V / 2 ^ K ≤ 128 := by omega
  exact Int.ofNat_le.2 this
 generalize hW : V / 2 ^ K = W at *
 rw [shl_pow (by omega) (by omega) (by rw [h6]; omega), Go.Vw.iOr_add h11 h10 (by omega) (by rw [h6]; omega), h6, hk, Nat.pow_add, ← Nat.mul_assoc, Nat.mul_right_comm, Nat.add_mul_div_right _ _ (Nat.pow_pos (by decide)), hW]
 simp
theorem enc_shr {V k : Nat} : iShr .i64 ((V / 2 ^ (8 * k) : Nat) : Int) 8 = ((V / 2 ^ (8 * (k + 1)) : Nat) : Int) := by
 rw [shr_pow (by decide), Nat.mul_succ, Nat.pow_add, ← Nat.div_div_eq_div_mul]
 simp
theorem leB_snoc {v k : Nat} : leB v k ++ [UInt8.ofInt ((v / 2 ^ (8 * k) : Nat) : Int)] = leB v (k + 1) := by
 unfold leB
 rw [List.range_succ, List.map_append]
 congr 1
 simp only [List.map_cons, List.map_nil, List.cons.injEq, and_true]
 refine UInt8.toNat_inj.1 ?_
 have h1 := Go.Vw.u8_toNat ((v / 2 ^ (8 * k) : Nat) : Int)
 rw [UInt8.toNat_ofNat']
 omega
theorem leB_low {d : Int} (p : Nat → Int) (s : Nat) : leB (encV d.toNat (cof d p) s) (d.toNat * s / 8) = leB (encV d.toNat (cof d p) (s + 1)) (d.toNat * s / 8 + 0) := by
 unfold leB
 refine List.map_congr_left fun i hi => ?_
 have hi' : i < d.toNat * s / 8 := by simpa using hi
 refine UInt8.toNat_inj.1 ?_
 rw [UInt8.toNat_ofNat', UInt8.toNat_ofNat']
 show _ = (encV d.toNat (cof d p) s + cof d p s * 2 ^ (d.toNat * s)) / 2 ^ (8 * i) % 2 ^ 8
 obtain ⟨t, ht⟩ : ∃ t, d.toNat * s = 8 * i + (8 + t) := ⟨d.toNat * s - 8 * i - 8, by omega⟩
 rw [ht, Nat.pow_add, Nat.pow_add, Nat.mul_comm (2 ^ (8 * i)), ← Nat.mul_assoc, Nat.add_mul_div_right _ _ (Nat.pow_pos (by decide)), Nat.mul_left_comm, Nat.add_mul_mod_self_left]
theorem tmod_lb {n m : Int} (h0 : 0 < m) : -m ≤ n.tmod m ∧ n.tmod m < m := by
 have h := @Int.emod_eq_tmod n m
 have h1 := Int.emod_nonneg n (show m ≠ 0 by omega)
 have h2 := Int.emod_lt_of_pos n h0
 split at h <;> omega
end Go.Vk

/- Kpke, in plain Lean: decoding. -/
set_option linter.unusedVariables false
namespace Go.Vk
open Go Go.Vc
def leN : List UInt8 → Nat
 | [] => 0
 | c :: r => c.toNat + 256 * leN r
theorem leN_snoc : ∀ (l : List UInt8) (c : UInt8), leN (l ++ [c]) = leN l + c.toNat * 2 ^ (8 * l.length)
 | [], c => by simp [leN]
 | a :: r, c => by
  show a.toNat + 256 * leN (r ++ [c]) = a.toNat + 256 * leN r + c.toNat * 2 ^ (8 * (r.length + 1))
  rw [leN_snoc r c, Nat.mul_succ, Nat.pow_add, Nat.mul_add, show (2 : Nat) ^ 8 = 256 from rfl, ← Nat.mul_assoc c.toNat, Nat.mul_comm (c.toNat * 2 ^ (8 * r.length)) 256]
  omega
theorem leN_lt : ∀ l : List UInt8, leN l < 2 ^ (8 * l.length)
 | [] => by simp [leN]
 | a :: r => by
  have := leN_lt r
  have ha := a.toNat_lt
  show a.toNat + 256 * leN r < 2 ^ (8 * (r.length + 1))
  rw [Nat.mul_succ, Nat.pow_add, show (2 : Nat) ^ 8 = 256 from rfl]
  omega
theorem leN_app : ∀ (l m : List UInt8), leN (l ++ m) = leN l + 2 ^ (8 * l.length) * leN m
 | [], m => by simp [leN]
 | a :: r, m => by
  show a.toNat + 256 * leN (r ++ m) = a.toNat + 256 * leN r + 2 ^ (8 * (r.length + 1)) * leN m
  rw [leN_app r m, Nat.mul_succ, Nat.pow_add, show (2 : Nat) ^ 8 = 256 from rfl, Nat.mul_add, ← Nat.mul_assoc, Nat.mul_comm 256 (2 ^ (8 * r.length))]
  omega
def decN (d : Int) (b : List UInt8) (j : Nat) : Nat := leN b / 2 ^ (d.toNat * j) % 2 ^ d.toNat
def decP (d : Int) (b : List UInt8) (j : Nat) : Int := if d = 12 then (decN d b j : Int) % 3329 else (decN d b j : Int)
def decF (d : Int) (b : List UInt8) : (Nat → Int) × Int := if d < 1 ∨ 12 < d then (fun _ => 0, 1) else if (b.length : Int) ≠ 32 * d then (fun _ => 0, 52) else (decP d b, 0)
theorem dec_or {b : List UInt8} {k X : Nat} (hk : k < b.length) (hX : X ≤ 8 * k) (hB : 8 * k - X ≤ 20) :
  iOr .i64 ((leN (b.take k) / 2 ^ X : Nat) : Int) (iShl .i64 (((b.drop k).getD 0 0).toNat : Int) ((8 * k - X : Nat) : Int).toNat) = ((leN (b.take (k + 1)) / 2 ^ X : Nat) : Int) := by
 have e0 : (b.drop k).getD 0 0 = b[k] := by simp [List.getD, List.getElem?_drop, List.getElem?_eq_getElem hk]
 have hl : (b.take k).length = k := by simp; omega
 have hv := leN_lt (b.take k)
 rw [hl] at hv
 have e1 : leN (b.take (k + 1)) = leN (b.take k) + (b[k]).toNat * 2 ^ (8 * k) := by
  rw [List.take_succ_eq_append_getElem hk, leN_snoc, hl]
 rw [e0, e1, Int.toNat_natCast]
 have hc := (b[k]).toNat_lt
 generalize (b[k]).toNat = c at *
 generalize leN (b.take k) = V at *
 generalize hBB : 8 * k - X = B at *
 have hk2 : 8 * k = X + B := by omega
 rw [hk2] at hv ⊢
 have hpB : (2 : Nat) ^ B ≤ 2 ^ 20 := Nat.pow_le_pow_right (by decide) hB
 have h5 : c * 2 ^ B ≤ 267386880 := Nat.le_trans (Nat.mul_le_mul (show c ≤ 255 by omega) hpB) (by decide)
 have h60 : ((c * 2 ^ B : Nat) : Int) ≤ 267386880 := Int.ofNat_le.2 h5
 have h6 : (c : Int) * 2 ^ B = ((c * 2 ^ B : Nat) : Int) := by rw [Int.natCast_mul, Int.natCast_pow]; rfl
 have h7 : V / 2 ^ X < 2 ^ B := Nat.div_lt_of_lt_mul (by rw [← Nat.pow_add]; exact hv)
 have h8 : (((2 : Nat) ^ B : Nat) : Int) = 2 ^ B := by simp
 have h9 : (2 : Nat) ^ B ≤ 1048576 := hpB
 have h10 : ((V / 2 ^ X : Nat) : Int) < 2 ^ B := by rw [← h8]; exact_mod_cast h7
 have h11 : (0 : Int) ≤ ((V / 2 ^ X : Nat) : Int) := Int.natCast_nonneg _
 have h12 : ((V / 2 ^ X : Nat) : Int) ≤ 1048576 := by
  have : V / 2 ^ X ≤ 1048576 := by omega
  exact Int.ofNat_le.2 this
 generalize hW : V / 2 ^ X = W at *
 rw [shl_pow (by omega) (by omega) (by rw [h6]; omega), Go.Vw.iOr_add h11 h10 (by omega) (by rw [h6]; omega), h6, Nat.pow_add, Nat.mul_comm (2 ^ X), ← Nat.mul_assoc, Nat.add_mul_div_right _ _ (Nat.pow_pos (by decide)), hW]
 simp
theorem dec_low {d : Int} {b : List UInt8} {k s : Nat} (hk : k ≤ b.length) (h : d.toNat * (s + 1) ≤ 8 * k) : leN (b.take k) / 2 ^ (d.toNat * s) % 2 ^ d.toNat = decN d b s := by
 unfold decN
 have hl : (b.take k).length = k := by simp; omega
 have e : leN b = leN (b.take k) + 2 ^ (8 * k) * leN (b.drop k) := by
  conv => lhs; rw [← List.take_append_drop k b]
  rw [leN_app, hl]
 obtain ⟨t, ht⟩ : ∃ t, 8 * k = d.toNat * s + (d.toNat + t) := ⟨8 * k - d.toNat * s - d.toNat, by rw [Nat.mul_succ] at h; omega⟩
 rw [e, ht, Nat.pow_add, Nat.mul_assoc, Nat.add_mul_div_left _ _ (Nat.pow_pos (by decide)), Nat.pow_add, Nat.mul_assoc, Nat.add_mul_mod_self_left]
theorem dec_b {b : List UInt8} {k X : Nat} (hk : k ≤ b.length) (hX : X ≤ 8 * k) (hB : 8 * k - X ≤ 20) : ((leN (b.take k) / 2 ^ X : Nat) : Int) ≤ 1048576 := by
 have hl : (b.take k).length = k := by simp; omega
 have hv := leN_lt (b.take k)
 rw [hl] at hv
 have h7 : leN (b.take k) / 2 ^ X < 2 ^ (8 * k - X) := Nat.div_lt_of_lt_mul (by rw [← Nat.pow_add, show X + (8 * k - X) = 8 * k by omega]; exact hv)
 have h9 : (2 : Nat) ^ (8 * k - X) ≤ 2 ^ 20 := Nat.pow_le_pow_right (by decide) hB
 have h10 : leN (b.take k) / 2 ^ X ≤ 1048576 := Nat.le_trans (Nat.le_of_lt h7) h9
 exact Int.ofNat_le.2 h10
theorem dec_and {d : Int} {b : List UInt8} {k s : Nat} (h1 : ¬ d < 1) (h2 : ¬ 12 < d) (hk : k ≤ b.length) (h : d.toNat * (s + 1) ≤ 8 * k) (hB : 8 * k - d.toNat * s ≤ 20) :
  iAnd .i64 ((leN (b.take k) / 2 ^ (d.toNat * s) : Nat) : Int) (iShl .i64 1 d.toNat - 1) = ((decN d b s : Nat) : Int) := by
 have hb := dec_b hk (show d.toNat * s ≤ 8 * k by rw [Nat.mul_succ] at h; omega) hB
 have h0 : (0 : Int) ≤ ((leN (b.take k) / 2 ^ (d.toNat * s) : Nat) : Int) := Int.natCast_nonneg _
 rw [(mOf_b h1 h2).2.2.2.1, Go.Vw.iAnd_mask h0 (by omega) (by omega), ← dec_low hk h]
 simp
theorem dec_put {d : Int} {b : List UInt8} {s : Nat} {x : Int} (hx : x = decP d b s) (j : Nat) : PV.v (.int .i64 (if j = s then x else if j < s then decP d b j else 0)) = PV.v (.int .i64 (if j < s + 1 then decP d b j else 0)) := by
 subst hx
 by_cases h : j = s
 ·subst h; rw [if_pos rfl, if_pos (by omega)]
 ·rw [if_neg h]
  by_cases h2 : j < s
  ·rw [if_pos h2, if_pos (by omega)]
  ·rw [if_neg h2, if_neg (by omega)]
theorem dec_shr {d : Int} {b : List UInt8} {k s : Nat} (h2 : ¬ 12 < d) : iShr .i64 ((leN (b.take k) / 2 ^ (d.toNat * s) : Nat) : Int) d.toNat = ((leN (b.take k) / 2 ^ (d.toNat * (s + 1)) : Nat) : Int) := by
 rw [shr_pow (by omega), Nat.mul_succ, Nat.pow_add, ← Nat.div_div_eq_div_mul]
 simp
end Go.Vk

/- Kpke, in plain Lean: the document's side; numbers and bytes back and forth. -/
set_option linter.unusedVariables false
namespace Go.Vk
open Go Go.Vc
theorem leN_byte : ∀ (b : List UInt8) (q : Nat), leN b / 2 ^ (8 * q) % 256 = (b.getD q 0).toNat
 | [], q => by simp [leN]
 | c :: r, 0 => by
  have := c.toNat_lt
  show (c.toNat + 256 * leN r) / 2 ^ (8 * 0) % 256 = c.toNat
  simp
 | c :: r, q + 1 => by
  have := c.toNat_lt
  have ih := leN_byte r q
  show (c.toNat + 256 * leN r) / 2 ^ (8 * (q + 1)) % 256 = (r.getD q 0).toNat
  rw [← ih, Nat.mul_succ, Nat.add_comm (8 * q) 8, Nat.pow_add, ← Nat.div_div_eq_div_mul, show (2 : Nat) ^ 8 = 256 from rfl, show (c.toNat + 256 * leN r) / 256 = leN r by omega]
def bitF (b : List UInt8) (j : Nat) : Nat := leN b / 2 ^ j % 2
theorem bitF_lt (b : List UInt8) (j : Nat) : bitF b j < 2 := Nat.mod_lt _ (by decide)
theorem bit_byte (b : List UInt8) (j : Nat) : bitF b j = (b.getD (j / 8) 0).toNat / 2 ^ (j % 8) % 2 := by
 unfold bitF
 rw [← leN_byte]
 have hj : j = 8 * (j / 8) + j % 8 := by omega
 have h8 : 256 = 2 ^ (j % 8) * 2 ^ (8 - j % 8) := by rw [← Nat.pow_add, show j % 8 + (8 - j % 8) = 8 by omega]
 conv => lhs; rw [hj, Nat.pow_add, ← Nat.div_div_eq_div_mul]
 generalize leN b / 2 ^ (8 * (j / 8)) = V
 rw [h8, Nat.mod_mul_right_div_self]
 rw [show 8 - j % 8 = (8 - j % 8 - 1) + 1 by omega, Nat.pow_succ, Nat.mul_comm, Nat.mod_mul_right_mod]
theorem and_one {a : Int} (h0 : 0 ≤ a) (h1 : a ≤ 9223372036854775807) : iAnd .i64 a 1 = a % 2 := Go.Vw.iAnd_mask (m := 1) h0 h1 (by decide)
theorem bit_ret {b : List UInt8} {i : Int} (h0 : 0 ≤ i) : iAnd .i64 (((u8Shr (b.getD (i / 8).toNat 0) (i % 8).toNat).toNat : Nat) : Int) 1 = ((bitF b i.toNat : Nat) : Int) := by
 obtain ⟨n, rfl⟩ := Int.eq_ofNat_of_zero_le h0
 have e1 : ((n : Int) / 8).toNat = n / 8 := by omega
 have e2 : ((n : Int) % 8).toNat = n % 8 := by omega
 have hl := (u8Shr (b.getD (n / 8) 0) (n % 8)).toNat_lt
 rw [e1, e2, and_one (by omega) (by omega), Int.toNat_natCast, bit_byte]
 have hc := (b.getD (n / 8) 0).toNat_lt
 unfold u8Shr
 rw [UInt8.toNat_ofNat']
 have h9 : (b.getD (n / 8) 0).toNat / 2 ^ (n % 8) ≤ (b.getD (n / 8) 0).toNat := Nat.div_le_self _ _
 rw [Nat.mod_eq_of_lt (by omega)]
 rfl
def encR (d : Int) (p : Nat → Int) (s r : Nat) : Nat := encV d.toNat (cof d p) s + (cof d p s % 2 ^ r) * 2 ^ (d.toNat * s)
theorem leB_get {v k i : Nat} (h : i < k) : (leB v k).getD i 0 = UInt8.ofNat (v / 2 ^ (8 * i)) := by
 unfold leB
 simp [List.getD, h]
theorem encF_len {d : Int} {p : Nat → Int} (h1 : ¬ d < 1) (h2 : ¬ 12 < d) : ((encF d p).length : Int) = 32 * d := by
 unfold encF
 rw [if_neg (by omega), leB_len]
 omega
theorem encF_le (d : Int) (p : Nat → Int) : (encF d p).length ≤ 384 := by
 unfold encF
 split
 ·simp
 ·rw [leB_len]; omega
theorem encF_R {d : Int} {p : Nat → Int} (h1 : ¬ d < 1) (h2 : ¬ 12 < d) : leB (encV d.toNat (cof d p) 256) (32 * d).toNat = encF d p := by
 unfold encF
 rw [if_neg (by omega), show d.toNat * 256 / 8 = (32 * d).toNat by omega]
theorem leN_leB : ∀ (k v : Nat), leN (leB v k) = v % 2 ^ (8 * k)
 | 0, v => by simp [leB, leN, Nat.mod_one]
 | k + 1, v => by
  have e : leB v (k + 1) = leB v k ++ [UInt8.ofNat (v / 2 ^ (8 * k))] := by
   unfold leB; rw [List.range_succ, List.map_append]; rfl
  rw [e, leN_snoc, leN_leB k v, leB_len, UInt8.toNat_ofNat', Nat.mul_succ, Nat.pow_add, Nat.mod_mul]
  rw [show (2 : Nat) ^ 8 = 256 from rfl, Nat.mul_comm (v / _ % _)]
theorem encV_mod {D : Nat} {c : Nat → Nat} (hc : ∀ j, c j < 2 ^ D) : ∀ (n j : Nat), j < n → encV D c n / 2 ^ (D * j) % 2 ^ D = c j
 | 0, j, h => by omega
 | n + 1, j, h => by
  show (encV D c n + c n * 2 ^ (D * n)) / 2 ^ (D * j) % 2 ^ D = c j
  rcases Nat.lt_or_ge j n with hj | hj
  ·obtain ⟨t, ht⟩ : ∃ t, D * n = D * j + (D + t) := ⟨D * n - D * j - D, by
    have := Nat.mul_le_mul_left D (show j + 1 ≤ n by omega)
    rw [Nat.mul_succ] at this
    omega⟩
   rw [ht, Nat.pow_add, Nat.mul_left_comm, Nat.add_mul_div_left _ _ (Nat.pow_pos (by decide)), Nat.pow_add, Nat.mul_left_comm, Nat.add_mul_mod_self_left]
   exact encV_mod hc n j hj
  ·obtain rfl : j = n := by omega
   have hlt : ∀ m, encV D c m < 2 ^ (D * m) := by
    intro m
    induction m with
    | zero => simp [encV]
    | succ m ih =>
     show encV D c m + c m * 2 ^ (D * m) < 2 ^ (D * (m + 1))
     rw [Nat.mul_succ, Nat.pow_add, Nat.mul_comm (2 ^ (D * m))]
     have h3 : (c m + 1) * 2 ^ (D * m) ≤ 2 ^ D * 2 ^ (D * m) := Nat.mul_le_mul_right _ (hc m)
     rw [Nat.add_mul, Nat.one_mul] at h3
     omega
   rw [Nat.add_mul_div_right _ _ (Nat.pow_pos (by decide)), Nat.div_eq_of_lt (hlt j), Nat.zero_add, Nat.mod_eq_of_lt (hc j)]
theorem dec_enc {d : Int} {p : Nat → Int} (h1 : ¬ d < 1) (h2 : ¬ 12 < d) {j : Nat} (hj : j < 256) : decP d (encF d p) j = p j % mOf d := by
 have hlt := fun j => (cof_lt p j h1 h2)
 have e1 : decN d (encF d p) j = cof d p j := by
  unfold decN
  have hV : encV d.toNat (cof d p) 256 < 2 ^ (8 * (32 * d).toNat) := by
   have := encV_lt p h1 h2 256
   rwa [show 8 * (32 * d).toNat = d.toNat * 256 by omega]
  rw [← encF_R h1 h2, leN_leB, Nat.mod_eq_of_lt hV, encV_mod (fun j => (hlt j).1) 256 j hj]
 unfold decP
 rw [e1, (hlt j).2.1]
 split
 ·subst d
  show p j % mOf 12 % 3329 = p j % mOf 12
  unfold mOf
  rw [if_pos rfl]
  omega
 ·rfl
theorem pow_h {k : Int} (h1 : 1 ≤ k) (h2 : k ≤ 11) : (2 : Int) ^ k.toNat = 2 * 2 ^ (k.toNat - 1) ∧ (1 : Int) ≤ 2 ^ (k.toNat - 1) ∧ (2 : Int) ^ (k.toNat - 1) ≤ 1024 := by
 have hp := pow11 (d := k) (by omega) (by omega)
 have : (2 : Int) ^ k.toNat = 2 ^ (k.toNat - 1) * 2 := by
  rw [← Int.pow_succ]
  congr 1
  omega
 omega
theorem back {k n : Int} (h1 : 1 ≤ k) (h2 : k ≤ 11) (h3 : 0 ≤ n) : sqF k (stF k (n % iShl .i64 1 k.toNat)) = n % iShl .i64 1 k.toNat := by
 obtain ⟨a1, a2, a3, a4, a5, a6⟩ := sq_shl n (d := k) (by omega) (by omega)
 obtain ⟨p1, p2, p3⟩ := pow_h h1 h2
 rw [a4]
 unfold sqF stF
 rw [if_neg (by omega), if_neg (by omega)]
 clear a1 a2 a3 a4
 generalize (2 : Int) ^ (k.toNat - 1) = H at *
 generalize (2 : Int) ^ k.toNat = K at *
 rw [Int.emod_emod_of_dvd _ (Int.dvd_refl _)]
 have hm0 := Int.emod_nonneg n (show K ≠ 0 by omega)
 have hm1 := Int.emod_lt_of_pos n (show 0 < K by omega)
 generalize n % K = m at *
 have hy0 : 0 ≤ (m * 3329 + H) / K := Int.ediv_nonneg (by omega) (by omega)
 have hz1 := Int.ediv_mul_le (m * 3329 + H) (show K ≠ 0 by omega)
 have hz2 := Int.lt_ediv_add_one_mul_self (m * 3329 + H) (show 0 < K by omega)
 have hy1 : (m * 3329 + H) / K < 3329 := Int.ediv_lt_of_lt_mul (by omega) (by omega)
 generalize (m * 3329 + H) / K = y at *
 rw [Int.add_mul, Int.one_mul] at hz2
 rw [Int.emod_eq_of_lt hy0 hy1]
 have e : (y * K + 1664) / 3329 = m := by omega
 rw [e, Int.emod_eq_of_lt hm0 hm1]
def P1 (d : Int) (p : Nat → Int) : Nat → Int := fun j => if j < 256 then p j % mOf d else p j
def P0 : Nat → Int := fun j => if j = 0 then 5 else 0
theorem encV_one {D : Nat} {c : Nat → Nat} (h : ∀ j, 0 < j → c j = 0) : ∀ n, encV D c (n + 1) = c 0
 | 0 => by simp [encV]
 | n + 1 => by
  show encV D c (n + 1) + c (n + 1) * 2 ^ (D * (n + 1)) = _
  rw [encV_one h n, h (n + 1) (by omega), Nat.zero_mul, Nat.add_zero]
theorem head_enc : (encF 4 P0).length = 128 ∧ (encF 4 P0).getD 0 0 = 5 ∧ (decF 4 (encF 4 P0)).2 = 0 ∧ ∀ j, j < 256 → (decF 4 (encF 4 P0)).1 j = P0 j := by
 have hl := encF_len (d := 4) (p := P0) (by decide) (by decide)
 have hm : mOf 4 = 16 := by decide
 have hd : decF 4 (encF 4 P0) = (decP 4 (encF 4 P0), 0) := by
  unfold decF
  rw [if_neg (by decide), if_neg (by omega)]
 have hP : ∀ j, P0 j % 16 = P0 j := by intro j; unfold P0; split <;> rfl
 refine ⟨by omega, ?_, by rw [hd], fun j hj => ?_⟩
 ·rw [← encF_R (by decide) (by decide), leB_get (by decide), encV_one (n := 255) (fun j hj => ?_)]
  ·have : cof 4 P0 0 = 5 := by unfold cof; rw [hm]; rfl
   rw [this]; rfl
  ·unfold cof P0
   rw [if_neg (by omega)]; rfl
 ·rw [hd]
  show decP 4 (encF 4 P0) j = P0 j
  rw [dec_enc (by decide) (by decide) hj, hm, hP]
end Go.Vk

/- Small numbers (plain). -/
namespace Go.Vk
open Go Go.Vc
def mN (x : Nat) : Int := ([0, 1, 1, 2] : List Int).getD x 0
def fourF (b : List UInt8) (j : Nat) : UInt8 := u8Shr (b.getD (j / 2) 0) (j % 2 * 4)
def cnP (b : List UInt8) (j : Nat) : Int := mN (fourF b j &&& 3).toNat - mN (u8Shr (fourF b j) 2 &&& 3).toNat
def cenF (b : List UInt8) : (Nat → Int) × Int := if b.length ≠ 128 then (fun _ => 0, 1) else (fun j => cnP b j % 3329, 0)
theorem u8_3 : ∀ a : Fin 256, ((UInt8.ofNat a.val) &&& 3).toNat < 4 := by decide +kernel
theorem and3 (a : UInt8) : (a &&& 3).toNat < 4 := by
 have := u8_3 ⟨a.toNat, a.toNat_lt⟩
 simpa using this
theorem mN_b : ∀ x, 0 ≤ mN x ∧ mN x ≤ 2 := fun x => by
 match x with
 | 0 | 1 | 2 | 3 => decide
 | n + 4 => exact ⟨Int.le_refl _, by show (0 : Int) ≤ 2; decide⟩
theorem each_put {a b : Nat → Int} {s : Nat} (j : Nat) : PV.v (.int .i64 (if j = s then (b s % 3329) % 3329 else if j < s then b j % 3329 else a j)) = PV.v (.int .i64 (if j < s + 1 then b j % 3329 else a j)) := by
 congr 2
 by_cases h : j = s
 ·subst h; rw [if_pos rfl, if_pos (by omega)]; omega
 ·rw [if_neg h]
  by_cases h2 : j < s
  ·rw [if_pos h2, if_pos (by omega)]
  ·rw [if_neg h2, if_neg (by omega)]
theorem cn_put {b : List UInt8} {s : Nat} (j : Nat) : PV.v (.int .i64 (if j = s then cnP b s else if j < s then cnP b j else 0)) = PV.v (.int .i64 (if j < s + 1 then cnP b j else 0)) := by
 congr 2
 by_cases h : j = s
 ·subst h; rw [if_pos rfl, if_pos (by omega)]
 ·rw [if_neg h]
  by_cases h2 : j < s
  ·rw [if_pos h2, if_pos (by omega)]
  ·rw [if_neg h2, if_neg (by omega)]
theorem four_eq (b : List UInt8) (s : Nat) : u8Shr (b.getD (s / 2) 0) (((s : Int) % 2 * 4).toNat) = fourF b s := by
 unfold fourF
 rw [show ((s : Int) % 2 * 4).toNat = s % 2 * 4 by omega]
end Go.Vk

/- The law of small numbers (plain). -/
namespace Go.Vk
open Go Go.Vc
def sm (c : UInt8) : UInt8 := (c &&& 3) ||| u8Shl (c &&& 3) 2 ||| u8Shl (c &&& 3) 4 ||| u8Shl (c &&& 3) 6
def smL (c : UInt8) (s : Nat) : List UInt8 := List.replicate s (sm c) ++ List.replicate (128 - s) 0
end Go.Vk

/- Wire's laws, in plain Lean: sizes. -/
set_option linter.unusedVariables false
set_option linter.unusedSimpArgs false
namespace Go.Vw
open Go Go.Vc
def want1 (k : Int) : Int := if 64 ≤ k then k + 2 else k + 1
def want2 (k : Int) : Int := if 16384 ≤ k then k + 4 else want1 k
def szC (c : UInt8) : Int := iShl .i64 1 ((c % 4).toNat : Int).toNat
def mC (n : UInt32) (c : UInt8) : Int := if szC c < 4 then iAnd .i64 (n.toNat : Int) (iShl .i64 1 (8 * szC c).toNat - 1) else (n.toNat : Int)
def incF (s : Nat) (b : List UInt8) : List UInt8 := (b.take s).map (· + 1) ++ b.drop s
theorem incF_len (s : Nat) (b : List UInt8) : (incF s b).length = b.length := by simp [incF]; omega
theorem inc_step {s : Nat} {b : List UInt8} (h : s < b.length) : (incF s b).set s ((incF s b).getD s 0 + 1) = incF (s + 1) b := by
 refine List.ext_getElem? fun j => ?_
 have h1 : ∀ j, (incF s b)[j]? = if j < s then (b[j]?).map (· + 1) else b[j]? := fun j => by
  unfold incF
  split
  ·rw [List.getElem?_append_left (by simp; omega)]; simp [*]
  ·rw [List.getElem?_append_right (by simp; omega)]; simp; congr 1; omega
 have h2 : ∀ j, (incF (s + 1) b)[j]? = if j < s + 1 then (b[j]?).map (· + 1) else b[j]? := fun j => by
  unfold incF
  split
  ·rw [List.getElem?_append_left (by simp; omega)]; simp [*]
  ·rw [List.getElem?_append_right (by simp; omega)]; simp; congr 1; omega
 rw [h2, List.getElem?_set]
 by_cases hj : s = j
 ·subst hj
  rw [if_pos rfl, if_pos (by rw [incF_len]; exact h), if_pos (by omega), List.getD_eq_getElem?_getD, h1, if_neg (by omega), List.getElem?_eq_getElem h]
  rfl
 ·rw [if_neg hj, h1]
  by_cases h3 : j < s
  ·rw [if_pos h3, if_pos (by omega)]
  ·rw [if_neg h3, if_neg (by omega)]
end Go.Vw

/- layer 5: a uniform polynomial of bytes, in plain words. -/
namespace Go.Vh
open Go Go.Vc
def cX (b : List UInt8) (i : Nat) : Int := ((b.getD (3 * i) 0).toNat : Int) + 256 * (((b.getD (3 * i + 1) 0).toNat : Int) % 16)
def cY (b : List UInt8) (i : Nat) : Int := ((b.getD (3 * i + 1) 0).toNat : Int) / 16 + 16 * ((b.getD (3 * i + 2) 0).toNat : Int)
abbrev PS := (Nat → Int) × Nat
def stP (st : PS) (x : Int) : PS := if st.2 < 256 ∧ x < 3329 then (fun j => if j = st.2 then x else st.1 j, st.2 + 1) else st
def unX (b : List UInt8) (st : PS) (s : Nat) : PS := stP st (cX b s)
def unN (b : List UInt8) : Nat → PS
 | 0 => (fun _ => 0, 0)
 | s + 1 => stP (stP (unN b s) (cX b s)) (cY b s)
def uniS (s : List UInt8) : PS := unN (spg 168 31 s 1680) 560
def uniF (s : List UInt8) : (Nat → Int) × Int := if s.length ≠ 34 then (fun _ => 0, 1) else if (uniS s).2 < 256 then (fun _ => 0, 51) else ((uniS s).1, 0)
theorem stP_full {st : PS} {x : Int} (h : st.2 = 256) : stP st x = st := by unfold stP; rw [if_neg (by omega)]
theorem stP_le {st : PS} {x : Int} (h : st.2 ≤ 256) : (stP st x).2 ≤ 256 := by
 unfold stP
 split
 ·show st.2 + 1 ≤ 256; omega
 ·exact h
theorem un_le (b : List UInt8) (s : Nat) : (unN b s).2 ≤ 256 := by
 induction s with
 | zero => exact Nat.zero_le _
 | succ s ih => exact stP_le (stP_le ih)
theorem un_full {b : List UInt8} {s : Nat} (h : (unN b s).2 = 256) (k : Nat) : unN b (s + k) = unN b s := by
 induction k with
 | zero => rfl
 | succ k ih =>
  show stP (stP (unN b (s + k)) _) _ = _
  rw [ih, stP_full h, stP_full h]
theorem un_end {b : List UInt8} {s : Nat} (h : (unN b s).2 = 256) (hs : s ≤ 560) : unN b 560 = unN b s := by
 have := un_full h (560 - s)
 rwa [show s + (560 - s) = 560 by omega] at this
theorem un_mid {b : List UInt8} {s : Nat} (h : (stP (unN b s) (cX b s)).2 = 256) (hs : s < 560) : unN b 560 = stP (unN b s) (cX b s) := by
 have e : unN b (s + 1) = stP (unN b s) (cX b s) := stP_full h
 rw [← e]
 exact un_end (by rw [e]; exact h) hs
theorem stP_n {st : PS} {x : Int} (h : ¬ x < 3329) : stP st x = st := by unfold stP; rw [if_neg (by omega)]
theorem stP_y {st : PS} {x : Int} (h0 : st.2 < 256) (h : x < 3329) : stP st x = (fun j => if j = st.2 then x else st.1 j, st.2 + 1) := by unfold stP; rw [if_pos ⟨h0, h⟩]
theorem un_2 {b : List UInt8} {s : Nat} (h0 : (unN b s).2 < 256) :
  (cX b s < 3329 → (unN b s).2 + 1 < 256 → cY b s < 3329 → (unN b (s + 1)).2 = (unN b s).2 + 2) ∧ (cX b s < 3329 → ¬ cY b s < 3329 → (unN b (s + 1)).2 = (unN b s).2 + 1) ∧
  (¬ cX b s < 3329 → cY b s < 3329 → (unN b (s + 1)).2 = (unN b s).2 + 1) ∧ (¬ cX b s < 3329 → ¬ cY b s < 3329 → (unN b (s + 1)).2 = (unN b s).2) := by
 refine ⟨fun hx hn hy => ?_, fun hx hy => ?_, fun hx hy => ?_, fun hx hy => ?_⟩
 ·show (stP (stP (unN b s) _) _).2 = _
  rw [stP_y h0 hx, stP_y hn hy]
 ·show (stP (stP (unN b s) _) _).2 = _
  rw [stP_n hy, stP_y h0 hx]
 ·show (stP (stP (unN b s) _) _).2 = _
  rw [stP_n hx, stP_y h0 hy]
 ·show (stP (stP (unN b s) _) _).2 = _
  rw [stP_n hx, stP_n hy]
theorem un_r0 {b : List UInt8} (h : b.length ≠ 34) : uniF b = (fun _ => 0, 1) := if_pos h
theorem un_r1 {b : List UInt8} (h : b.length = 34) (hn : (unN (spg 168 31 b 1680) 560).2 < 256) : uniF b = (fun _ => 0, 51) := by unfold uniF uniS; rw [if_neg (by omega), if_pos hn]
theorem un_f0 {b : List UInt8} {s : Nat} (h : b.length = 34) (hs : s ≤ 560) (hn : (unN (spg 168 31 b 1680) s).2 = 256) : uniF b = ((unN (spg 168 31 b 1680) s).1, 0) := by
 have e := un_end hn hs
 unfold uniF uniS; rw [if_neg (by omega), e, if_neg (by omega)]
theorem un_f1 {b : List UInt8} {s : Nat} (h : b.length = 34) (hs : s < 560) (hx : cX (spg 168 31 b 1680) s < 3329) (hn : (unN (spg 168 31 b 1680) s).2 + 1 = 256) : uniF b = ((stP (unN (spg 168 31 b 1680) s) (cX (spg 168 31 b 1680) s)).1, 0) := by
 have e := un_mid (b := spg 168 31 b 1680) (s := s) (by rw [stP_y (by omega) hx]; exact hn) hs
 unfold uniF uniS; rw [if_neg (by omega), e, if_neg (by rw [stP_y (by omega) hx]; show ¬ _ + 1 < 256; omega)]
theorem drop3 (b : List UInt8) (s : Nat) (h : 3 * s + 2 < b.length) : (b.drop (3 * s)).getD 0 0 = b.getD (3 * s) 0 ∧ (b.drop (3 * s)).getD 1 0 = b.getD (3 * s + 1) 0 ∧ (b.drop (3 * s)).getD 2 0 = b.getD (3 * s + 2) 0 := by
 simp only [List.getD_eq_getElem?_getD, List.getElem?_drop, Nat.add_zero]; exact ⟨trivial, trivial, trivial⟩
theorem and15 (b : UInt8) : (((b &&& 15).toNat : Nat) : Int) = ((b.toNat : Nat) : Int) % 16 := by
 have h : (b &&& 15).toNat = b.toNat % 16 := by
  rw [UInt8.toNat_and]
  exact Nat.and_two_pow_sub_one_eq_mod b.toNat 4
 rw [h]; rfl
theorem or_x (a b : UInt8) : iOr .i64 ((a.toNat : Nat) : Int) ((((b &&& 15).toNat : Nat) : Int) * 256) = ((a.toNat : Nat) : Int) + 256 * (((b.toNat : Nat) : Int) % 16) := by
 have h1 := a.toNat_lt
 have h2 := and15 b
 have h3 := Go.Vw.iOr_add (a := ((a.toNat : Nat) : Int)) (b := (((b &&& 15).toNat : Nat) : Int)) (i := 8) (by omega) (by omega) (by omega) (by omega)
 rw [show ((2 : Int) ^ 8) = 256 by decide] at h3
 rw [h3, h2]; omega
theorem or_y (b c : UInt8) : iOr .i64 (((u8Shr b 4).toNat : Nat) : Int) (((c.toNat : Nat) : Int) * 16) = ((b.toNat : Nat) : Int) / 16 + 16 * ((c.toNat : Nat) : Int) := by
 have h1 := b.toNat_lt
 have h2 := c.toNat_lt
 have h4 : (u8Shr b 4).toNat = b.toNat / 16 := by
  unfold u8Shr
  rw [UInt8.toNat_ofNat']
  exact Nat.mod_eq_of_lt (by omega)
 have h3 := Go.Vw.iOr_add (a := (((u8Shr b 4).toNat : Nat) : Int)) (b := ((c.toNat : Nat) : Int)) (i := 4) (by omega) (by omega) (by omega) (by omega)
 rw [show ((2 : Int) ^ 4) = 16 by decide] at h3
 rw [h3, h4]; omega
end Go.Vh
namespace Go.Vh
open Go Go.Vc
theorem cn_tab : ∀ x : Fin 256, ∀ h : Fin 2, Go.Vk.mN (u8Shr (UInt8.ofNat x.val) (h.val * 4) &&& 3).toNat - Go.Vk.mN (u8Shr (u8Shr (UInt8.ofNat x.val) (h.val * 4)) 2 &&& 3).toNat
  = ((x.val / 2 ^ (4 * h.val) % 2 : Nat) : Int) + ((x.val / 2 ^ (4 * h.val + 1) % 2 : Nat) : Int) - ((x.val / 2 ^ (4 * h.val + 2) % 2 : Nat) : Int) - ((x.val / 2 ^ (4 * h.val + 3) % 2 : Nat) : Int) := by decide +kernel
theorem cn_bits (b : List UInt8) (j : Nat) : ((Go.Vk.bitF b (4 * j) : Nat) : Int) + ((Go.Vk.bitF b (4 * j + 1) : Nat) : Int) - ((Go.Vk.bitF b (4 * j + 2) : Nat) : Int) - ((Go.Vk.bitF b (4 * j + 3) : Nat) : Int) = Go.Vk.cnP b j := by
 have h := cn_tab ⟨(b.getD (j / 2) 0).toNat, (b.getD (j / 2) 0).toNat_lt⟩ ⟨j % 2, Nat.mod_lt _ (by decide)⟩
 simp only [UInt8.ofNat_toNat] at h
 unfold Go.Vk.cnP Go.Vk.fourF
 rw [h, Go.Vk.bit_byte, Go.Vk.bit_byte, Go.Vk.bit_byte, Go.Vk.bit_byte]
 rw [show 4 * j / 8 = j / 2 by omega, show (4 * j + 1) / 8 = j / 2 by omega, show (4 * j + 2) / 8 = j / 2 by omega, show (4 * j + 3) / 8 = j / 2 by omega,
  show 4 * j % 8 = 4 * (j % 2) by omega, show (4 * j + 1) % 8 = 4 * (j % 2) + 1 by omega, show (4 * j + 2) % 8 = 4 * (j % 2) + 2 by omega, show (4 * j + 3) % 8 = 4 * (j % 2) + 3 by omega]
end Go.Vh
namespace Go.Vh
theorem ce_0 {b : List UInt8} (h : b.length ≠ 128) : Go.Vk.cenF b = (fun _ => 0, 1) := if_pos h
theorem ce_1 {b : List UInt8} (h : b.length = 128) : Go.Vk.cenF b = (fun j => Go.Vk.cnP b j % 3329, 0) := if_neg (by omega)
end Go.Vh
namespace Go.Vh
def incW (s : Nat) (b : List UInt8) : List UInt8 := Go.Vw.incF s b
theorem incW_step {s : Nat} {b : List UInt8} (h : s < b.length) : (incW s b).set s ((incW s b).getD s 0 + 1) = incW (s + 1) b := Go.Vw.inc_step h
theorem incW_0 (b : List UInt8) : b = incW 0 b := by simp [incW, Go.Vw.incF]
end Go.Vh
