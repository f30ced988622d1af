/- What is proved: plain facts on lists of bytes and on numbers, for the laws of this seat; no condition. -/
import Derived.Test.YtkjomelpdpclcaaDoorFrame2
set_option linter.unusedVariables false
set_option linter.unusedSimpArgs false
/- The plain law of layer 11: numbers, lengths, texts, lists, as plain functions. -/
set_option linter.unusedVariables false
namespace Go.Vw
open Go Go.Vc
def fitsF (n : Int) : Bool := decide (n = 1 ∨ n = 2 ∨ n = 4 ∨ n = 8)
theorem fitsT {n : Int} (h : fitsF n = true) : n = 1 ∨ n = 2 ∨ n = 4 ∨ n = 8 := by simpa [fitsF] using h
theorem fitsN {n : Int} (h : fitsF n = false) : ¬ (n = 1 ∨ n = 2 ∨ n = 4 ∨ n = 8) := by simpa [fitsF] using h
theorem fits_t {n : Int} (h : n = 1 ∨ n = 2 ∨ n = 4 ∨ n = 8) : true = fitsF n := by simp [fitsF, h]
theorem fits_f {n : Int} (h : ¬ (n = 1 ∨ n = 2 ∨ n = 4 ∨ n = 8)) : false = fitsF n := by simp only [fitsF]; exact (decide_eq_false h).symm
def beN (l : List UInt8) : Nat := l.foldl (fun n c => n * 256 + c.toNat) 0
theorem ofInt_nat (n : Nat) : BitVec.ofInt 64 (n : Int) = BitVec.ofNat 64 n := by simp
def getF (b : List UInt8) (i n : Int) : Int × Int × Int :=
 if i < 0 ∨ (b.length : Int) < i ∨ ¬ (n = 1 ∨ n = 2 ∨ n = 4 ∨ n = 8) then (0, 0, 1)
 else if (b.length : Int) - i < n then (0, 0, 111)
 else if 9223372036854775808 ≤ beN ((b.take (i + n).toNat).drop i.toNat) then (0, 0, 112)
 else ((beN ((b.take (i + n).toNat).drop i.toNat) : Int), i + n, 0)
def numB (n : Int) (k : Nat) : List UInt8 := (List.range k).map fun j => UInt8.ofInt (n / 256 ^ (k - 1 - j))
def numF (n size : Int) : List UInt8 :=
 if ¬ (size = 1 ∨ size = 2 ∨ size = 4 ∨ size = 8) ∨ n < 0 ∨ (size < 8 ∧ (256 : Int) ^ size.toNat ≤ n) then [] else numB n size.toNat
theorem numB_len (n : Int) (k : Nat) : (numB n k).length = k := by simp [numB]
theorem numF_len (n k : Int) : (numF n k).length ≤ 8 := by
 unfold numF; split
 ·simp
 ·rw [numB_len]; omega
theorem numB_get {n : Int} {k j : Nat} (h : j < k) : (numB n k)[j]? = some (UInt8.ofInt (n / 256 ^ (k - 1 - j))) := by simp [numB, h]
theorem shr_byte (n : Int) (j : Nat) (h : j ≤ 8) : iShr .i64 n (8 * j) = n / 256 ^ j := by
 simp only [iShr, IntKind.bits]
 rw [Nat.min_eq_left (by omega)]
 congr 1
 rw [Int.pow_mul]; rfl
theorem shl_one {k : Int} (hk : k = 1 ∨ k = 2 ∨ k = 4) : iShl .i64 1 (8 * k).toNat = (256 : Int) ^ k.toNat := by
 rcases hk with rfl | rfl | rfl <;> decide
theorem numB_step {n : Int} {k s : Nat} (h : s < k) (h8 : k ≤ 8) : (List.replicate (k - s) 0 ++ (numB n k).drop (k - s)).set (k - 1 - s) (UInt8.ofInt (iShr .i64 n (8 * s))) = List.replicate (k - (s + 1)) 0 ++ (numB n k).drop (k - (s + 1)) := by
 rw [shr_byte n s (by omega)]
 apply List.ext_getElem?
 intro j
 have hl := numB_len n k
 rcases Nat.lt_trichotomy j (k - 1 - s) with h1 | h1 | h1
 ·rw [List.getElem?_set_ne (by omega), List.getElem?_append_left (by simp; omega), List.getElem?_append_left (by simp; omega)]
  simp [show j < k - s by omega, show j < k - (s + 1) by omega]
 ·subst h1
  rw [List.getElem?_set_self (by simp [hl]; omega), List.getElem?_append_right (by simp; omega), List.getElem?_drop, numB_get (by simp; omega)]
  congr 4
  simp; omega
 ·rw [List.getElem?_set_ne (by omega), List.getElem?_append_right (by simp; omega), List.getElem?_append_right (by simp; omega), List.getElem?_drop, List.getElem?_drop]
  congr 1
  simp; omega
theorem numF_bad {n k : Int} (h : ¬ (k = 1 ∨ k = 2 ∨ k = 4 ∨ k = 8) ∨ n < 0) : numF n k = [] := by
 unfold numF; rw [if_pos]; omega
theorem numF_big {n k : Int} (h : k = 1 ∨ k = 2 ∨ k = 4) (h2 : iShl .i64 1 (8 * k).toNat ≤ n) : numF n k = [] := by
 rw [shl_one h] at h2
 unfold numF; rw [if_pos]; exact .inr (.inr ⟨by omega, h2⟩)
theorem numF_ok {n k : Int} (h : k = 1 ∨ k = 2 ∨ k = 4 ∨ k = 8) (h1 : 0 ≤ n) (h2 : ¬ (k < 8 ∧ iShl .i64 1 (8 * k).toNat ≤ n)) : numF n k = numB n k.toNat := by
 unfold numF; rw [if_neg]
 rintro (h3 | h3 | ⟨h3, h4⟩)
 ·exact h3 h
 ·omega
 ·refine h2 ⟨h3, ?_⟩
  rw [shl_one (by omega)]; exact h4
theorem num_step {n k : Int} {s : Nat} (h : s < k.toNat) (h8 : k ≤ 8) : (List.replicate (k.toNat - s) 0 ++ (numB n k.toNat).drop (k.toNat - s)).set (k - 1 - (s : Int)).toNat (UInt8.ofInt (iShr .i64 n (8 * (s : Int)).toNat)) = List.replicate (k.toNat - (s + 1)) 0 ++ (numB n k.toNat).drop (k.toNat - (s + 1)) := by
 rw [show (k - 1 - (s : Int)).toNat = k.toNat - 1 - s from by omega, show (8 * (s : Int)).toNat = 8 * s from by omega]
 exact numB_step h (by omega)
theorem num_fin {n k : Int} {s : Nat} (h : s = k.toNat) : List.replicate (k.toNat - s) (0 : UInt8) ++ (numB n k.toNat).drop (k.toNat - s) = numB n k.toNat := by
 subst h; simp
end Go.Vw

/- The plain law of layer 11, continued: lengths, texts, lists. -/
set_option linter.unusedVariables false
namespace Go.Vw
open Go Go.Vc
def tblI (k : Int) : Int := ([6, 14, 30] : List Int).getD k.toNat 0
theorem tbl_nn (k : Int) : 0 ≤ ([6, 14, 30] : List Int).getD k.toNat 0 := by
 match k.toNat with
 | 0 => decide
 | 1 => decide
 | 2 => decide
 | n + 3 => simp
def lenF (n : Int) : List UInt8 :=
 if n < 64 then [UInt8.ofInt n] else if n < 16384 then [UInt8.ofInt (n / 256 + 64), UInt8.ofInt n]
 else [UInt8.ofInt (n / 16777216 + 128), UInt8.ofInt (n / 65536), UInt8.ofInt (n / 256), UInt8.ofInt n]
theorem lenF_len (n : Int) : (lenF n).length = if n < 64 then 1 else if n < 16384 then 2 else 4 := by
 unfold lenF; split
 ·rfl
 ·split <;> rfl
theorem lenF_le (n : Int) : (lenF n).length ≤ 4 := by rw [lenF_len]; split <;> (try split) <;> omega
theorem u8_congr {a b : Int} (h : a % 256 = b % 256) : UInt8.ofInt a = UInt8.ofInt b := by
 apply UInt8.toNat_inj.1
 have e : ∀ n : Int, ((UInt8.ofInt n).toNat : Int) = n % 256 := by
  intro n
  simp only [UInt8.ofInt, UInt8.toNat_ofNat']
  omega
 have h1 := e a
 have h2 := e b
 omega
theorem u8_toNat (n : Int) : ((UInt8.ofInt n).toNat : Int) = n % 256 := by
 simp only [UInt8.ofInt, UInt8.toNat_ofNat']
 omega
theorem u8_add (a : Int) (c : Nat) : UInt8.ofInt a + UInt8.ofNat c = UInt8.ofInt (a + c) := by
 apply UInt8.toNat_inj.1
 rw [UInt8.toNat_add]
 have h1 := u8_toNat a
 have h2 := u8_toNat (a + c)
 simp only [UInt8.toNat_ofNat']
 omega
theorem iOr_add {a b : Int} {i : Nat} (h0 : 0 ≤ a) (h1 : a < 2 ^ i) (hb : 0 ≤ b) (h2 : a + b * 2 ^ i ≤ 9223372036854775807) : iOr .i64 a (b * 2 ^ i) = a + b * 2 ^ i := by
 obtain ⟨m, rfl⟩ := Int.eq_ofNat_of_zero_le h0
 obtain ⟨q, rfl⟩ := Int.eq_ofNat_of_zero_le hb
 have e0 : (q : Int) * 2 ^ i = ((q * 2 ^ i : Nat) : Int) := by push_cast; rfl
 rw [e0] at h2 ⊢
 have hm : m < 2 ^ i := by
  have : ((2 : Int) ^ i) = ((2 ^ i : Nat) : Int) := by push_cast; rfl
  rw [this] at h1; omega
 have e1 : (BitVec.ofInt 64 (m : Int) ||| BitVec.ofInt 64 ((q * 2 ^ i : Nat) : Int)).toNat = m + q * 2 ^ i := by
  rw [ofInt_nat, ofInt_nat, BitVec.toNat_or]
  simp only [BitVec.toNat_ofNat, Nat.reducePow]
  rw [Nat.mod_eq_of_lt (by omega), Nat.mod_eq_of_lt (by omega), Nat.or_comm, ← Nat.shiftLeft_eq, ← Nat.shiftLeft_add_eq_or_of_lt hm]
  omega
 show IntKind.i64.wrap ((BitVec.ofInt 64 (m : Int) ||| BitVec.ofInt 64 ((q * 2 ^ i : Nat) : Int)).toNat : Int) = _
 rw [e1, wrap_i64 (by omega) (by omega)]
 push_cast; rfl
theorem numB1 (n : Int) : numB n 1 = [UInt8.ofInt n] := by simp [numB, List.range_succ]
theorem numB2 (n : Int) : numB n 2 = [UInt8.ofInt (n / 256), UInt8.ofInt n] := by simp [numB, List.range_succ]
theorem numB4 (n : Int) : numB n 4 = [UInt8.ofInt (n / 16777216), UInt8.ofInt (n / 65536), UInt8.ofInt (n / 256), UInt8.ofInt n] := by simp [numB, List.range_succ]
theorem lenP {n s : Int} (h0 : 0 ≤ n) (hn : n < 1073741824) (hs : 0 ≤ s) (hs2 : s ≤ 2) (h1 : 0 < s → 64 ≤ n) (h2 : 1 < s → 16384 ≤ n) (h3 : n < iShl .i64 1 (([6, 14, 30] : List Int).getD s.toNat 0).toNat) :
  numF (iOr .i64 n (iShl .i64 s (([6, 14, 30] : List Int).getD s.toNat 0).toNat)) (iShl .i64 1 s.toNat) = lenF n := by
 obtain rfl | rfl | rfl : s = 0 ∨ s = 1 ∨ s = 2 := by omega
 ·have e : iShl .i64 1 (([6, 14, 30] : List Int).getD (0 : Int).toNat 0).toNat = 64 := by decide
  rw [e] at h3
  have e2 : iShl .i64 0 (([6, 14, 30] : List Int).getD (0 : Int).toNat 0).toNat = 0 * 2 ^ 6 := by decide
  have e3 : iShl .i64 1 (0 : Int).toNat = 1 := by decide
  have e4 : iShl .i64 1 (8 * (1 : Int)).toNat = 256 := by decide
  rw [e2, e3, iOr_add h0 (by omega) (by omega) (by omega), numF_ok (by omega) (by omega) (by rw [e4]; omega)]
  unfold lenF
  rw [if_pos h3, show (1 : Int).toNat = 1 from rfl, numB1]
  simp
 ·have e : iShl .i64 1 (([6, 14, 30] : List Int).getD (1 : Int).toNat 0).toNat = 16384 := by decide
  rw [e] at h3
  have e2 : iShl .i64 1 (([6, 14, 30] : List Int).getD (1 : Int).toNat 0).toNat = 1 * 2 ^ 14 := by decide
  have e3 : iShl .i64 1 (1 : Int).toNat = 2 := by decide
  have e4 : iShl .i64 1 (8 * (2 : Int)).toNat = 65536 := by decide
  have h4 := h1 (by omega)
  rw [e2, e3, iOr_add h0 (by omega) (by omega) (by omega), numF_ok (by omega) (by omega) (by rw [e4]; omega)]
  unfold lenF
  rw [if_neg (by omega), if_pos h3, show (2 : Int).toNat = 2 from rfl, numB2]
  rw [u8_congr (a := (n + 1 * 2 ^ 14) / 256) (b := n / 256 + 64) (by omega), u8_congr (a := n + 1 * 2 ^ 14) (b := n) (by omega)]
 ·have e2 : iShl .i64 2 (([6, 14, 30] : List Int).getD (2 : Int).toNat 0).toNat = 2 * 2 ^ 30 := by decide
  have e3 : iShl .i64 1 (2 : Int).toNat = 4 := by decide
  have e4 : iShl .i64 1 (8 * (4 : Int)).toNat = 4294967296 := by decide
  have h4 := h2 (by omega)
  rw [e2, e3, iOr_add h0 (by omega) (by omega) (by omega), numF_ok (by omega) (by omega) (by rw [e4]; omega)]
  unfold lenF
  rw [if_neg (by omega), if_neg (by omega), show (4 : Int).toNat = 4 from rfl, numB4]
  rw [u8_congr (a := (n + 2 * 2 ^ 30) / 16777216) (b := n / 16777216 + 128) (by omega), u8_congr (a := (n + 2 * 2 ^ 30) / 65536) (b := n / 65536) (by omega), u8_congr (a := (n + 2 * 2 ^ 30) / 256) (b := n / 256) (by omega),
   u8_congr (a := n + 2 * 2 ^ 30) (b := n) (by omega)]
theorem shl_v (s : Int) : (s = 0 → iShl .i64 1 (([6, 14, 30] : List Int).getD s.toNat 0).toNat = 64) ∧ (s = 1 → iShl .i64 1 (([6, 14, 30] : List Int).getD s.toNat 0).toNat = 16384) ∧ (s = 2 → iShl .i64 1 (([6, 14, 30] : List Int).getD s.toNat 0).toNat = 1073741824) := by
 refine ⟨?_, ?_, ?_⟩ <;> rintro rfl <;> decide
def spanN (b : List UInt8) (k n from' e : Int) : Int × Int × Int :=
 if e ≠ 0 then (0, 0, e) else if 0 < k ∧ n < iShl .i64 1 (([6, 14, 30] : List Int).getD (k - 1).toNat 0).toNat then (0, 0, 112) else if 1048576 < n then (0, 0, 2)
 else if (b.length : Int) - from' < n then (0, 0, 111) else (from', from' + n, 0)
def spanK (b : List UInt8) (i k : Int) : Int × Int × Int :=
 if k = 3 then (0, 0, 112) else
 spanN b k (iAnd .i64 (getF b i (iShl .i64 1 k.toNat)).1 (iShl .i64 1 (([6, 14, 30] : List Int).getD k.toNat 0).toNat - 1)) (getF b i (iShl .i64 1 k.toNat)).2.1 (getF b i (iShl .i64 1 k.toNat)).2.2
def spanF (b : List UInt8) (i : Int) : Int × Int × Int :=
 if i < 0 ∨ (b.length : Int) < i then (0, 0, 1) else if i = b.length then (0, 0, 111) else spanK b i ((u8Shr (b.getD i.toNat 0) 6).toNat : Int)
def textF (s : List UInt8) : List UInt8 := if 1048576 < s.length then [] else lenF s.length ++ s
def textE (s : List UInt8) : Int := if 1048576 < s.length then 2 else 0
def getTextF (b : List UInt8) (i : Int) : List UInt8 × Int × Int :=
 if (spanF b i).2.2 ≠ 0 then ([], 0, (spanF b i).2.2) else ((b.take (spanF b i).2.1.toNat).drop (spanF b i).1.toNat, (spanF b i).2.1, 0)
theorem textF_len (s : List UInt8) : (textF s).length ≤ 1048580 := by
 unfold textF; split
 ·simp
 ·have := lenF_le s.length
  simp; omega
end Go.Vw

/- The plain law of layer 11, continued: lists; what the reference computes. -/
set_option linter.unusedVariables false
namespace Go.Vw
open Go Go.Vc
def catT (l : List (List UInt8)) : List UInt8 := l.flatMap textF
def okT (l : List (List UInt8)) : Prop := (∀ s, s ∈ l → s.length ≤ 1048576) ∧ (catT l).length ≤ 1048576
instance (l : List (List UInt8)) : Decidable (okT l) := inferInstanceAs (Decidable (_ ∧ _))
def listF (l : List (List UInt8)) : List UInt8 := if okT l then textF (catT l) else []
def listE (l : List (List UInt8)) : Int := if okT l then textE (catT l) else 2
theorem take_full (l m : List UInt8) (n k : Nat) (hn : l.length ≤ n) (hk : m.length ≤ k) : (l.drop 0).take n ++ (m.drop 0).take k = l ++ m := by
 simp [List.take_of_length_le hn, List.take_of_length_le hk]
def parseF (b : List UInt8) : Nat → Int → List (List UInt8) → List (List UInt8) × Int
 | 0, _, out => (out, 0)
 | f + 1, i, out => if i < b.length then (if (getTextF b i).2.2 ≠ 0 then ([], (getTextF b i).2.2) else parseF b f (getTextF b i).2.1 (out ++ [(getTextF b i).1])) else (out, 0)
def parse (b : List UInt8) (i : Int) (out : List (List UInt8)) : List (List UInt8) × Int := parseF b (b.length + 1 - i.toNat) i out
abbrev allOf (b : List UInt8) (i : Int) : List UInt8 := (b.take (spanF b i).2.1.toNat).drop (spanF b i).1.toNat
def getListF (b : List UInt8) (i : Int) : List (List UInt8) × Int × Int :=
 if (spanF b i).2.2 ≠ 0 then ([], 0, (spanF b i).2.2)
 else if (parse (allOf b i) 0 []).2 ≠ 0 then ([], 0, (parse (allOf b i) 0 []).2) else ((parse (allOf b i) 0 []).1, (spanF b i).2.1, 0)
def PL (b : List UInt8) (s : List (List UInt8) × Int) : Prop := 0 ≤ s.2 ∧ s.2 ≤ b.length ∧ s.1.length ≤ s.2 ∧ parse b s.2 s.1 = parse b 0 []
end Go.Vw

/- The plain law of layer 11, continued: the reference's lengths. -/
set_option linter.unusedVariables false
namespace Go.Vw
open Go Go.Vc
def hdF (b : List UInt8) (i : Int) : Int × Int × Int := ((spanF b i).2.1 - (spanF b i).1, (spanF b i).1, (spanF b i).2.2)
def szOf (c : UInt8) : Int := if 128 ≤ c.toNat then 4 else if 64 ≤ c.toNat then 2 else 1
def lenN (b : List UInt8) (i : Int) (s : Nat) : Nat := (b.getD i.toNat 0).toNat % 64 * 256 ^ (s - 1) + beN ((b.drop (i.toNat + 1)).take (s - 1))
theorem u8_add64 (a : Int) : UInt8.ofInt a + 64 = UInt8.ofInt (a + 64) := u8_add a 64
theorem u8_add128 (a : Int) : UInt8.ofInt a + 128 = UInt8.ofInt (a + 128) := u8_add a 128
end Go.Vw

/- Hkdf, in plain Lean: SHA-256's words and rounds. -/
set_option linter.unusedVariables false
namespace Go.Vh
open Go Go.Vc
abbrev nl : List UInt8 := []
def K256 : List UInt32 := [1116352408, 1899447441, 3049323471, 3921009573, 961987163, 1508970993, 2453635748, 2870763221, 3624381080, 310598401, 607225278, 1426881987, 1925078388, 2162078206, 2614888103, 3248222580, 3835390401, 4022224774, 264347078, 604807628, 770255983, 1249150122, 1555081692, 1996064986, 2554220882, 2821834349, 2952996808, 3210313671, 3336571891, 3584528711, 113926993, 338241895, 666307205, 773529912, 1294757372, 1396182291, 1695183700, 1986661051, 2177026350, 2456956037, 2730485921, 2820302411, 3259730800, 3345764771, 3516065817, 3600352804, 4094571909, 275423344, 430227734, 506948616, 659060556, 883997877, 958139571, 1322822218, 1537002063, 1747873779, 1955562222, 2024104815, 2227730452, 2361852424, 2428436474, 2756734187, 3204031479, 3329325298]
def H256 : List UInt32 := [1779033703, 3144134277, 1013904242, 2773480762, 1359893119, 2600822924, 528734635, 1541459225]
def h0 (j : Nat) : UInt32 := H256.getD j 0
def rotr (x : UInt32) (n : Int) : UInt32 := u32Shr x n.toNat ||| u32Shl x (32 - n).toNat
theorem u64_neg : ∀ k : Fin 32, (UInt64.ofInt (-((k.val : Nat) : Int)) &&& 31).toNat = (32 - k.val) % 32 := by decide +kernel
theorem rot_left {x : UInt32} {n : Int} (h : 1 ≤ n ∧ n ≤ 31) : u32Shl x (((UInt64.ofInt (-n) &&& 31).toNat : Int)).toNat ||| u32Shr x (((32 - (UInt64.ofInt (-n) &&& 31) : UInt64).toNat : Int)).toNat = rotr x n := by
 obtain ⟨k, rfl⟩ : ∃ k : Nat, n = k := ⟨n.toNat, by omega⟩
 have h1 := u64_neg ⟨k, by omega⟩
 simp only at h1
 have h2 : (32 - (UInt64.ofInt (-(k : Int)) &&& 31) : UInt64).toNat = k := by
  rw [UInt64.toNat_sub, h1]
  have : (32 : UInt64).toNat = 32 := rfl
  rw [this]; omega
 rw [h1, h2]
 unfold rotr
 rw [UInt32.or_comm]
 congr 2
 omega
def be (b : List UInt8) (i : Nat) : UInt32 := u32Shl (b.getD (4 * i) 0).toUInt32 24 ||| u32Shl (b.getD (4 * i + 1) 0).toUInt32 16 ||| u32Shl (b.getD (4 * i + 2) 0).toUInt32 8 ||| (b.getD (4 * i + 3) 0).toUInt32
def sg0 (x : UInt32) : UInt32 := rotr x 7 ^^^ rotr x 18 ^^^ u32Shr x 3
def sg1 (x : UInt32) : UInt32 := rotr x 17 ^^^ rotr x 19 ^^^ u32Shr x 10
def wdN (b : List UInt8) : Nat → Nat → UInt32
 | 0, j => if j < 16 then be b j else 0
 | k + 1, j => if j = 16 + k then wdN b k k + wdN b k (k + 9) + sg0 (wdN b k (k + 1)) + sg1 (wdN b k (k + 14)) else wdN b k j
def wd (b : List UInt8) : Nat → UInt32 := wdN b 48
def stT (g : Nat → UInt32) (k w : UInt32) : UInt32 := g 7 + (rotr (g 4) 6 ^^^ rotr (g 4) 11 ^^^ rotr (g 4) 25) + (g 6 ^^^ (g 4 &&& (g 5 ^^^ g 6))) + k + w
def stU (g : Nat → UInt32) : UInt32 := (rotr (g 0) 2 ^^^ rotr (g 0) 13 ^^^ rotr (g 0) 22) + ((g 0 &&& g 1) ||| (g 2 &&& (g 0 ||| g 1)))
def step (g : Nat → UInt32) (k w : UInt32) (j : Nat) : UInt32 :=
 match j with
 | 0 => stT g k w + stU g
 | 1 => g 0
 | 2 => g 1
 | 3 => g 2
 | 4 => g 3 + stT g k w
 | 5 => g 4
 | 6 => g 5
 | _ => g 6
def rounds (g w : Nat → UInt32) : Nat → Nat → UInt32
 | 0 => g
 | k + 1 => step (rounds g w k) (K256.getD k 0) (w k)
def comp (g : Nat → UInt32) (b : List UInt8) (j : Nat) : UInt32 := g j + rounds g (wd b) 64 j
theorem u32_ext {a b : UInt32} (h : ∀ i (hi : i < 32), a.toBitVec[i] = b.toBitVec[i]) : a = b := by
 apply UInt32.eq_of_toBitVec_eq
 ext i hi
 exact h i hi
theorem ch_ref (e f g : UInt32) : (e &&& f) ^^^ (~~~e &&& g) = g ^^^ (e &&& (f ^^^ g)) := by
 refine u32_ext fun i hi => ?_
 simp
 cases e.toBitVec[i] <;> cases f.toBitVec[i] <;> cases g.toBitVec[i] <;> rfl
theorem maj_ref (a b c : UInt32) : (a &&& b) ^^^ (a &&& c) ^^^ (b &&& c) = (a &&& b) ||| (c &&& (a ||| b)) := by
 refine u32_ext fun i hi => ?_
 simp
 cases a.toBitVec[i] <;> cases b.toBitVec[i] <;> cases c.toBitVec[i] <;> rfl
def refT (g : Nat → UInt32) (k w : UInt32) : UInt32 := g 7 + (rotr (g 4) 6 ^^^ rotr (g 4) 11 ^^^ rotr (g 4) 25) + ((g 4 &&& g 5) ^^^ (~~~(g 4) &&& g 6)) + k + w
def refU (g : Nat → UInt32) : UInt32 := (rotr (g 0) 2 ^^^ rotr (g 0) 13 ^^^ rotr (g 0) 22) + ((g 0 &&& g 1) ^^^ (g 0 &&& g 2) ^^^ (g 1 &&& g 2))
theorem refT_eq (g : Nat → UInt32) (k w : UInt32) : refT g k w = stT g k w := by unfold refT stT; rw [ch_ref]
theorem refU_eq (g : Nat → UInt32) : refU g = stU g := by unfold refU stU; rw [maj_ref]
theorem ref0 (g : Nat → UInt32) (k w : UInt32) : refT g k w + refU g = step g k w 0 := by rw [refT_eq, refU_eq]; rfl
theorem ref4 (g : Nat → UInt32) (k w : UInt32) : g 3 + refT g k w = step g k w 4 := by rw [refT_eq]; rfl
theorem wd_ref (b : List UInt8) (k : Nat) : wdN b k k + sg0 (wdN b k (k + 1)) + wdN b k (k + 9) + sg1 (wdN b k (k + 14)) = wdN b (k + 1) (16 + k) := by
 rw [wdN, if_pos rfl]
 congr 1
 rw [UInt32.add_assoc, UInt32.add_comm (sg0 _), ← UInt32.add_assoc]
theorem be_congr {b b' : List UInt8} (h : ∀ i, i < 64 → b.getD i 0 = b'.getD i 0) {i : Nat} (hi : i < 16) : be b i = be b' i := by
 unfold be
 rw [h (4 * i) (by omega), h (4 * i + 1) (by omega), h (4 * i + 2) (by omega), h (4 * i + 3) (by omega)]
theorem wdN_congr {b b' : List UInt8} (h : ∀ i, i < 64 → b.getD i 0 = b'.getD i 0) : ∀ k, wdN b k = wdN b' k
 | 0 => by
  funext j
  simp only [wdN]
  by_cases hj : j < 16
  ·rw [if_pos hj, if_pos hj, be_congr h hj]
  ·rw [if_neg hj, if_neg hj]
 | k + 1 => by
  have ih := wdN_congr h k
  funext j
  simp only [wdN, ih]
theorem comp_congr {b b' : List UInt8} (h : ∀ i, i < 64 → b.getD i 0 = b'.getD i 0) (g : Nat → UInt32) : comp g b = comp g b' := by
 funext j
 unfold comp
 rw [show wd b = wd b' from wdN_congr h 48]
theorem comp_take (g : Nat → UInt32) (b : List UInt8) {n : Nat} (hn : 64 ≤ n) : comp g (b.take n) = comp g b :=
 comp_congr (fun i hi => by simp only [List.getD_eq_getElem?_getD, List.getElem?_take]; rw [if_pos (by omega)]) g
def stN (l : List UInt8) : Nat → Nat → UInt32
 | 0 => h0
 | k + 1 => comp (stN l k) (l.drop (64 * k))
theorem stN_app (l p : List UInt8) : ∀ k, 64 * k ≤ l.length → stN (l ++ p) k = stN l k
 | 0, _ => rfl
 | k + 1, h => by
  simp only [stN]
  rw [stN_app l p k (by omega)]
  refine comp_congr (fun i hi => ?_) _
  simp only [List.getD_eq_getElem?_getD, List.getElem?_drop]
  rw [List.getElem?_append_left (by omega)]
def hst (l : List UInt8) : Nat → UInt32 := stN l (l.length / 64)
def rst (l : List UInt8) : List UInt8 := l.drop (64 * (l.length / 64))
def jn (l p : List UInt8) : List UInt8 := (rst l ++ p).take (64 * ((rst l ++ p).length / 64))
theorem rst_len (l : List UInt8) : (rst l).length = l.length % 64 := by unfold rst; rw [List.length_drop]; omega
theorem rst_app (l p : List UInt8) : rst (l ++ p) = (rst l ++ p).drop (64 * ((rst l ++ p).length / 64)) := by
 have hl := rst_len l
 have e : rst l ++ p = (l ++ p).drop (64 * (l.length / 64)) := by
  unfold rst
  rw [List.drop_append_of_le_length (by omega)]
 rw [e, List.drop_drop, List.length_drop]
 unfold rst
 congr 1
 rw [List.length_append]
 omega
theorem jn_rst (l p : List UInt8) : jn l p ++ rst (l ++ p) = rst l ++ p := by rw [rst_app]; exact List.take_append_drop _ _
theorem jn_len (l p : List UInt8) : (jn l p).length = 64 * ((rst l ++ p).length / 64) := by unfold jn; rw [List.length_take]; omega
theorem wr_0 (l p : List UInt8) (i : Nat) : hst l i = stN (l ++ p) (l.length / 64 + 0) i := by
 rw [Nat.add_zero, stN_app l p _ (by omega)]; rfl
theorem wr_1 {l p : List UInt8} {s n : Nat} (h : 64 ≤ n) (i : Nat) : comp (stN (l ++ p) (l.length / 64 + s)) (((rst l ++ p).drop (64 * s)).take n) i = stN (l ++ p) (l.length / 64 + (s + 1)) i := by
 rw [comp_take _ _ h, show l.length / 64 + (s + 1) = (l.length / 64 + s) + 1 by omega]
 simp only [stN]
 congr 1
 unfold rst
 rw [← List.drop_append_of_le_length (by omega), List.drop_drop]
 congr 1
 omega
theorem wr_2 {l p : List UInt8} {s : Nat} (h1 : 64 * s ≤ (rst l ++ p).length) (h2 : (rst l ++ p).length < 64 * s + 64) (i : Nat) : stN (l ++ p) (l.length / 64 + s) i = hst (l ++ p) i := by
 have hl := rst_len l
 unfold hst
 rw [List.length_append] at h1 h2 ⊢
 rw [show (l.length + p.length) / 64 = l.length / 64 + s by omega]
theorem u64_ofInt (n : Nat) : UInt64.ofInt (n : Int) = UInt64.ofNat n := by
 apply UInt64.toNat_inj.1
 simp only [UInt64.ofInt, UInt64.toNat_ofNat']
 omega
theorem u64_app (l p : List UInt8) : UInt64.ofNat l.length + UInt64.ofInt (p.length : Int) = UInt64.ofNat (l ++ p).length := by
 rw [List.length_append, UInt64.ofNat_add, u64_ofInt]
theorem ap_full {l0 l : List UInt8} {n : Nat} (h : l0.length ≤ n) : (l0.drop 0).take n ++ l = l0 ++ l := by rw [List.drop_zero, List.take_of_length_le h]
def zlen (n : Nat) : Nat := (119 - n % 64) % 64
def len8 (m : UInt64) : Nat → List UInt8
 | 0 => []
 | k + 1 => len8 m k ++ [(u64Shr (u64Shl m 3) (56 - 8 * k)).toUInt8]
theorem len8_len (m : UInt64) : ∀ k, (len8 m k).length = k
 | 0 => rfl
 | k + 1 => by simp [len8, len8_len m k]
def pad (l : List UInt8) : List UInt8 := [128] ++ List.replicate (zlen l.length) 0 ++ len8 (UInt64.ofNat l.length) 8
def ptx (l : List UInt8) : List UInt8 := l ++ pad l
def w4 (x : UInt32) : List UInt8 := [(u32Shr x 24).toUInt8, (u32Shr x 16).toUInt8, (u32Shr x 8).toUInt8, x.toUInt8]
def outN (g : Nat → UInt32) : Nat → List UInt8
 | 0 => []
 | k + 1 => outN g k ++ w4 (g k)
theorem outN_len (g : Nat → UInt32) : ∀ k, (outN g k).length = 4 * k
 | 0 => rfl
 | k + 1 => by simp only [outN, List.length_append, outN_len g k, w4, List.length_cons, List.length_nil]; omega
def sha (l : List UInt8) : List UInt8 := outN (stN (ptx l) ((ptx l).length / 64)) 8
theorem sha_len (l : List UInt8) : (sha l).length = 32 := outN_len _ 8
theorem pad_len (l : List UInt8) : (pad l).length = 9 + zlen l.length := by
 unfold pad
 simp only [List.length_append, List.length_cons, List.length_nil, List.length_replicate, len8_len]
 omega
theorem ptx_64 (l : List UInt8) : (ptx l).length % 64 = 0 := by
 unfold ptx
 rw [List.length_append, pad_len]
 unfold zlen
 omega
theorem su_1 {l : List UInt8} {s n : Nat} (h : 64 ≤ n) (i : Nat) : comp (stN (ptx l) (l.length / 64 + s)) (((rst l ++ pad l).drop (64 * s)).take n) i = stN (ptx l) (l.length / 64 + (s + 1)) i := wr_1 h i
theorem su_0 (l : List UInt8) (i : Nat) : hst l i = stN (ptx l) (l.length / 64 + 0) i := wr_0 l (pad l) i
theorem su_2 {l : List UInt8} {s : Nat} (h : 64 * s = (rst l ++ pad l).length) : l.length / 64 + s = (ptx l).length / 64 := by
 have hl := rst_len l
 unfold ptx
 rw [List.length_append] at h ⊢
 omega
theorem mul_shl (m : UInt64) : m * 8 = u64Shl m 3 := by
 apply UInt64.toNat_inj.1
 simp only [u64Shl, UInt64.toNat_mul, UInt64.toNat_ofNat']
 rfl
theorem rs_1 {l : List UInt8} {s n : Nat} (h : 64 ≤ n) (i : Nat) : comp (stN l s) ((l.drop (64 * s)).take n) i = stN l (s + 1) i := by
 rw [comp_take _ _ h]; rfl
def xorF (a b : List UInt8) : Nat → UInt8
 | 0 => 0
 | k + 1 => xorF a b k ||| (a.getD k 0 ^^^ b.getD k 0)
def longF (t : List UInt8) : List UInt8 :=
 if (t.length : Int) < 64 then [UInt8.ofInt t.length] ++ t else [UInt8.ofInt ((t.length : Int) / 256) ||| 64, UInt8.ofInt t.length] ++ t
theorem longF_len (t : List UInt8) : (longF t).length ≤ t.length + 2 := by
 unfold longF
 split <;> simp
def cat (l : List (List UInt8)) : List UInt8 := l.flatten
theorem cat_take (l : List (List UInt8)) {k : Nat} (h : k < l.length) : cat (l.take (k + 1)) = cat (l.take k) ++ l.getD k [] := by
 unfold cat
 rw [List.take_add_one, List.flatten_append, List.getD_eq_getElem?_getD, List.getElem?_eq_getElem h]
 simp
theorem cat_take_le (l : List (List UInt8)) (k : Nat) : (cat (l.take k)).length ≤ (cat l).length := by
 have : cat l = cat (l.take k) ++ cat (l.drop k) := by unfold cat; rw [← List.flatten_append, List.take_append_drop]
 rw [this, List.length_append]; omega
theorem u8_or64 : ∀ k : Fin 64, UInt8.ofInt (((k.val + 64 : Nat) : Nat) : Int) = UInt8.ofInt ((k.val : Nat) : Int) ||| 64 := by decide +kernel
theorem long_r1 {n : Nat} (h : n < 16384) : UInt8.ofInt (((n : Int) + 16384) / 256) = UInt8.ofInt ((n : Int) / 256) ||| 64 := by
 have h1 := u8_or64 ⟨n / 256, by omega⟩
 simp only at h1
 rw [show ((n : Int) + 16384) / 256 = ((n / 256 + 64 : Nat) : Int) by omega, show (n : Int) / 256 = ((n / 256 : Nat) : Int) by omega]
 exact h1
theorem long_r2 (n : Nat) : UInt8.ofInt ((n : Int) + 16384) = UInt8.ofInt n := by
 apply UInt8.toNat_inj.1
 simp only [UInt8.ofInt, UInt8.toNat_ofNat']
 omega
def cb (l : List (List UInt8)) (r : Nat) : List UInt8 := if r = 0 then List.replicate (cat l).length 0 else cat (l.take r)
theorem cb_take (l : List (List UInt8)) (r : Nat) (x : List UInt8) : ((cb l r).drop 0).take (cat (l.take r)).length ++ x = cat (l.take r) ++ x := by
 unfold cb
 split
 ·rename_i h; subst h; simp [cat]
 ·rw [List.drop_zero, List.take_length]
theorem cb_succ (l : List (List UInt8)) (r : Nat) : cb l (r + 1) = cat (l.take (r + 1)) := by unfold cb; rw [if_neg (by omega)]
theorem cb_end {l : List (List UInt8)} {r : Nat} (h : r = l.length) : cb l r = cat l := by
 unfold cb
 split
 ·rename_i h0
  have : l = [] := List.eq_nil_of_length_eq_zero (by omega)
  subst this; rfl
 ·rw [h, List.take_length]
theorem cb_0 (l : List (List UInt8)) : cb l 0 = List.replicate (cat l).length 0 := rfl
def key0 (k : List UInt8) : List UInt8 := if 64 < k.length then sha k else k
theorem key0_le (k : List UInt8) : (key0 k).length ≤ 64 := by
 unfold key0
 split
 ·rw [sha_len]; omega
 ·omega
def padN (k : List UInt8) (c : UInt8) : Nat → List UInt8
 | 0 => []
 | n + 1 => padN k c n ++ [k.getD n 0 ^^^ c]
theorem padN_len (k : List UInt8) (c : UInt8) : ∀ n, (padN k c n).length = n
 | 0 => rfl
 | n + 1 => by simp [padN, padN_len k c n]
def padF (k : List UInt8) (c : UInt8) : List UInt8 := padN k c 64
theorem padF_len (k : List UInt8) (c : UInt8) : (padF k c).length = 64 := padN_len k c 64
def mac (k t : List UInt8) : List UInt8 := sha (padF (key0 k) 92 ++ sha (padF (key0 k) 54 ++ t))
theorem mac_len (k t : List UInt8) : (mac k t).length = 32 := sha_len _
def padL (k : List UInt8) (c : UInt8) (s : Nat) : List UInt8 := padN k c s ++ (k ++ List.replicate (64 - k.length) 0).drop s
theorem padL_len {k : List UInt8} (h : k.length ≤ 64) (c : UInt8) {s : Nat} (hs : s ≤ 64) : (padL k c s).length = 64 := by
 unfold padL
 simp only [List.length_append, padN_len, List.length_drop, List.length_replicate]
 omega
theorem padL_get {k : List UInt8} (h : k.length ≤ 64) (c : UInt8) {s : Nat} (hs : s < 64) : (padL k c s).getD s 0 = k.getD s 0 := by
 unfold padL
 simp only [List.getD_eq_getElem?_getD]
 rw [List.getElem?_append_right (by rw [padN_len]; omega), padN_len, Nat.sub_self, List.getElem?_drop, Nat.add_zero]
 rcases Nat.lt_or_ge s k.length with h1 | h1
 ·rw [List.getElem?_append_left h1]
 ·rw [List.getElem?_append_right h1, List.getElem?_replicate, if_pos (by omega), List.getElem?_eq_none h1]; rfl
theorem padL_succ {k : List UInt8} (h : k.length ≤ 64) (c : UInt8) {s : Nat} (hs : s < 64) : (padL k c s).set s (k.getD s 0 ^^^ c) = padL k c (s + 1) := by
 have hl : (k ++ List.replicate (64 - k.length) 0 : List UInt8).length = 64 := by simp; omega
 unfold padL
 rw [List.set_append_right _ _ (by rw [padN_len]; omega), padN_len, Nat.sub_self, padN, List.append_assoc]
 congr 1
 rw [List.drop_eq_getElem_cons (i := s) (by omega)]
 rfl
theorem padL_64 {k : List UInt8} (h : k.length ≤ 64) (c : UInt8) : padL k c 64 = padF k c := by
 unfold padL padF
 rw [List.drop_of_length_le (by simp; omega), List.append_nil]
theorem padL_0 {k : List UInt8} (h : k.length ≤ 64) (c : UInt8) : (List.replicate 64 (0 : UInt8)).take 0 ++ k.take 64 ++ (List.replicate 64 (0 : UInt8)).drop (0 + min k.length 64) = padL k c 0 := by
 unfold padL padN
 rw [List.take_of_length_le h, Nat.min_eq_left h, List.take_zero, List.nil_append, List.nil_append, List.drop_zero, List.drop_replicate, Nat.zero_add]
theorem ap_sha (l : List UInt8) : ((sha l).drop 0).take 32 = sha l := by rw [List.drop_zero, List.take_of_length_le (by rw [sha_len]; omega)]
attribute [irreducible] padF mac sha
def tN (k i : List UInt8) : Nat → List UInt8
 | 0 => []
 | s + 1 => mac k (cat [tN k i s, i, [UInt8.ofInt ((s : Int) + 1)]])
def okm (k i : List UInt8) : Nat → List UInt8
 | 0 => []
 | s + 1 => okm k i s ++ tN k i (s + 1)
theorem okm_len (k i : List UInt8) : ∀ s, (okm k i s).length = 32 * s
 | 0 => rfl
 | s + 1 => by simp only [okm, List.length_append, okm_len k i s, tN, mac_len]; omega
def expand (k i : List UInt8) (n : Nat) : List UInt8 := (okm k i ((n + 31) / 32)).take n
theorem tN_len (k i : List UInt8) (s : Nat) : (tN k i (s + 1)).length = 32 := by unfold tN; exact mac_len _ _
theorem tN_le (k i : List UInt8) : ∀ s, (tN k i s).length ≤ 32
 | 0 => Nat.zero_le _
 | s + 1 => Nat.le_of_eq (tN_len k i s)
theorem cat3_len (a b : List UInt8) (c : UInt8) : (cat [a, b, [c]]).length = a.length + b.length + 1 := by simp [cat]; omega
def expandN (k i : List UInt8) (n : Int) : List UInt8 := if n < 0 ∨ 8160 < n then [] else expand k i n.toNat
theorem expandN_no {k i : List UInt8} {n : Int} (h : n < 0 ∨ 8160 < n) : expandN k i n = [] := if_pos h
theorem expandN_0 {k i : List UInt8} {n : Int} (h : n = 0) : expandN k i n = [] := by subst h; rfl
theorem okm_end {k i : List UInt8} {n : Int} {s : Nat} (h0 : 32 * (s : Int) < n) (h1 : n ≤ 8160) (h : 32 * s + min 32 (n.toNat - 32 * s) = n.toNat) : okm k i s ++ (tN k i (s + 1)).take (min 32 (n.toNat - 32 * s)) = expandN k i n := by
 unfold expandN
 rw [if_neg (by omega)]
 unfold expand
 rw [show (n.toNat + 31) / 32 = s + 1 by omega, okm, List.take_append, List.take_of_length_le (l := okm k i s) (by rw [okm_len]; omega), okm_len]
 congr 2
 omega
theorem okm_next {k i : List UInt8} {m s : Nat} (h : m = 32) : okm k i s ++ (tN k i (s + 1)).take m = okm k i (s + 1) := by
 subst h
 rw [List.take_of_length_le (by rw [tN_len]; omega)]; rfl
theorem okm_ap {k i : List UInt8} {s m m' : Nat} (hm : m = m') : ((okm k i s).drop 0).take (32 * s) ++ (tN k i (s + 1)).take m = okm k i s ++ (tN k i (s + 1)).take m' := by
 subst hm
 rw [List.drop_zero, List.take_of_length_le (by rw [okm_len]; omega)]
theorem tN_succ (k i : List UInt8) (s : Nat) : ((mac k (((cat [tN k i s, i, [UInt8.ofInt ((s : Int) + 1)]]).drop 0).take (cat [tN k i s, i, [UInt8.ofInt ((s : Int) + 1)]]).length)).drop 0).take 32 = tN k i (s + 1) := by
 rw [List.drop_zero, List.drop_zero, List.take_length, List.take_of_length_le (by rw [mac_len]; omega)]; rfl
theorem expandN_len {k i : List UInt8} {n : Int} (h0 : 0 ≤ n) (h1 : n ≤ 8160) : (expandN k i n).length = n.toNat := by
 unfold expandN
 rw [if_neg (by omega)]
 unfold expand
 rw [List.length_take, okm_len]
 omega
end Go.Vh

/- keccak in plain words: the program's change of a state, and the document's, are one. -/
namespace Go.Vh
open Go Go.Vc
def rot (x : UInt64) (n : Nat) : UInt64 := u64Shl x n ||| u64Shr x (64 - n)
def turnsL : List Nat := [1, 3, 6, 10, 15, 21, 28, 36, 45, 55, 2, 14, 27, 41, 56, 8, 25, 43, 62, 18, 39, 61, 20, 44]
def placesL : List Nat := [10, 7, 11, 17, 18, 3, 5, 16, 8, 21, 24, 4, 15, 23, 19, 13, 12, 2, 20, 14, 22, 9, 6, 1]
def constL : List UInt64 := [0x0000000000000001, 0x0000000000008082, 0x800000000000808a, 0x8000000080008000,
 0x000000000000808b, 0x0000000080000001, 0x8000000080008081, 0x8000000000008009,
 0x000000000000008a, 0x0000000000000088, 0x0000000080008009, 0x000000008000000a,
 0x000000008000808b, 0x800000000000008b, 0x8000000000008089, 0x8000000000008003,
 0x8000000000008002, 0x8000000000000080, 0x000000000000800a, 0x800000008000000a,
 0x8000000080008081, 0x8000000000008080, 0x0000000080000001, 0x8000000080008008]
abbrev Ln := Nat → UInt64
def smN (w : Ln) : Nat → Ln
 | 0, _ => 0
 | s + 1, j => if j = s % 5 then smN w s j ^^^ w s else smN w s j
def thF (w : Ln) (j : Nat) : UInt64 := w j ^^^ (smN w 25 ((j + 4) % 5) ^^^ rot (smN w 25 ((j + 1) % 5)) 1)
def rpN (a : Ln) : Nat → Ln × UInt64
 | 0 => (a, a 1)
 | s + 1 => (fun j => if j = placesL.getD s 0 then rot (rpN a s).2 (turnsL.getD s 0) else (rpN a s).1 j, (rpN a s).1 (placesL.getD s 0))
def chF (a : Ln) (j : Nat) : UInt64 := a j ^^^ (~~~ (a (5 * (j / 5) + (j % 5 + 1) % 5)) &&& a (5 * (j / 5) + (j % 5 + 2) % 5))
def rdF (w : Ln) (c : UInt64) (j : Nat) : UInt64 := if j = 0 then chF (rpN (thF w) 24).1 0 ^^^ c else chF (rpN (thF w) 24).1 j
def kfN (w : Ln) : Nat → Ln
 | 0 => w
 | s + 1 => rdF (kfN w s) (constL.getD s 0)
def kf (w : Ln) : Ln := kfN w 24
def tr (w : Ln) (i : Nat) : UInt64 := w (i / 5 + 5 * (i % 5))
def cR (v : Ln) (x : Nat) : UInt64 := v (x * 5) ^^^ v (x * 5 + 1) ^^^ v (x * 5 + 2) ^^^ v (x * 5 + 3) ^^^ v (x * 5 + 4)
def dR (v : Ln) (x : Nat) : UInt64 := cR v ((x + 4) % 5) ^^^ rot (cR v ((x + 1) % 5)) 1
def tL : List Nat := [0, 36, 3, 41, 18, 1, 44, 10, 45, 2, 62, 6, 43, 15, 61, 28, 55, 25, 21, 56, 27, 20, 39, 8, 14]
def xR (j : Nat) : Nat := (3 * (j % 5) + j / 5) % 5
def bR (v : Ln) (j : Nat) : UInt64 := rot (v (xR j * 5 + j / 5) ^^^ dR v (xR j)) (tL.getD (xR j * 5 + j / 5) 0)
def chR (b : Ln) (j : Nat) : UInt64 := b j ^^^ (~~~ (b ((j / 5 + 1) % 5 * 5 + j % 5)) &&& b ((j / 5 + 2) % 5 * 5 + j % 5))
def rdR (v : Ln) (c : UInt64) (j : Nat) : UInt64 := if j = 0 then chR (bR v) 0 ^^^ c else chR (bR v) j
theorem sm_col (w : Ln) (x : Nat) (h : x < 5) : smN w 25 x = cR (tr w) x := by
 have z : ∀ a : UInt64, (0 : UInt64) ^^^ a = a := fun _ => UInt64.zero_xor
 match x, h with
 | 0, _ => exact congrArg (· ^^^ w 5 ^^^ w 10 ^^^ w 15 ^^^ w 20) (z (w 0))
 | 1, _ => exact congrArg (· ^^^ w 6 ^^^ w 11 ^^^ w 16 ^^^ w 21) (z (w 1))
 | 2, _ => exact congrArg (· ^^^ w 7 ^^^ w 12 ^^^ w 17 ^^^ w 22) (z (w 2))
 | 3, _ => exact congrArg (· ^^^ w 8 ^^^ w 13 ^^^ w 18 ^^^ w 23) (z (w 3))
 | 4, _ => exact congrArg (· ^^^ w 9 ^^^ w 14 ^^^ w 19 ^^^ w 24) (z (w 4))
theorem th_eq (w : Ln) (j : Nat) (h : j < 25) : thF w j = tr w (j % 5 * 5 + j / 5) ^^^ dR (tr w) (j % 5) := by
 unfold thF dR
 rw [sm_col w _ (Nat.mod_lt _ (by decide)), sm_col w _ (Nat.mod_lt _ (by decide)), show (j % 5 + 4) % 5 = (j + 4) % 5 by omega, show (j % 5 + 1) % 5 = (j + 1) % 5 by omega]
 congr 1
 unfold tr
 congr 1
 omega
def srcL : List Nat := [0, 6, 12, 18, 24, 3, 9, 10, 16, 22, 1, 7, 13, 19, 20, 4, 5, 11, 17, 23, 2, 8, 14, 15, 21]
def ixP (j : Nat) : Nat := placesL.findIdx (· == j)
def hpP (s : Nat) : Nat := if s = 0 then 1 else placesL.getD (s - 1) 0
theorem ixP_b : ∀ s : Fin 24, ∀ j : Fin 25, (j.val = placesL.getD s 0 ↔ ixP j = s) := by decide +kernel
theorem pl_b : ∀ s : Fin 24, placesL.getD s 0 < 25 := by decide +kernel
theorem rpN_is (a : Ln) (s : Nat) (hs : s ≤ 24) : (rpN a s).2 = a (hpP s) ∧ ∀ j, j < 25 → (rpN a s).1 j = if ixP j < s then rot (a (hpP (ixP j))) (turnsL.getD (ixP j) 0) else a j := by
 induction s with
 | zero => exact ⟨rfl, fun j _ => by rw [if_neg (Nat.not_lt_zero _)]; rfl⟩
 | succ s ih =>
  obtain ⟨i1, i2⟩ := ih (by omega)
  have hp := pl_b ⟨s, hs⟩
  have hi := (ixP_b ⟨s, hs⟩ ⟨placesL.getD s 0, hp⟩).1 rfl
  simp only at hp hi
  refine ⟨?_, fun j hj => ?_⟩
  ·show (rpN a s).1 (placesL.getD s 0) = _
   rw [i2 _ hp, hi, if_neg (Nat.lt_irrefl s)]
   rfl
  ·show (if j = placesL.getD s 0 then rot (rpN a s).2 (turnsL.getD s 0) else (rpN a s).1 j) = _
   have hx := ixP_b ⟨s, hs⟩ ⟨j, hj⟩
   simp only at hx
   by_cases h9 : j = placesL.getD s 0
   ·have hx := hx.1 h9
    rw [if_pos h9, hx, if_pos (Nat.lt_succ_self s), i1]
   ·have hx : ixP j ≠ s := fun e => h9 (hx.2 e)
    rw [if_neg h9, i2 j hj]
    by_cases h8 : ixP j < s
    ·rw [if_pos h8, if_pos (by omega)]
    ·rw [if_neg h8, if_neg (by omega)]
theorem src_p : ∀ j : Fin 25, (ixP j < 24 ↔ j.val ≠ 0) ∧ (j.val ≠ 0 → hpP (ixP j) = srcL.getD j 0 ∧ turnsL.getD (ixP j) 0 = tL.getD (srcL.getD j 0 % 5 * 5 + srcL.getD j 0 / 5) 0) := by decide +kernel
theorem rp_eq (a : Ln) (j : Nat) (h : j < 25) : (rpN a 24).1 j = if j = 0 then a 0 else rot (a (srcL.getD j 0)) (tL.getD (srcL.getD j 0 % 5 * 5 + srcL.getD j 0 / 5) 0) := by
 obtain ⟨h1, h2⟩ := src_p ⟨j, h⟩
 simp only at h1 h2
 rw [(rpN_is a 24 (Nat.le_refl _)).2 j h]
 by_cases h0 : j = 0
 ·rw [if_neg (fun e => h1.1 e h0), if_pos h0, h0]
 ·rw [if_pos (h1.2 h0), if_neg h0, (h2 h0).1, (h2 h0).2]
theorem rot_0 (x : UInt64) : rot x 0 = x := by
 have h1 : u64Shl x 0 = x := by unfold u64Shl; simp
 have h2 : u64Shr x (64 - 0) = 0 := by
  unfold u64Shr
  rw [Nat.div_eq_of_lt (by have := x.toNat_lt; simpa using this)]; rfl
 unfold rot
 rw [h1, h2]; exact UInt64.or_zero
theorem src_b : ∀ j : Fin 25, srcL.getD j 0 < 25 ∧ srcL.getD j 0 % 5 = xR (j / 5 + 5 * (j % 5)) ∧ srcL.getD j 0 / 5 = (j / 5 + 5 * (j % 5)) / 5 := by decide +kernel
theorem b_eq (w : Ln) (j : Nat) (h : j < 25) : (rpN (thF w) 24).1 j = bR (tr w) (j / 5 + 5 * (j % 5)) := by
 rw [rp_eq _ _ h]
 obtain ⟨h1, h2, h3⟩ := src_b ⟨j, h⟩
 simp only at h1 h2 h3
 by_cases h0 : j = 0
 ·subst h0
  rw [if_pos rfl, th_eq w 0 (by omega)]
  exact (rot_0 _).symm
 ·rw [if_neg h0, th_eq _ _ h1]
  unfold bR
  rw [h2, h3]
theorem tr_i : ∀ i : Fin 25, ((i.val / 5 + 1) % 5 * 5 + i % 5) / 5 + 5 * (((i.val / 5 + 1) % 5 * 5 + i % 5) % 5) = 5 * ((i / 5 + 5 * (i % 5)) / 5) + ((i / 5 + 5 * (i % 5)) % 5 + 1) % 5 ∧
  ((i.val / 5 + 2) % 5 * 5 + i % 5) / 5 + 5 * (((i.val / 5 + 2) % 5 * 5 + i % 5) % 5) = 5 * ((i / 5 + 5 * (i % 5)) / 5) + ((i / 5 + 5 * (i % 5)) % 5 + 2) % 5 := by decide +kernel
theorem rd_tr (w : Ln) (c : UInt64) (i : Nat) (h : i < 25) : rdR (tr w) c i = tr (rdF w c) i := by
 have hb : ∀ i, i < 25 → bR (tr w) i = (rpN (thF w) 24).1 (i / 5 + 5 * (i % 5)) := fun i hi => by
  rw [b_eq w _ (by omega)]
  congr 1
  omega
 have hc : ∀ i, i < 25 → chR (bR (tr w)) i = chF (rpN (thF w) 24).1 (i / 5 + 5 * (i % 5)) := fun i hi => by
  unfold chR chF
  obtain ⟨e1, e2⟩ := tr_i ⟨i, hi⟩
  simp only at e1 e2
  rw [hb i hi, hb _ (by omega), hb _ (by omega), e1, e2]
 unfold tr rdF
 by_cases h0 : i = 0
 ·subst h0
  unfold rdR
  rw [if_pos rfl, if_pos rfl]
  exact congrArg (· ^^^ c) (hc 0 (by omega))
 ·unfold rdR
  rw [if_neg h0, if_neg (by omega)]
  exact hc i h
def xT (i : Nat) : Nat := ([1, 0, 2, 1, 2, 3, 3, 0, 1, 3, 1, 4, 4, 0, 3, 4, 3, 2, 2, 0, 4, 2, 4, 1, 1] : List Nat).getD i 0
def yT (i : Nat) : Nat := ([0, 2, 1, 2, 3, 3, 0, 1, 3, 1, 4, 4, 0, 3, 4, 3, 2, 2, 0, 4, 2, 4, 1, 1, 0] : List Nat).getD i 0
def ixT (j : Nat) : Nat := ([24, 7, 1, 13, 19, 0, 23, 3, 8, 10, 18, 2, 17, 4, 21, 6, 9, 16, 5, 14, 12, 22, 20, 15, 11] : List Nat).getD j 24
def tP (i j : Nat) : Nat := if ixT j < i then tL.getD j 0 else 0
theorem turn_b : ∀ i : Fin 24, xT i < 5 ∧ yT i < 5 ∧ (i.val + 1) * (i + 2) / 2 % 64 = tL.getD (xT i * 5 + yT i) 0 ∧ (2 * xT i + 3 * yT i) % 5 = yT (i + 1) ∧ yT i = xT (i + 1) ∧ ixT (xT i * 5 + yT i) = i := by decide +kernel
theorem turn_j : ∀ i : Fin 24, ∀ j : Fin 25, ixT j = i.val → j.val = xT i * 5 + yT i := by decide +kernel
theorem tP_put {i : Nat} (h : i < 24) (j : Nat) : (if j = xT i * 5 + yT i then tL.getD (xT i * 5 + yT i) 0 else tP i j) = tP (i + 1) j := by
 obtain ⟨h1, h2, _, _, _, h3⟩ := turn_b ⟨i, h⟩
 simp only at h1 h2 h3
 unfold tP
 by_cases h9 : j = xT i * 5 + yT i
 ·rw [if_pos h9, h9, h3, if_pos (Nat.lt_succ_self i)]
 ·rw [if_neg h9]
  by_cases hj : j < 25
  ·have h8 : ixT j ≠ i := fun e => h9 (turn_j ⟨i, h⟩ ⟨j, hj⟩ e)
   by_cases h7 : ixT j < i
   ·rw [if_pos h7, if_pos (by omega)]
   ·rw [if_neg h7, if_neg (by omega)]
  ·have h8 : ixT j = 24 := by
    unfold ixT
    rw [List.getD_eq_getElem?_getD, List.getElem?_eq_none (by simp only [List.length_cons, List.length_nil]; omega)]; rfl
   rw [h8, if_neg (by omega)]
   by_cases h7 : 24 < i + 1
   ·omega
   ·rw [if_neg h7]
theorem tP_24 : ∀ j : Fin 25, tP 24 j = tL.getD j 0 := by decide +kernel
theorem tP_25 {j : Nat} (h : j < 25) : tP 24 j = tL.getD j 0 := tP_24 ⟨j, h⟩
theorem tL_le (j : Nat) : tL.getD j 0 ≤ 63 := by
 by_cases h : j < 25
 ·exact (show ∀ j : Fin 25, tL.getD j 0 ≤ 63 by decide +kernel) ⟨j, h⟩
 ·rw [List.getD_eq_getElem?_getD, List.getElem?_eq_none (by simp only [tL, List.length_cons, List.length_nil]; omega)]; exact Nat.zero_le _
def rT (n : Nat) : Nat := ([1, 2, 4, 8, 16, 32, 64, 128, 113, 226, 181, 27, 54, 108, 216, 193, 243, 151, 95, 190, 13, 26, 52, 104, 208, 209, 211, 215, 223, 207, 239, 175, 47, 94, 188, 9, 18, 36, 72, 144, 81, 162, 53, 106, 212, 217, 195, 247, 159, 79, 158, 77, 154, 69, 138, 101, 202, 229, 187, 7, 14, 28, 56, 112, 224, 177, 19, 38, 76, 152, 65, 130, 117, 234, 165, 59, 118, 236, 169, 35, 70, 140, 105, 210, 213, 219, 199, 255, 143, 111, 222, 205, 235, 167, 63, 126, 252, 137, 99, 198, 253, 139, 103, 206, 237, 171, 39, 78, 156, 73, 146, 85, 170, 37, 74, 148, 89, 178, 21, 42, 84, 168, 33, 66, 132, 121, 242, 149, 91, 182, 29, 58, 116, 232, 161, 51, 102, 204, 233, 163, 55, 110, 220, 201, 227, 183, 31, 62, 124, 248, 129, 115, 230, 189, 11, 22, 44, 88, 176, 17, 34, 68, 136, 97, 194, 245, 155, 71, 142] : List Nat).getD n 0
def bit7 (j : Nat) : UInt64 := u64Shl 1 (u64Shl 1 j - 1).toNat
def msk : Nat → UInt64
 | 0 => 0
 | j + 1 => msk j ||| bit7 j
def lP (n m : Nat) : UInt64 := if m < n / 7 then constL.getD m 0 else if m = n / 7 then constL.getD m 0 &&& msk (n % 7) else 0
theorem rT_b : ∀ n : Fin 168, rT n < 256 ∧ (256 ≤ 2 * rT n → iXor .i64 (((rT n : Nat) : Int) * 2) 369 = ((rT (n + 1) : Nat) : Int)) ∧ (2 * rT n < 256 → rT n * 2 = rT (n + 1)) := by decide +kernel
theorem lP_b : ∀ n : Fin 168, (rT n % 2 = 1 → lP n (n / 7) ||| bit7 (n % 7) = lP (n + 1) (n / 7)) ∧ (rT n % 2 ≠ 1 → lP n (n / 7) = lP (n + 1) (n / 7)) := by decide +kernel
theorem lP_else (n m : Nat) (h : m ≠ n / 7) : lP n m = lP (n + 1) m := by
 unfold lP
 by_cases h1 : m < n / 7
 ·rw [if_pos h1, if_pos (by omega)]
 ·rw [if_neg h1, if_neg h, if_neg (by omega)]
  by_cases h2 : m = (n + 1) / 7
  ·rw [if_pos h2, show (n + 1) % 7 = 0 by omega]; exact UInt64.and_zero.symm
  ·rw [if_neg h2]
theorem lP_yes {i j : Nat} (hi : i < 24) (hj : j < 7) (h : rT (7 * i + j) % 2 = 1) (m : Nat) : (if m = i then lP (7 * i + j) i ||| bit7 j else lP (7 * i + j) m) = lP (7 * i + j + 1) m := by
 have h1 := (lP_b ⟨7 * i + j, by omega⟩).1 h
 simp only [show (7 * i + j) / 7 = i by omega, show (7 * i + j) % 7 = j by omega] at h1
 by_cases h9 : m = i
 ·rw [if_pos h9, h1, h9]
 ·rw [if_neg h9]; exact lP_else _ _ (by omega)
theorem lP_no {i j : Nat} (hi : i < 24) (hj : j < 7) (h : rT (7 * i + j) % 2 ≠ 1) (m : Nat) : lP (7 * i + j) m = lP (7 * i + j + 1) m := by
 have h1 := (lP_b ⟨7 * i + j, by omega⟩).2 h
 simp only [show (7 * i + j) / 7 = i by omega] at h1
 by_cases h9 : m = i
 ·rw [h9, h1]
 ·exact lP_else _ _ (by omega)
theorem lP_0 (m : Nat) : lP 0 m = 0 := by
 unfold lP
 rw [if_neg (by omega)]
 split
 ·exact UInt64.and_zero
 ·rfl
theorem lP_end (m : Nat) (h : m < 24) : lP 168 m = constL.getD m 0 := by unfold lP; rw [if_pos (by omega)]
theorem rot64_left {x : UInt64} {n : Int} (h : 1 ≤ n ∧ n ≤ 63) : u64Shl x (((UInt64.ofInt n &&& 63).toNat : Int)).toNat ||| u64Shr x (((64 - (UInt64.ofInt n &&& 63) : UInt64).toNat : Int)).toNat = rot x n.toNat := by
 obtain ⟨k, rfl⟩ : ∃ k : Nat, n = k := ⟨n.toNat, by omega⟩
 obtain ⟨h1, h2⟩ := (show ∀ k : Fin 64, 1 ≤ k.val → (UInt64.ofInt ((k.val : Nat) : Int) &&& 63).toNat = k ∧ (64 - (UInt64.ofInt ((k.val : Nat) : Int) &&& 63) : UInt64).toNat = 64 - k by decide +kernel) ⟨k, by omega⟩ (by show 1 ≤ k; omega)
 simp only at h1 h2
 rw [h1, h2]
 rfl
theorem pl_lt (k : Nat) : placesL.getD k 0 < 25 := by
 by_cases h : k < 24
 ·exact pl_b ⟨k, h⟩
 ·rw [List.getD_eq_getElem?_getD, List.getElem?_eq_none (by simp only [placesL, List.length_cons, List.length_nil]; omega)]; exact Nat.zero_lt_succ _
theorem tn_b {k : Nat} (h : k < 24) : 1 ≤ turnsL.getD k 0 ∧ turnsL.getD k 0 ≤ 63 := (show ∀ k : Fin 24, 1 ≤ turnsL.getD k 0 ∧ turnsL.getD k 0 ≤ 63 by decide +kernel) ⟨k, h⟩
theorem ch_at {a : Ln} {y x : Nat} (h : x < 5) : a (5 * y + x) ^^^ (~~~ (a (5 * y + (x + 1) % 5)) &&& a (5 * y + (x + 2) % 5)) = chF a (5 * y + x) := by
 unfold chF
 rw [show (5 * y + x) / 5 = y by omega, show (5 * y + x) % 5 = x by omega]
theorem chR_at {b : Ln} {x y : Nat} (h : y < 5) : b (x * 5 + y) ^^^ (~~~ (b ((x + 1) % 5 * 5 + y)) &&& b ((x + 2) % 5 * 5 + y)) = chR b (x * 5 + y) := by
 unfold chR
 rw [show (x * 5 + y) / 5 = x by omega, show (x * 5 + y) % 5 = y by omega]
theorem xR_lt (j : Nat) : xR j < 5 := Nat.mod_lt _ (by decide)
theorem xR_iff {x y : Nat} (hx : x < 5) (hy : y < 5) (j : Nat) : (xR j = x ∧ j / 5 = y) ↔ j = y * 5 + (2 * x + 3 * y) % 5 := by
 have key := (show ∀ r x y : Fin 5, (3 * r.val + y) % 5 = x ↔ r.val = (2 * x + 3 * y) % 5 by decide +kernel) ⟨j % 5, Nat.mod_lt _ (by decide)⟩ ⟨x, hx⟩ ⟨y, hy⟩
 simp only at key
 unfold xR
 constructor
 ·rintro ⟨h1, h2⟩
  rw [h2] at h1
  have := key.1 h1
  omega
 ·intro h
  have h2 : j / 5 = y := by omega
  exact ⟨by rw [h2]; exact key.2 (by omega), h2⟩
theorem b_put {v : Ln} {x y : Nat} (hx : x < 5) (hy : y < 5) (j : Nat) :
  (if j = y * 5 + (2 * x + 3 * y) % 5 then rot (v (x * 5 + y) ^^^ dR v x) (tL.getD (x * 5 + y) 0) else if xR j < x ∨ (xR j = x ∧ j / 5 < y) then bR v j else 0) = if xR j < x ∨ (xR j = x ∧ j / 5 < y + 1) then bR v j else 0 := by
 have hi := xR_iff hx hy j
 by_cases h9 : j = y * 5 + (2 * x + 3 * y) % 5
 ·obtain ⟨h1, h2⟩ := hi.2 h9
  rw [if_pos h9, if_pos (.inr ⟨h1, by omega⟩)]
  unfold bR
  rw [h1, h2]
 ·have h8 : ¬ (xR j = x ∧ j / 5 = y) := fun e => h9 (hi.1 e)
  rw [if_neg h9]
  by_cases h7 : xR j < x ∨ (xR j = x ∧ j / 5 < y)
  ·rw [if_pos h7, if_pos (h7.imp id fun e => ⟨e.1, by omega⟩)]
  ·rw [if_neg h7, if_neg (by omega)]
def spB (r : Nat) (e : UInt8) (w : Ln) (p : Nat) (g : Bool) (j : Nat) : PV :=
 if j = 0 then .v (.int .i64 (r : Int)) else if j = 1 then .u8 e else if j < 27 then .u64 (w (j - 2)) else if j = 27 then .v (.int .i64 (p : Int)) else .v (.bool (decide (j = 28) && g))
theorem spB_w {r : Nat} {e : UInt8} {w : Ln} {p : Nat} {g : Bool} {k i : Nat} (hk : k = 2 + i) (hi : i < 25) : spB r e w p g k = .u64 (w i) := by
 subst hk
 unfold spB
 rw [if_neg (by omega), if_neg (by omega), if_pos (by omega), show 2 + i - 2 = i by omega]
theorem spB_one {r : Nat} {e : UInt8} {w : Ln} {p : Nat} {g : Bool} (j : Nat) : (BV.p (spB r e w p g j)).one := by
 unfold spB
 repeat' split
 all_goals first | trivial | rfl
theorem spB_cg {r : Nat} {e : UInt8} {w w' : Ln} {p : Nat} {g : Bool} (h : ∀ j, j < 25 → w j = w' j) (j : Nat) : spB r e w p g j = spB r e w' p g j := by
 unfold spB
 by_cases h1 : j < 27
 ·by_cases h2 : 2 ≤ j
  ·rw [h (j - 2) (by omega)]
  ·have : j = 0 ∨ j = 1 := by omega
   rcases this with rfl | rfl <;> rfl
 ·rw [if_neg (show ¬ j < 27 from h1), if_neg (show ¬ j < 27 from h1)]
theorem spB_st {r : Nat} {e : UInt8} {w w' : Ln} {p : Nat} {g : Bool} {k i : Nat} {v : UInt64} (hk : k = 2 + i) (hi : i < 25) (hv : w' i = v) (hw : ∀ j, j < 25 → j ≠ i → w' j = w j) (j : Nat) : (if j = k then PV.u64 v else spB r e w p g j) = spB r e w' p g j := by
 subst hk
 by_cases h9 : j = 2 + i
 ·rw [if_pos h9, h9, spB_w rfl hi, hv]
 ·rw [if_neg h9]
  unfold spB
  by_cases h2 : 2 ≤ j
  ·by_cases h3 : j < 27
   ·rw [hw (j - 2) (by omega) (by omega)]
   ·rw [if_neg h3, if_neg h3]
  ·have : j = 0 ∨ j = 1 := by omega
   rcases this with rfl | rfl <;> rfl
theorem tr_at {w : Ln} {n : Nat} (h : n < 25) : tr w (n % 5 * 5 + n / 5) = w n := by unfold tr; congr 1; omega
theorem spB_at {r : Nat} {e : UInt8} {w : Ln} {p p' : Nat} {g : Bool} {x : Int} (h : ((p' : Nat) : Int) = x) (j : Nat) : (if j = 27 then PV.v (.int .i64 x) else spB r e w p g j) = spB r e w p' g j := by
 subst h
 unfold spB
 by_cases h9 : j = 27
 ·subst h9; rfl
 ·simp only [if_neg h9]
theorem spB_gv {r : Nat} {e : UInt8} {w : Ln} {p : Nat} {g g' : Bool} (j : Nat) : (if j = 28 then PV.v (.bool g') else spB r e w p g j) = spB r e w p g' j := by
 unfold spB
 by_cases h9 : j = 28
 ·subst h9; rfl
 ·rw [if_neg h9]
  simp only [h9, decide_false, Bool.false_and]
theorem spB_ag {r : Nat} {e : UInt8} {w w' : Ln} {p : Nat} {g : Bool} (f : Nat → PV) (hf : ∀ j, j < 25 → f j = .u64 (w' j)) (j : Nat) : (if 2 ≤ j ∧ j < 27 then f (j - 2) else spB r e w p g j) = spB r e w' p g j := by
 by_cases h9 : 2 ≤ j ∧ j < 27
 ·rw [if_pos h9, hf _ (by omega), spB_w (i := j - 2) (by omega) (by omega)]
 ·rw [if_neg h9]
  unfold spB
  by_cases h2 : j < 2
  ·have : j = 0 ∨ j = 1 := by omega
   rcases this with rfl | rfl <;> rfl
  ·simp only [if_neg (show ¬ j < 27 by omega)]
def layF (w : Ln) (p : Nat) (c : UInt8) (j : Nat) : UInt64 := if j = p / 8 then w j ^^^ u64Shl c.toUInt64 (p % 8 * 8) else w j
def wrS (r : Nat) (p : Ln × Nat) (c : UInt8) : Ln × Nat := if p.2 + 1 = r then (kf (layF p.1 p.2 c), 0) else (layF p.1 p.2 c, p.2 + 1)
def wrN (r : Nat) (b : List UInt8) : Nat → Ln × Nat
 | 0 => (fun _ => 0, 0)
 | s + 1 => wrS r (wrN r b s) (b.getD s 0)
def padK (r : Nat) (e : UInt8) (p : Ln × Nat) : Ln := kf (layF (layF p.1 p.2 e) (r - 1) 128)
def gvT (r : Nat) (p : Ln × Nat) : Ln × Nat := if p.2 = r then (kf p.1, 0) else p
def gvN (r : Nat) (w : Ln) : Nat → Ln × Nat
 | 0 => (w, 0)
 | s + 1 => ((gvT r (gvN r w s)).1, (gvT r (gvN r w s)).2 + 1)
def gvB (r : Nat) (w : Ln) (s : Nat) : UInt8 := (u64Shr ((gvT r (gvN r w s)).1 ((gvT r (gvN r w s)).2 / 8)) ((gvT r (gvN r w s)).2 % 8 * 8)).toUInt8
def gvL (r : Nat) (w : Ln) : Nat → List UInt8
 | 0 => []
 | s + 1 => gvL r w s ++ [gvB r w s]
def spg (r : Nat) (e : UInt8) (b : List UInt8) (n : Nat) : List UInt8 := gvL r (padK r e (wrN r b b.length)) n
theorem wrN_le (r : Nat) (b : List UInt8) (h : 0 < r) (s : Nat) : (wrN r b s).2 < r := by
 induction s with
 | zero => exact h
 | succ s ih =>
  show (wrS r (wrN r b s) _).2 < r
  unfold wrS
  split
  ·exact h
  ·show _ + 1 < r; omega
theorem gvT_lt (r : Nat) (p : Ln × Nat) (h : 0 < r) (hp : p.2 ≤ r) : (gvT r p).2 < r := by
 unfold gvT
 split
 ·exact h
 ·omega
theorem gvN_le (r : Nat) (w : Ln) (h : 0 < r) (s : Nat) : (gvN r w s).2 ≤ r := by
 induction s with
 | zero => exact Nat.zero_le _
 | succ s ih => exact gvT_lt r _ h ih
theorem gvL_len (r : Nat) (w : Ln) (n : Nat) : (gvL r w n).length = n := by
 induction n with
 | zero => rfl
 | succ n ih => simp [gvL, ih]
theorem gvL_set (r : Nat) (w : Ln) (s m : Nat) (h : s < m) : (gvL r w s ++ List.replicate (m - s) 0).set s (gvB r w s) = gvL r w (s + 1) ++ List.replicate (m - (s + 1)) 0 := by
 have e : m - s = (m - (s + 1)) + 1 := by omega
 rw [e, List.replicate_succ, List.set_append, if_neg (by rw [gvL_len]; omega), gvL_len, Nat.sub_self, List.set_cons_zero]
 show _ = (gvL r w s ++ [gvB r w s]) ++ _
 rw [List.append_assoc]; rfl
theorem gvL_end (r : Nat) (w : Ln) (m : Nat) : gvL r w m ++ List.replicate (m - m) 0 = gvL r w m := by rw [Nat.sub_self]; exact List.append_nil _
theorem gvT_eq (r : Nat) (p : Ln × Nat) : (if ((p.2 : Nat) : Int) = ((r : Nat) : Int) then kf p.1 else p.1) = (gvT r p).1 ∧ (if ((p.2 : Nat) : Int) = ((r : Nat) : Int) then 0 else p.2) = (gvT r p).2 := by
 unfold gvT
 by_cases h : p.2 = r
 ·have h2 : ((p.2 : Nat) : Int) = ((r : Nat) : Int) := by omega
  rw [if_pos h2, if_pos h2, if_pos h]; exact ⟨rfl, rfl⟩
 ·have h2 : ¬ ((p.2 : Nat) : Int) = ((r : Nat) : Int) := by omega
  rw [if_neg h2, if_neg h2, if_neg h]; exact ⟨rfl, rfl⟩
theorem and7 {r : Nat} (h : r ≤ 192) (h8 : r % 8 = 0) : iAnd .i64 (r : Int) 7 = 0 := (show ∀ r : Fin 193, r.val % 8 = 0 → iAnd .i64 ((r.val : Nat) : Int) 7 = 0 by decide +kernel) ⟨r, by omega⟩ h8
theorem spg_len (r : Nat) (e : UInt8) (b : List UInt8) (n : Nat) : (spg r e b n).length = n := gvL_len _ _ _
end Go.Vh

/- Infos, labels (plain). -/
namespace Go.Vh
theorem padN_64 (k : List UInt8) (c : UInt8) : padN k c 64 = padF k c := by unfold padF; rfl
theorem padN_succ {k : List UInt8} {c x : UInt8} {n : Nat} (h : x = k.getD n 0) : padN k c n ++ [x ^^^ c] = padN k c (n + 1) := by subst h; rfl
theorem mac_def (k t : List UInt8) : mac k t = sha (padF (key0 k) 92 ++ sha (padF (key0 k) 54 ++ t)) := by unfold mac; rfl
def lbl : List UInt8 := [71, 75, 65, 32, 49, 46, 48, 32]
def infoBad (nm c : List UInt8) (n : Int) : Prop := n < 0 ∨ 8160 < n ∨ 40 < nm.length ∨ 16000 < c.length
instance (nm c : List UInt8) (n : Int) : Decidable (infoBad nm c n) := by unfold infoBad; exact inferInstance
def infoG (nm c : List UInt8) (n : Int) : List UInt8 := [UInt8.ofInt (n / 256), UInt8.ofInt n] ++ longF (lbl ++ nm) ++ longF c
def infoF (nm c : List UInt8) (n : Int) : List UInt8 := if infoBad nm c n then [] else infoG nm c n
def labelF (k nm c : List UInt8) (n : Int) : List UInt8 := if infoBad nm c n then [] else expandN k (infoG nm c n) n
theorem infoF_no {nm c : List UInt8} {n : Int} (h : n < 0 ∨ 8160 < n ∨ 40 < nm.length ∨ 16000 < c.length) : infoF nm c n = [] := if_pos h
theorem infoF_yes {nm c : List UInt8} {n : Int} (h : ¬ (n < 0 ∨ 8160 < n ∨ 40 < nm.length ∨ 16000 < c.length)) : infoF nm c n = infoG nm c n := if_neg h
theorem labelF_no {k nm c : List UInt8} {n : Int} (h : n < 0 ∨ 8160 < n ∨ 40 < nm.length ∨ 16000 < c.length) : labelF k nm c n = [] := if_pos h
theorem labelF_yes {k nm c : List UInt8} {n : Int} (h : ¬ (n < 0 ∨ 8160 < n ∨ 40 < nm.length ∨ 16000 < c.length)) : labelF k nm c n = expandN k (infoG nm c n) n := if_neg h
theorem infoF_nil {k nm c : List UInt8} {n : Int} (h : (infoF nm c n).length = 0) : labelF k nm c n = [] := by
 unfold infoF at h; unfold labelF
 split
 ·rfl
 ·rename_i hb
  rw [if_neg hb] at h
  unfold infoG at h
  simp only [List.length_append, List.length_cons] at h
  omega
theorem infoF_some {k nm c : List UInt8} {n : Int} (h : ¬ (infoF nm c n).length = 0) : expandN k (infoF nm c n) n = labelF k nm c n := by
 unfold infoF at h ⊢; unfold labelF
 split
 ·rename_i hb
  rw [if_pos hb] at h
  exact absurd rfl h
 ·rfl
theorem infoF_len (nm c : List UInt8) (n : Int) : (infoF nm c n).length ≤ 16100 := by
 unfold infoF
 split
 ·exact Nat.zero_le _
 ·rename_i hb
  unfold infoBad at hb
  unfold infoG
  have h1 := longF_len (lbl ++ nm)
  have h2 := longF_len c
  simp only [List.length_append, List.length_cons, List.length_nil, lbl] at h1 ⊢
  omega
theorem infoG_cat (nm c : List UInt8) (n : Int) : cat [[UInt8.ofInt (n / 256), UInt8.ofInt n], longF (lbl ++ nm), longF c] = infoG nm c n := by simp [cat, infoG]
theorem take_full (l : List UInt8) : (l.drop 0).take l.length = l := by rw [List.drop_zero, List.take_length]
theorem okm_get {k i : List UInt8} {n : Int} {s : Nat} (h0 : ¬ n < 0) (h1 : n ≤ 8160) (h2 : 32 * (s : Int) < n + 32) (h3 : ¬ (32 * (s : Int) < n)) : (okm k i s).take n.toNat = expandN k i n := by
 unfold expandN
 rw [if_neg (by omega)]
 unfold expand
 rw [show (n.toNat + 31) / 32 = s by omega]
end Go.Vh

/- Wire's laws, in plain Lean: sizes. -/
set_option linter.unusedVariables false
set_option linter.unusedSimpArgs false
namespace Go.Vw
open Go Go.Vc
def want1 (k : Int) : Int := if 64 ≤ k then k + 2 else k + 1
def want2 (k : Int) : Int := if 16384 ≤ k then k + 4 else want1 k
def szC (c : UInt8) : Int := iShl .i64 1 ((c % 4).toNat : Int).toNat
def mC (n : UInt32) (c : UInt8) : Int := if szC c < 4 then iAnd .i64 (n.toNat : Int) (iShl .i64 1 (8 * szC c).toNat - 1) else (n.toNat : Int)
def incF (s : Nat) (b : List UInt8) : List UInt8 := (b.take s).map (· + 1) ++ b.drop s
theorem incF_len (s : Nat) (b : List UInt8) : (incF s b).length = b.length := by simp [incF]; omega
theorem inc_step {s : Nat} {b : List UInt8} (h : s < b.length) : (incF s b).set s ((incF s b).getD s 0 + 1) = incF (s + 1) b := by
 refine List.ext_getElem? fun j => ?_
 have h1 : ∀ j, (incF s b)[j]? = if j < s then (b[j]?).map (· + 1) else b[j]? := fun j => by
  unfold incF
  split
  ·rw [List.getElem?_append_left (by simp; omega)]; simp [*]
  ·rw [List.getElem?_append_right (by simp; omega)]; simp; congr 1; omega
 have h2 : ∀ j, (incF (s + 1) b)[j]? = if j < s + 1 then (b[j]?).map (· + 1) else b[j]? := fun j => by
  unfold incF
  split
  ·rw [List.getElem?_append_left (by simp; omega)]; simp [*]
  ·rw [List.getElem?_append_right (by simp; omega)]; simp; congr 1; omega
 rw [h2, List.getElem?_set]
 by_cases hj : s = j
 ·subst hj
  rw [if_pos rfl, if_pos (by rw [incF_len]; exact h), if_pos (by omega), List.getD_eq_getElem?_getD, h1, if_neg (by omega), List.getElem?_eq_getElem h]
  rfl
 ·rw [if_neg hj, h1]
  by_cases h3 : j < s
  ·rw [if_pos h3, if_pos (by omega)]
  ·rw [if_neg h3, if_neg (by omega)]
end Go.Vw

/- What the laws of hkdf need (plain). -/
namespace Go.Vh
def xa (a : List UInt8) (t y : UInt8) : List UInt8 := if a.length = 0 then a else a.set (t.toNat % a.length) (a.getD (t.toNat % a.length) 0 ^^^ y)
def incV (s : Nat) (b : List UInt8) : List UInt8 := Go.Vw.incF s b
theorem incV_step {s : Nat} {b : List UInt8} (h : s < b.length) : (incV s b).set s ((incV s b).getD s 0 + 1) = incV (s + 1) b := Go.Vw.inc_step h
theorem incV_0 (b : List UInt8) : b = incV 0 b := by simp [incV, Go.Vw.incF]
end Go.Vh

/- An epoch's keys (plain). -/
namespace Go.Vh
open Go Go.Vc
def shortF (b : List UInt8) : List UInt8 := if b.length ≤ 16000 then b else sha b
theorem labelF_len {k nm c : List UInt8} {n : Int} (h : ¬ (n < 0 ∨ 8160 < n ∨ 40 < nm.length ∨ 16000 < c.length)) : (labelF k nm c n).length = n.toNat := by
 rw [labelF_yes h, expandN_len (by omega) (by omega)]
def nJoiner : List UInt8 := [106, 111, 105, 110, 101, 114]
def nEpoch : List UInt8 := [101, 112, 111, 99, 104]
def nWelcome : List UInt8 := [119, 101, 108, 99, 111, 109, 101]
def nEncrypt : List UInt8 := [101, 110, 99, 114, 121, 112, 116]
def nExport : List UInt8 := [101, 120, 112, 111, 114, 116]
def nConfirm : List UInt8 := [99, 111, 110, 102, 105, 114, 109]
def nMember : List UInt8 := [109, 101, 109, 98, 101, 114]
def nInit : List UInt8 := [105, 110, 105, 116]
def nExported : List UInt8 := [101, 120, 112, 111, 114, 116, 101, 100]
def joinF (i c x : List UInt8) : List UInt8 := labelF (mac (shortF i) (shortF c)) nJoiner (shortF x) 32
def midF (j : List UInt8) : List UInt8 := mac (shortF j) (List.replicate 32 0)
def secF (j x : List UInt8) : List UInt8 := labelF (midF j) nEpoch (shortF x) 32
def epochL (j x : List UInt8) : List (List UInt8) := [labelF (midF j) nWelcome [] 32, secF j x, labelF (secF j x) nEncrypt [] 32, labelF (secF j x) nExport [] 32, labelF (secF j x) nConfirm [] 32, labelF (secF j x) nMember [] 32, labelF (secF j x) nInit [] 32]
def expF (e nm c : List UInt8) (n : Int) : List UInt8 := labelF (labelF (shortF e) nm [] 32) nExported (sha (shortF c)) n
abbrev txF (s : List UInt8) : List UInt8 := Go.Vw.textF s
def sumF (a b : List UInt8) : List UInt8 := sha (txF (shortF a) ++ txF (shortF b))
def sameE (e f : List (List UInt8)) : Prop := ∀ j, j < 7 → e.getD j [] = f.getD j []
instance (e f : List (List UInt8)) : Decidable (sameE e f) := by unfold sameE; exact inferInstance
def lgF (n b : UInt8) : List UInt8 := (List.replicate (16001 + n.toNat) 0).set 0 b
def rexpF (e nm c : List UInt8) (n : Int) : List UInt8 := if 40 < nm.length then [] else expF e nm c n
end Go.Vh

/- Messages (plain). -/
namespace Go.Vh
open Go Go.Vc
abbrev nuF (n k : Int) : List UInt8 := Go.Vw.numF n k
def whereP (g : List UInt8) (ep fr : Int) : Prop := 0 < g.length ∧ g.length ≤ 32 ∧ 0 ≤ ep ∧ ep ≤ 1099511627776 ∧ 0 ≤ fr ∧ fr < 65536
instance (g : List UInt8) (ep fr : Int) : Decidable (whereP g ep fr) := by unfold whereP; exact inferInstance
def rightP (g : List UInt8) (ep fr kd : Int) (bd : List UInt8) : Prop := whereP g ep fr ∧ 1 ≤ kd ∧ kd ≤ 5 ∧ bd.length ≤ 30000
instance (g : List UInt8) (ep fr kd : Int) (bd : List UInt8) : Decidable (rightP g ep fr kd bd) := by unfold rightP; exact inferInstance
def tagP (b : List UInt8) : Prop := b.length = 0 ∨ b.length = 32
instance (b : List UInt8) : Decidable (tagP b) := by unfold tagP; exact inferInstance
def msgP (g : List UInt8) (ep fr kd : Int) (bd sn cf mb : List UInt8) : Prop := rightP g ep fr kd bd ∧ sn.length = 3309 ∧ tagP cf ∧ tagP mb
instance (g : List UInt8) (ep fr kd : Int) (bd sn cf mb : List UInt8) : Decidable (msgP g ep fr kd bd sn cf mb) := by unfold msgP; exact inferInstance
def sealP (g : List UInt8) (ep fr gn : Int) (cl : List UInt8) : Prop := whereP g ep fr ∧ 0 ≤ gn ∧ gn ≤ 1073741824 ∧ cl.length ≤ 32800
instance (g : List UInt8) (ep fr gn : Int) (cl : List UInt8) : Decidable (sealP g ep fr gn cl) := by unfold sealP; exact inferInstance
def bodyF (g : List UInt8) (ep fr kd : Int) (bd : List UInt8) : List UInt8 := txF g ++ nuF ep 8 ++ nuF fr 4 ++ nuF kd 1 ++ txF bd
def bytesF (g : List UInt8) (ep fr kd : Int) (bd : List UInt8) : List UInt8 := if rightP g ep fr kd bd then bodyF g ep fr kd bd else []
def bytesE (g : List UInt8) (ep fr kd : Int) (bd : List UInt8) : Int := if rightP g ep fr kd bd then 0 else 181
def putF (g : List UInt8) (ep fr kd : Int) (bd sn cf mb : List UInt8) : List UInt8 := if msgP g ep fr kd bd sn cf mb then txF (bodyF g ep fr kd bd) ++ txF sn ++ txF cf ++ txF mb else []
def putE (g : List UInt8) (ep fr kd : Int) (bd sn cf mb : List UInt8) : Int := if msgP g ep fr kd bd sn cf mb then 0 else 181
def aheadB (g : List UInt8) (ep fr gn : Int) : List UInt8 := txF g ++ nuF ep 8 ++ nuF fr 4 ++ nuF gn 4
def aheadF (g : List UInt8) (ep fr gn : Int) (cl : List UInt8) : List UInt8 := if sealP g ep fr gn cl then aheadB g ep fr gn else []
def sealF (g : List UInt8) (ep fr gn : Int) (cl : List UInt8) : List UInt8 := if sealP g ep fr gn cl then aheadB g ep fr gn ++ txF cl else []
def sealE (g : List UInt8) (ep fr gn : Int) (cl : List UInt8) : Int := if sealP g ep fr gn cl then 0 else 181
def txL (l : List (List UInt8)) : List UInt8 := (l.map txF).flatten
theorem tx_len (s : List UInt8) : (txF s).length ≤ 1048580 := Go.Vw.textF_len s
abbrev gT (b : List UInt8) (p : Int) : List UInt8 × Int × Int := Go.Vw.getTextF b p
def rdT (b : List UInt8) (p e : Int) : List UInt8 × Int × Int := if e = 0 then Go.Vw.getTextF b p else ([], p, e)
def rdN (b : List UInt8) (p e k : Int) : Int × Int × Int := if e = 0 then Go.Vw.getF b p k else (0, p, e)
def endF (b : List UInt8) (p e : Int) (is : Bool) : Int := if e = 0 ∧ (p ≠ b.length ∨ is = false) then 181 else e
def rd2 (b : List UInt8) (p e : Int) : List UInt8 × Int × Int := rdT b (rdT b p e).2.1 (rdT b p e).2.2
def rd3 (b : List UInt8) (p e : Int) : List UInt8 × Int × Int := rdT b (rd2 b p e).2.1 (rd2 b p e).2.2
def rd4 (b : List UInt8) (p e : Int) : List UInt8 × Int × Int := rdT b (rd3 b p e).2.1 (rd3 b p e).2.2
def pl1 (b : List UInt8) (p e : Int) : List UInt8 × Int × Int := rdT b p e
def pl2 (b : List UInt8) (p e : Int) : Int × Int × Int := rdN b (pl1 b p e).2.1 (pl1 b p e).2.2 8
def pl3 (b : List UInt8) (p e : Int) : Int × Int × Int := rdN b (pl2 b p e).2.1 (pl2 b p e).2.2 4
def sg4 (b : List UInt8) : Int × Int × Int := rdN b (pl3 b 0 0).2.1 (pl3 b 0 0).2.2 4
def sg5 (b : List UInt8) : List UInt8 × Int × Int := rdT b (sg4 b).2.1 (sg4 b).2.2
def gsE (b : List UInt8) : Int := endF b (sg5 b).2.1 (sg5 b).2.2 (decide (sealP (pl1 b 0 0).1 (pl2 b 0 0).1 (pl3 b 0 0).1 (sg4 b).1 (sg5 b).1))
def gs1 (b : List UInt8) : List UInt8 := if gsE b = 0 then (pl1 b 0 0).1 else []
def gs2 (b : List UInt8) : Int := if gsE b = 0 then (pl2 b 0 0).1 else 0
def gs3 (b : List UInt8) : Int := if gsE b = 0 then (pl3 b 0 0).1 else 0
def gs4 (b : List UInt8) : Int := if gsE b = 0 then (sg4 b).1 else 0
def gs5 (b : List UInt8) : List UInt8 := if gsE b = 0 then (sg5 b).1 else []
def gm4 (b : List UInt8) : Int × Int × Int := rdN (rdT b 0 0).1 (pl3 (rdT b 0 0).1 0 0).2.1 (pl3 (rdT b 0 0).1 0 0).2.2 1
def gm5 (b : List UInt8) : List UInt8 × Int × Int := rdT (rdT b 0 0).1 (gm4 b).2.1 (gm4 b).2.2
def gmI (b : List UInt8) : Int := endF (rdT b 0 0).1 (gm5 b).2.1 (gm5 b).2.2 true
def gmO (b : List UInt8) : Int := endF b (rd4 b 0 0).2.1 (rd4 b 0 0).2.2 (decide (msgP ((pl1 (rdT b 0 0).1 0 0).1) ((pl2 (rdT b 0 0).1 0 0).1) ((pl3 (rdT b 0 0).1 0 0).1) ((gm4 b).1) ((gm5 b).1) ((rd2 b 0 0).1) ((rd3 b 0 0).1) ((rd4 b 0 0).1)))
def gmE (b : List UInt8) : Int := if (rd4 b 0 0).2.2 = 0 then (if gmI b = 0 then gmO b else gmI b) else (rd4 b 0 0).2.2
def gmG (b : List UInt8) : List UInt8 := if gmE b = 0 then (pl1 (rdT b 0 0).1 0 0).1 else []
def gmP (b : List UInt8) : Int := if gmE b = 0 then (pl2 (rdT b 0 0).1 0 0).1 else 0
def gmF (b : List UInt8) : Int := if gmE b = 0 then (pl3 (rdT b 0 0).1 0 0).1 else 0
def gmK (b : List UInt8) : Int := if gmE b = 0 then (gm4 b).1 else 0
def gmB (b : List UInt8) : List UInt8 := if gmE b = 0 then (gm5 b).1 else []
def gmS (b : List UInt8) : List UInt8 := if gmE b = 0 then (rd2 b 0 0).1 else []
def gmC (b : List UInt8) : List UInt8 := if gmE b = 0 then (rd3 b 0 0).1 else []
def gmM (b : List UInt8) : List UInt8 := if gmE b = 0 then (rd4 b 0 0).1 else []
end Go.Vh

/- layer 12 in plain words: closing and opening. -/
namespace Go.Vh
open Go Go.Vc Go.Vw
def nStream : List UInt8 := [115, 116, 114, 101, 97, 109]
def nTag : List UInt8 := [116, 97, 103]
def kSt (k : List UInt8) : List UInt8 := labelF k nStream [] 32
def kTg (k : List UInt8) : List UInt8 := labelF k nTag [] 32
def xorN (t s : List UInt8) : Nat → List UInt8
 | 0 => s
 | k + 1 => (xorN t s k).set k ((xorN t s k).getD k 0 ^^^ t.getD k 0)
def turnF (ks t : List UInt8) : List UInt8 := xorN t (spg 136 31 ks t.length) t.length
def markF (kt a b : List UInt8) : List UInt8 := mac kt (txF a ++ b)
def clF (k a t : List UInt8) : List UInt8 := if k.length ≠ 32 then [] else if 32768 < a.length ∨ 32768 < t.length then [] else turnF (kSt k) t ++ markF (kTg k) a (turnF (kSt k) t)
def clE (k a t : List UInt8) : Int := if k.length ≠ 32 then 1 else if 32768 < a.length ∨ 32768 < t.length then 2 else 0
def opOk (k a c : List UInt8) : Prop := 32 ≤ c.length ∧ markF (kTg k) a (c.take (c.length - 32)) = c.drop (c.length - 32)
instance (k a c : List UInt8) : Decidable (opOk k a c) := inferInstanceAs (Decidable (_ ∧ _))
def opF (k a c : List UInt8) : List UInt8 := if k.length ≠ 32 then [] else if 32768 < a.length ∨ 32800 < c.length then [] else if opOk k a c then turnF (kSt k) (c.take (c.length - 32)) else []
def opE (k a c : List UInt8) : Int := if k.length ≠ 32 then 1 else if 32768 < a.length ∨ 32800 < c.length then 2 else if opOk k a c then 0 else 121
theorem xorN_len (t s : List UInt8) (k : Nat) : (xorN t s k).length = s.length := by
 induction k with
 | zero => rfl
 | succ k ih => simp [xorN, ih]
theorem turn_len (ks t : List UInt8) : (turnF ks t).length = t.length := by unfold turnF; rw [xorN_len, spg_len]
theorem xorN_get (t s : List UInt8) (k i : Nat) (hk : k ≤ s.length) : (xorN t s k).getD i 0 = if i < k then s.getD i 0 ^^^ t.getD i 0 else s.getD i 0 := by
 induction k with
 | zero => rw [if_neg (Nat.not_lt_zero _)]; rfl
 | succ k ih =>
  have ih := ih (by omega)
  have hl := xorN_len t s k
  unfold xorN
  simp only [List.getD_eq_getElem?_getD, List.getElem?_set] at ih ⊢
  by_cases h : k = i
  ·subst h
   rw [if_pos rfl, if_pos (by omega), if_pos (by omega)]
   rw [ih, if_neg (by omega)]
   rfl
  ·rw [if_neg h, ih]
   by_cases h2 : i < k
   ·rw [if_pos h2, if_pos (by omega)]
   ·rw [if_neg h2, if_neg (by omega)]
theorem turn_get (ks t : List UInt8) {i : Nat} (h : i < t.length) : (turnF ks t).getD i 0 = (spg 136 31 ks t.length).getD i 0 ^^^ t.getD i 0 := by
 unfold turnF
 rw [xorN_get _ _ _ _ (by rw [spg_len]; exact Nat.le_refl _), if_pos h]
theorem getD_ext {a b : List UInt8} (hl : a.length = b.length) (h : ∀ i, i < a.length → a.getD i 0 = b.getD i 0) : a = b := by
 apply List.ext_getElem hl
 intro i h1 h2
 have := h i h1
 simpa [List.getD_eq_getElem?_getD, List.getElem?_eq_getElem h1, List.getElem?_eq_getElem h2] using this
theorem turn_turn (ks t : List UInt8) : turnF ks (turnF ks t) = t := by
 refine getD_ext (by rw [turn_len, turn_len]) fun i hi => ?_
 rw [turn_len, turn_len] at hi
 rw [turn_get _ _ (by rw [turn_len]; exact hi), turn_get _ _ hi, turn_len, ← UInt8.xor_assoc, UInt8.xor_self, UInt8.zero_xor]
theorem mark_len (kt a b : List UInt8) : (markF kt a b).length = 32 := mac_len _ _
theorem mac_tk (k t : List UInt8) : List.take 32 (List.drop 0 (mac k t)) = mac k t := by rw [List.drop_zero, List.take_of_length_le (by rw [mac_len]; exact Nat.le_refl _)]
theorem arr32 {a b : List UInt8} (ha : a.length = 32) (hb : b.length = 32) : (∀ j, j < 32 → (PV.toI (.u8 (a.getD j 0))).getD 0 = (PV.toI (.u8 (b.getD j 0))).getD 0) ↔ a = b := by
 constructor
 ·intro h
  refine getD_ext (by omega) fun i hi => ?_
  have h1 := h i (by omega)
  have h2 : (((a.getD i 0).toNat : Nat) : Int) = (((b.getD i 0).toNat : Nat) : Int) := h1
  exact UInt8.toNat_inj.1 (Int.ofNat.inj h2)
 ·rintro rfl j _; rfl
theorem kSt_len (k : List UInt8) : (kSt k).length = 32 := labelF_len (by simp [nStream])
theorem kTg_len (k : List UInt8) : (kTg k).length = 32 := labelF_len (by simp [nTag])
theorem cl_0 {k a t : List UInt8} : clE k a t = 0 ↔ ¬ (k.length ≠ 32 ∨ 32768 < a.length ∨ 32768 < t.length) := by
 unfold clE
 by_cases h1 : k.length ≠ 32
 ·rw [if_pos h1]; exact ⟨fun h => by omega, fun h => absurd (.inl h1) h⟩
 ·rw [if_neg h1]
  by_cases h2 : 32768 < a.length ∨ 32768 < t.length
  ·rw [if_pos h2]; exact ⟨fun h => by omega, fun h => absurd (.inr h2) h⟩
  ·rw [if_neg h2]; exact ⟨fun _ h => h.elim h1 h2, fun _ => rfl⟩
theorem cl_yes {k a t : List UInt8} (h : ¬ (k.length ≠ 32 ∨ 32768 < a.length ∨ 32768 < t.length)) : clF k a t = turnF (kSt k) t ++ markF (kTg k) a (turnF (kSt k) t) ∧ clE k a t = 0 := by
 refine ⟨?_, cl_0.2 h⟩
 unfold clF
 rw [if_neg fun e => h (.inl e), if_neg fun e => h (.inr e)]
theorem cl_len {k a t : List UInt8} (h : clE k a t = 0) : (clF k a t).length = t.length + 32 := by
 rw [(cl_yes (cl_0.1 h)).1, List.length_append, turn_len, mark_len]
theorem op_cl {k a t : List UInt8} (h : ¬ (k.length ≠ 32 ∨ 32768 < a.length ∨ 32768 < t.length)) : opF k a (clF k a t) = t ∧ opE k a (clF k a t) = 0 := by
 have hl := cl_len (cl_yes h).2
 have ht := turn_len (kSt k) t
 have e := (cl_yes h).1
 have e1 : (clF k a t).take ((clF k a t).length - 32) = turnF (kSt k) t := by rw [hl, e, Nat.add_sub_cancel, ← ht, List.take_left]
 have e2 : (clF k a t).drop ((clF k a t).length - 32) = markF (kTg k) a (turnF (kSt k) t) := by rw [hl, e, Nat.add_sub_cancel, ← ht, List.drop_left]
 have ho : opOk k a (clF k a t) := ⟨by omega, by rw [e1, e2]⟩
 have h2 : ¬ (32768 < a.length ∨ 32800 < (clF k a t).length) := by rw [hl]; omega
 refine ⟨?_, ?_⟩
 ·unfold opF
  rw [if_neg (fun e => h (.inl e)), if_neg h2, if_pos ho, e1, turn_turn]
 ·unfold opE
  rw [if_neg (fun e => h (.inl e)), if_neg h2, if_pos ho]
theorem max32 (n : Nat) : (if (n : Int) - 32 < 0 then 0 else (n : Int) - 32).toNat = n - 32 := by split <;> omega
theorem op_iff {k a c : List UInt8} (h : 32 ≤ c.length) : opOk k a c ↔ markF (kTg k) a (c.take (c.length - 32)) = c.drop (c.length - 32) := ⟨fun e => e.2, fun e => ⟨h, e⟩⟩
theorem op_arr {k a c : List UInt8} (h : 32 ≤ c.length) : (∀ j, j < 32 → (PV.toI (.u8 ((markF (kTg k) a (c.take (c.length - 32))).getD j 0))).getD 0 = (PV.toI (.u8 ((c.drop (c.length - 32)).getD j 0))).getD 0) ↔ opOk k a c :=
 (arr32 (mark_len _ _ _) (by rw [List.length_drop]; omega)).trans (op_iff h).symm
theorem op_str {k a c : List UInt8} (h : 32 ≤ c.length) : List.take 32 (List.drop 0 (markF (kTg k) a (c.take (c.length - 32)))) = List.drop (if (c.length : Int) - 32 < 0 then 0 else (c.length : Int) - 32).toNat c ↔ opOk k a c := by
 rw [op_iff h, max32]
 unfold markF
 rw [mac_tk]
theorem op_1 {k a c : List UInt8} (h : k.length ≠ 32) : opF k a c = [] ∧ opE k a c = 1 := ⟨if_pos h, if_pos h⟩
theorem op_2 {k a c : List UInt8} (h : k.length = 32) (h2 : 32768 < a.length ∨ 32800 < c.length) : opF k a c = [] ∧ opE k a c = 2 := by
 unfold opF opE; rw [if_neg (by omega), if_pos h2, if_neg (by omega), if_pos h2]; exact ⟨rfl, rfl⟩
theorem op_3 {k a c : List UInt8} (h : k.length = 32) (h2 : ¬ (32768 < a.length ∨ 32800 < c.length)) (h3 : ¬ opOk k a c) : opF k a c = [] ∧ opE k a c = 121 := by
 unfold opF opE; rw [if_neg (by omega), if_neg h2, if_neg h3, if_neg (by omega), if_neg h2, if_neg h3]; exact ⟨rfl, rfl⟩
theorem op_4 {k a c : List UInt8} (h : k.length = 32) (h2 : ¬ (32768 < a.length ∨ 32800 < c.length)) (h3 : opOk k a c) : opF k a c = turnF (kSt k) (c.take (c.length - 32)) ∧ opE k a c = 0 := by
 unfold opF opE; rw [if_neg (by omega), if_neg h2, if_pos h3, if_neg (by omega), if_neg h2, if_pos h3]; exact ⟨rfl, rfl⟩
theorem op_5 {k a c : List UInt8} (h : c.length < 32) : ¬ opOk k a c := fun e => by have := e.1; omega
theorem cl_1 {k a t : List UInt8} (h : k.length ≠ 32) : clF k a t = [] ∧ clE k a t = 1 := ⟨if_pos h, if_pos h⟩
theorem cl_2 {k a t : List UInt8} (h : k.length = 32) (h2 : 32768 < a.length ∨ 32768 < t.length) : clF k a t = [] ∧ clE k a t = 2 := by
 unfold clF clE; rw [if_neg (by omega), if_pos h2, if_neg (by omega), if_pos h2]; exact ⟨rfl, rfl⟩
end Go.Vh
namespace Go.Vh
open Go Go.Vc Go.Vw
theorem op_nil {k a : List UInt8} (hk : k.length = 32) (ha : a.length ≤ 32768) : opE k a [] = 121 := by
 unfold opE
 rw [if_neg (by omega), if_neg (by simp only [List.length_nil]; omega), if_neg fun e => by have := e.1; simp at this]
def chgF (c : List UInt8) (i : Int) (y : UInt8) : List UInt8 := c.set (i.toNat % c.length) (c.getD (i.toNat % c.length) 0 ^^^ y)
end Go.Vh
