/- What is proved: plain facts on lists of bytes and on numbers, for the laws of this seat; no condition. -/
import Derived.Test.YtdpdgejnfhjomaaDoorFrame2
set_option linter.unusedVariables false
set_option linter.unusedSimpArgs false
namespace Go.Vw
open Go Go.Vc
def fitsF (n : Int) : Bool := decide (n = 1 ∨ n = 2 ∨ n = 4 ∨ n = 8)
theorem fitsT {n : Int} (h : fitsF n = true) : n = 1 ∨ n = 2 ∨ n = 4 ∨ n = 8 := by simpa [fitsF] using h
theorem fitsN {n : Int} (h : fitsF n = false) : ¬ (n = 1 ∨ n = 2 ∨ n = 4 ∨ n = 8) := by simpa [fitsF] using h
theorem fits_t {n : Int} (h : n = 1 ∨ n = 2 ∨ n = 4 ∨ n = 8) : true = fitsF n := by simp [fitsF, h]
theorem fits_f {n : Int} (h : ¬ (n = 1 ∨ n = 2 ∨ n = 4 ∨ n = 8)) : false = fitsF n := by simp only [fitsF]; exact (decide_eq_false h).symm
def beN (l : List UInt8) : Nat := l.foldl (fun n c => n * 256 + c.toNat) 0
theorem beN_snoc (l : List UInt8) (c : UInt8) : beN (l ++ [c]) = beN l * 256 + c.toNat := by simp [beN, List.foldl_append]
theorem beN_take {l : List UInt8} {s : Nat} (h : s < l.length) : beN (l.take (s + 1)) = beN (l.take s) * 256 + (l.getD s 0).toNat := by
 rw [List.take_add_one, List.getElem?_eq_getElem h, List.getD_eq_getElem?_getD, List.getElem?_eq_getElem h]
 exact beN_snoc _ _
theorem foldl_be (l : List UInt8) (a : Nat) : l.foldl (fun n c => n * 256 + c.toNat) a = a * 256 ^ l.length + beN l := by
 induction l generalizing a with
 | nil => simp [beN]
 | cons c r ih =>
  simp only [List.foldl_cons, beN, List.length_cons]
  rw [ih, ih (0 * 256 + c.toNat)]
  rw [Nat.pow_succ, Nat.add_mul]
  simp only [Nat.zero_mul, Nat.zero_add]
  rw [Nat.mul_assoc, Nat.mul_comm 256]
  omega
theorem beN_cons (c : UInt8) (l : List UInt8) : beN (c :: l) = c.toNat * 256 ^ l.length + beN l := by
 show l.foldl _ (0 * 256 + c.toNat) = _
 rw [foldl_be]; simp
theorem beN_lt (l : List UInt8) : beN l < 256 ^ l.length := by
 induction l with
 | nil => simp [beN]
 | cons c r ih =>
  rw [beN_cons, List.length_cons, Nat.pow_succ]
  have := c.toNat_lt
  have h1 : c.toNat * 256 ^ r.length <= 255 * 256 ^ r.length := Nat.mul_le_mul_right _ (by omega)
  omega
theorem i64_eq (n : Int) : IntKind.i64.wrap n = if 9223372036854775808 <= n % 18446744073709551616 then n % 18446744073709551616 - 18446744073709551616 else n % 18446744073709551616 := by
 simp [IntKind.wrap, IntKind.bits, IntKind.signed]
theorem i64_mod (n : Int) : IntKind.i64.wrap n % 18446744073709551616 = n % 18446744073709551616 := by
 rw [i64_eq]; split <;> omega
theorem i64_congr {a b : Int} (h : a % 18446744073709551616 = b % 18446744073709551616) : IntKind.i64.wrap a = IntKind.i64.wrap b := by
 rw [i64_eq, i64_eq, h]
theorem ofInt_congr {a b : Int} (h : a % 18446744073709551616 = b % 18446744073709551616) : BitVec.ofInt 64 a = BitVec.ofInt 64 b := by
 apply BitVec.eq_of_toNat_eq
 simp only [BitVec.toNat_ofInt]
 have e : ((2 ^ 64 : Nat) : Int) = 18446744073709551616 := by decide
 rw [e, h]
theorem ofInt_nat (n : Nat) : BitVec.ofInt 64 (n : Int) = BitVec.ofNat 64 n := by simp
set_option maxRecDepth 100000 in
theorem or_byte (m c : Nat) (hc : c < 256) : BitVec.ofNat 64 (m * 256) ||| BitVec.ofNat 64 c = BitVec.ofNat 64 (m * 256 + c) := by
 apply BitVec.eq_of_toNat_eq
 simp only [BitVec.toNat_or, BitVec.toNat_ofNat, Nat.reducePow]
 have e1 : c % 18446744073709551616 = c := Nat.mod_eq_of_lt (by omega)
 have e2 : m * 256 % 18446744073709551616 = (m % 72057594037927936) <<< 8 := by simp only [Nat.shiftLeft_eq, Nat.reducePow]; omega
 have e3 : (m * 256 + c) % 18446744073709551616 = (m % 72057594037927936) <<< 8 + c := by simp only [Nat.shiftLeft_eq, Nat.reducePow]; omega
 rw [e1, e2, e3, Nat.shiftLeft_add_eq_or_of_lt (by simpa using hc)]
theorem i64_step (m : Nat) (c : UInt8) : iOr .i64 (iShl .i64 (IntKind.i64.wrap (m : Int)) 8) (c.toNat : Int) = IntKind.i64.wrap ((m * 256 + c.toNat : Nat) : Int) := by
 have hc := c.toNat_lt
 have e1 : iShl .i64 (IntKind.i64.wrap (m : Int)) 8 = IntKind.i64.wrap ((m * 256 : Nat) : Int) := by
  show IntKind.i64.wrap (IntKind.i64.wrap (m : Int) * 256) = _
  apply i64_congr
  have := i64_mod m
  omega
 rw [e1]
 show IntKind.i64.wrap ((BitVec.ofInt 64 (IntKind.i64.wrap ((m * 256 : Nat) : Int)) ||| BitVec.ofInt 64 (c.toNat : Int)).toNat : Int) = _
 rw [ofInt_congr (i64_mod _), ofInt_nat, ofInt_nat, or_byte _ _ hc]
 apply i64_congr
 simp only [BitVec.toNat_ofNat, Nat.reducePow]
 omega
def getF (b : List UInt8) (i n : Int) : Int × Int × Int :=
 if i < 0 ∨ (b.length : Int) < i ∨ ¬ (n = 1 ∨ n = 2 ∨ n = 4 ∨ n = 8) then (0, 0, 1)
 else if (b.length : Int) - i < n then (0, 0, 111)
 else if 9223372036854775808 <= beN ((b.take (i + n).toNat).drop i.toNat) then (0, 0, 112)
 else ((beN ((b.take (i + n).toNat).drop i.toNat) : Int), i + n, 0)
theorem getF_arg {b : List UInt8} {i n : Int} (h : i < 0 ∨ (b.length : Int) < i ∨ ¬ (n = 1 ∨ n = 2 ∨ n = 4 ∨ n = 8)) : getF b i n = (0, 0, 1) := if_pos h
theorem getF_end {b : List UInt8} {i n : Int} (h : 0 <= i) (h1 : i <= b.length) (h2 : n = 1 ∨ n = 2 ∨ n = 4 ∨ n = 8) (h3 : (b.length : Int) - i < n) : getF b i n = (0, 0, 111) := by
 unfold getF; rw [if_neg (by omega), if_pos h3]
theorem beN_small {l : List UInt8} {n : Nat} (h : l.length <= n) (h8 : n <= 8) : beN l < 18446744073709551616 := by
 refine Nat.lt_of_lt_of_le (beN_lt l) ?_
 exact Nat.le_trans (Nat.pow_le_pow_right (by omega) (Nat.le_trans h h8)) (by decide)
theorem cut_len {b : List UInt8} {i n : Int} (h : 0 <= i) (hn : 0 <= n) (h3 : n <= (b.length : Int) - i) : ((b.take (i + n).toNat).drop i.toNat).length = n.toNat := by
 simp; omega
theorem getF_long {b : List UInt8} {i n : Int} (h : 0 <= i) (h1 : i <= b.length) (h2 : n = 1 ∨ n = 2 ∨ n = 4 ∨ n = 8) (h3 : n <= (b.length : Int) - i) (h4 : IntKind.i64.wrap (beN ((b.take (i + n).toNat).drop i.toNat) : Int) < 0) : getF b i n = (0, 0, 112) := by
 have hs := @beN_small ((b.take (i + n).toNat).drop i.toNat) 8 (by rw [cut_len h (by omega) h3]; omega) (by omega)
 rw [i64_eq] at h4
 unfold getF; rw [if_neg (by omega), if_neg (by omega), if_pos]
 split at h4 <;> omega
theorem getF_ok {b : List UInt8} {i n : Int} (h : 0 <= i) (h1 : i <= b.length) (h2 : n = 1 ∨ n = 2 ∨ n = 4 ∨ n = 8) (h3 : n <= (b.length : Int) - i) (h4 : ¬ IntKind.i64.wrap (beN ((b.take (i + n).toNat).drop i.toNat) : Int) < 0) :
  getF b i n = (IntKind.i64.wrap (beN ((b.take (i + n).toNat).drop i.toNat) : Int), i + n, 0) := by
 have hs := @beN_small ((b.take (i + n).toNat).drop i.toNat) 8 (by rw [cut_len h (by omega) h3]; omega) (by omega)
 have e : IntKind.i64.wrap (beN ((b.take (i + n).toNat).drop i.toNat) : Int) = (beN ((b.take (i + n).toNat).drop i.toNat) : Int) := by
  rw [i64_eq] at h4 ⊢
  split at h4 <;> rename_i h5
  ·omega
  ·rw [if_neg h5]; omega
 unfold getF; rw [if_neg (by omega), if_neg (by omega), if_neg, e]
 rw [i64_eq] at h4
 split at h4 <;> omega
def numB (n : Int) (k : Nat) : List UInt8 := (List.range k).map fun j => UInt8.ofInt (n / 256 ^ (k - 1 - j))
def numF (n size : Int) : List UInt8 :=
 if ¬ (size = 1 ∨ size = 2 ∨ size = 4 ∨ size = 8) ∨ n < 0 ∨ (size < 8 /\ (256 : Int) ^ size.toNat <= n) then [] else numB n size.toNat
theorem numB_len (n : Int) (k : Nat) : (numB n k).length = k := by simp [numB]
theorem numF_len (n k : Int) : (numF n k).length <= 8 := by
 unfold numF; split
 ·simp
 ·rw [numB_len]; omega
theorem numB_get {n : Int} {k j : Nat} (h : j < k) : (numB n k)[j]? = some (UInt8.ofInt (n / 256 ^ (k - 1 - j))) := by simp [numB, h]
theorem shr_byte (n : Int) (j : Nat) (h : j <= 8) : iShr .i64 n (8 * j) = n / 256 ^ j := by
 simp only [iShr, IntKind.bits]
 rw [Nat.min_eq_left (by omega)]
 congr 1
 rw [Int.pow_mul]; rfl
theorem shl_one {k : Int} (hk : k = 1 ∨ k = 2 ∨ k = 4) : iShl .i64 1 (8 * k).toNat = (256 : Int) ^ k.toNat := by
 rcases hk with rfl | rfl | rfl <;> decide
theorem numB_step {n : Int} {k s : Nat} (h : s < k) (h8 : k <= 8) : (List.replicate (k - s) 0 ++ (numB n k).drop (k - s)).set (k - 1 - s) (UInt8.ofInt (iShr .i64 n (8 * s))) = List.replicate (k - (s + 1)) 0 ++ (numB n k).drop (k - (s + 1)) := by
 rw [shr_byte n s (by omega)]
 apply List.ext_getElem?
 intro j
 have hl := numB_len n k
 rcases Nat.lt_trichotomy j (k - 1 - s) with h1 | h1 | h1
 ·rw [List.getElem?_set_ne (by omega), List.getElem?_append_left (by simp; omega), List.getElem?_append_left (by simp; omega)]
  simp [show j < k - s by omega, show j < k - (s + 1) by omega]
 ·subst h1
  rw [List.getElem?_set_self (by simp [hl]; omega), List.getElem?_append_right (by simp; omega), List.getElem?_drop, numB_get (by simp; omega)]
  congr 4
  simp; omega
 ·rw [List.getElem?_set_ne (by omega), List.getElem?_append_right (by simp; omega), List.getElem?_append_right (by simp; omega), List.getElem?_drop, List.getElem?_drop]
  congr 1
  simp; omega
theorem numF_bad {n k : Int} (h : ¬ (k = 1 ∨ k = 2 ∨ k = 4 ∨ k = 8) ∨ n < 0) : numF n k = [] := by
 unfold numF; rw [if_pos]; omega
theorem numF_big {n k : Int} (h : k = 1 ∨ k = 2 ∨ k = 4) (h2 : iShl .i64 1 (8 * k).toNat <= n) : numF n k = [] := by
 rw [shl_one h] at h2
 unfold numF; rw [if_pos]; exact .inr (.inr ⟨by omega, h2⟩)
theorem numF_ok {n k : Int} (h : k = 1 ∨ k = 2 ∨ k = 4 ∨ k = 8) (h1 : 0 <= n) (h2 : ¬ (k < 8 /\ iShl .i64 1 (8 * k).toNat <= n)) : numF n k = numB n k.toNat := by
 unfold numF; rw [if_neg]
 rintro (h3 | h3 | ⟨h3, h4⟩)
 ·exact h3 h
 ·omega
 ·refine h2 ⟨h3, ?_⟩
  rw [shl_one (by omega)]; exact h4
theorem num_step {n k : Int} {s : Nat} (h : s < k.toNat) (h8 : k <= 8) : (List.replicate (k.toNat - s) 0 ++ (numB n k.toNat).drop (k.toNat - s)).set (k - 1 - (s : Int)).toNat (UInt8.ofInt (iShr .i64 n (8 * (s : Int)).toNat)) = List.replicate (k.toNat - (s + 1)) 0 ++ (numB n k.toNat).drop (k.toNat - (s + 1)) := by
 rw [show (k - 1 - (s : Int)).toNat = k.toNat - 1 - s from by omega, show (8 * (s : Int)).toNat = 8 * s from by omega]
 exact numB_step h (by omega)
theorem num_fin {n k : Int} {s : Nat} (h : s = k.toNat) : List.replicate (k.toNat - s) (0 : UInt8) ++ (numB n k.toNat).drop (k.toNat - s) = numB n k.toNat := by
 subst h; simp
theorem shl_tbl {k : Int} (h0 : 0 <= k) (h : k < 3) : 64 <= iShl .i64 1 (([6, 14, 30] : List Int).getD k.toNat 0).toNat /\ iShl .i64 1 (([6, 14, 30] : List Int).getD k.toNat 0).toNat <= 1073741824 := by
 obtain rfl | rfl | rfl : k = 0 ∨ k = 1 ∨ k = 2 := by omega
 all_goals decide
theorem tbl_nn (k : Int) : 0 <= ([6, 14, 30] : List Int).getD k.toNat 0 := by
 match k.toNat with
 | 0 => decide
 | 1 => decide
 | 2 => decide
 | n + 3 => simp
theorem shl_cls {k : Int} (h0 : 0 <= k) (h : k < 3) : iShl .i64 1 k.toNat = 1 ∨ iShl .i64 1 k.toNat = 2 ∨ iShl .i64 1 k.toNat = 4 := by
 obtain rfl | rfl | rfl : k = 0 ∨ k = 1 ∨ k = 2 := by omega
 all_goals decide
theorem shr6 (c : UInt8) : ((u8Shr c 6).toNat : Int) = (c.toNat : Int) / 64 := by
 have := c.toNat_lt
 simp only [u8Shr, UInt8.toNat_ofNat']
 omega
theorem shr6_le (c : UInt8) : (u8Shr c 6).toNat <= 3 := by
 have := c.toNat_lt
 have := shr6 c
 omega
theorem iAnd_bound (a : Int) {m : Int} (h0 : 0 <= m) (h1 : m <= 9223372036854775807) : 0 <= iAnd .i64 a m /\ iAnd .i64 a m <= m := by
 have hle : (BitVec.ofInt 64 a &&& BitVec.ofInt 64 m).toNat <= m.toNat := by
  rw [BitVec.toNat_and]
  refine Nat.le_trans Nat.and_le_right ?_
  simp only [BitVec.toNat_ofInt]
  have e : ((2 ^ 64 : Nat) : Int) = 18446744073709551616 := by decide
  rw [e, Int.emod_eq_of_lt h0 (by omega)]
  omega
 have e : iAnd .i64 a m = ((BitVec.ofInt 64 a &&& BitVec.ofInt 64 m).toNat : Int) := by
  show IntKind.i64.wrap ((BitVec.ofInt 64 a &&& BitVec.ofInt 64 m).toNat : Int) = _
  exact wrap_i64 (by omega) (by omega)
 rw [e]; omega
def lenF (n : Int) : List UInt8 :=
 if n < 64 then [UInt8.ofInt n] else if n < 16384 then [UInt8.ofInt (n / 256 + 64), UInt8.ofInt n]
 else [UInt8.ofInt (n / 16777216 + 128), UInt8.ofInt (n / 65536), UInt8.ofInt (n / 256), UInt8.ofInt n]
theorem lenF_len (n : Int) : (lenF n).length = if n < 64 then 1 else if n < 16384 then 2 else 4 := by
 unfold lenF; split
 ·rfl
 ·split <;> rfl
theorem lenF_le (n : Int) : (lenF n).length <= 4 := by rw [lenF_len]; split <;> (try split) <;> omega
theorem u8_congr {a b : Int} (h : a % 256 = b % 256) : UInt8.ofInt a = UInt8.ofInt b := by
 apply UInt8.toNat_inj.1
 have e : ∀ n : Int, ((UInt8.ofInt n).toNat : Int) = n % 256 := by
  intro n
  simp only [UInt8.ofInt, UInt8.toNat_ofNat']
  omega
 have h1 := e a
 have h2 := e b
 omega
theorem u8_toNat (n : Int) : ((UInt8.ofInt n).toNat : Int) = n % 256 := by
 simp only [UInt8.ofInt, UInt8.toNat_ofNat']
 omega
theorem u8_add (a : Int) (c : Nat) : UInt8.ofInt a + UInt8.ofNat c = UInt8.ofInt (a + c) := by
 apply UInt8.toNat_inj.1
 rw [UInt8.toNat_add]
 have h1 := u8_toNat a
 have h2 := u8_toNat (a + c)
 simp only [UInt8.toNat_ofNat']
 omega
theorem iOr_add {a b : Int} {i : Nat} (h0 : 0 <= a) (h1 : a < 2 ^ i) (hb : 0 <= b) (h2 : a + b * 2 ^ i <= 9223372036854775807) : iOr .i64 a (b * 2 ^ i) = a + b * 2 ^ i := by
 obtain ⟨m, rfl⟩ := Int.eq_ofNat_of_zero_le h0
 obtain ⟨q, rfl⟩ := Int.eq_ofNat_of_zero_le hb
 have e0 : (q : Int) * 2 ^ i = ((q * 2 ^ i : Nat) : Int) := by push_cast; rfl
 rw [e0] at h2 ⊢
 have hm : m < 2 ^ i := by
  have : ((2 : Int) ^ i) = ((2 ^ i : Nat) : Int) := by push_cast; rfl
  rw [this] at h1; omega
 have e1 : (BitVec.ofInt 64 (m : Int) ||| BitVec.ofInt 64 ((q * 2 ^ i : Nat) : Int)).toNat = m + q * 2 ^ i := by
  rw [ofInt_nat, ofInt_nat, BitVec.toNat_or]
  simp only [BitVec.toNat_ofNat, Nat.reducePow]
  rw [Nat.mod_eq_of_lt (by omega), Nat.mod_eq_of_lt (by omega), Nat.or_comm, <- Nat.shiftLeft_eq, <- Nat.shiftLeft_add_eq_or_of_lt hm]
  omega
 show IntKind.i64.wrap ((BitVec.ofInt 64 (m : Int) ||| BitVec.ofInt 64 ((q * 2 ^ i : Nat) : Int)).toNat : Int) = _
 rw [e1, wrap_i64 (by omega) (by omega)]
 push_cast; rfl
theorem numB1 (n : Int) : numB n 1 = [UInt8.ofInt n] := by simp [numB, List.range_succ]
theorem numB2 (n : Int) : numB n 2 = [UInt8.ofInt (n / 256), UInt8.ofInt n] := by simp [numB, List.range_succ]
theorem numB4 (n : Int) : numB n 4 = [UInt8.ofInt (n / 16777216), UInt8.ofInt (n / 65536), UInt8.ofInt (n / 256), UInt8.ofInt n] := by simp [numB, List.range_succ]
theorem lenP {n s : Int} (h0 : 0 <= n) (hn : n < 1073741824) (hs : 0 <= s) (hs2 : s <= 2) (h1 : 0 < s -> 64 <= n) (h2 : 1 < s -> 16384 <= n) (h3 : n < iShl .i64 1 (([6, 14, 30] : List Int).getD s.toNat 0).toNat) :
  numF (iOr .i64 n (iShl .i64 s (([6, 14, 30] : List Int).getD s.toNat 0).toNat)) (iShl .i64 1 s.toNat) = lenF n := by
 obtain rfl | rfl | rfl : s = 0 ∨ s = 1 ∨ s = 2 := by omega
 ·have e : iShl .i64 1 (([6, 14, 30] : List Int).getD (0 : Int).toNat 0).toNat = 64 := by decide
  rw [e] at h3
  have e2 : iShl .i64 0 (([6, 14, 30] : List Int).getD (0 : Int).toNat 0).toNat = 0 * 2 ^ 6 := by decide
  have e3 : iShl .i64 1 (0 : Int).toNat = 1 := by decide
  have e4 : iShl .i64 1 (8 * (1 : Int)).toNat = 256 := by decide
  rw [e2, e3, iOr_add h0 (by omega) (by omega) (by omega), numF_ok (by omega) (by omega) (by rw [e4]; omega)]
  unfold lenF
  rw [if_pos h3, show (1 : Int).toNat = 1 from rfl, numB1]
  simp
 ·have e : iShl .i64 1 (([6, 14, 30] : List Int).getD (1 : Int).toNat 0).toNat = 16384 := by decide
  rw [e] at h3
  have e2 : iShl .i64 1 (([6, 14, 30] : List Int).getD (1 : Int).toNat 0).toNat = 1 * 2 ^ 14 := by decide
  have e3 : iShl .i64 1 (1 : Int).toNat = 2 := by decide
  have e4 : iShl .i64 1 (8 * (2 : Int)).toNat = 65536 := by decide
  have h4 := h1 (by omega)
  rw [e2, e3, iOr_add h0 (by omega) (by omega) (by omega), numF_ok (by omega) (by omega) (by rw [e4]; omega)]
  unfold lenF
  rw [if_neg (by omega), if_pos h3, show (2 : Int).toNat = 2 from rfl, numB2]
  rw [u8_congr (a := (n + 1 * 2 ^ 14) / 256) (b := n / 256 + 64) (by omega), u8_congr (a := n + 1 * 2 ^ 14) (b := n) (by omega)]
 ·have e2 : iShl .i64 2 (([6, 14, 30] : List Int).getD (2 : Int).toNat 0).toNat = 2 * 2 ^ 30 := by decide
  have e3 : iShl .i64 1 (2 : Int).toNat = 4 := by decide
  have e4 : iShl .i64 1 (8 * (4 : Int)).toNat = 4294967296 := by decide
  have h4 := h2 (by omega)
  rw [e2, e3, iOr_add h0 (by omega) (by omega) (by omega), numF_ok (by omega) (by omega) (by rw [e4]; omega)]
  unfold lenF
  rw [if_neg (by omega), if_neg (by omega), show (4 : Int).toNat = 4 from rfl, numB4]
  rw [u8_congr (a := (n + 2 * 2 ^ 30) / 16777216) (b := n / 16777216 + 128) (by omega), u8_congr (a := (n + 2 * 2 ^ 30) / 65536) (b := n / 65536) (by omega), u8_congr (a := (n + 2 * 2 ^ 30) / 256) (b := n / 256) (by omega),
   u8_congr (a := n + 2 * 2 ^ 30) (b := n) (by omega)]
theorem shl_v (s : Int) : (s = 0 -> iShl .i64 1 (([6, 14, 30] : List Int).getD s.toNat 0).toNat = 64) /\ (s = 1 -> iShl .i64 1 (([6, 14, 30] : List Int).getD s.toNat 0).toNat = 16384) /\ (s = 2 -> iShl .i64 1 (([6, 14, 30] : List Int).getD s.toNat 0).toNat = 1073741824) := by
 refine ⟨?_, ?_, ?_⟩ <;> rintro rfl <;> decide
def spanN (b : List UInt8) (k n from' e : Int) : Int × Int × Int :=
 if e ≠ 0 then (0, 0, e) else if 0 < k /\ n < iShl .i64 1 (([6, 14, 30] : List Int).getD (k - 1).toNat 0).toNat then (0, 0, 112) else if 1048576 < n then (0, 0, 2)
 else if (b.length : Int) - from' < n then (0, 0, 111) else (from', from' + n, 0)
def spanK (b : List UInt8) (i k : Int) : Int × Int × Int :=
 if k = 3 then (0, 0, 112) else
 spanN b k (iAnd .i64 (getF b i (iShl .i64 1 k.toNat)).1 (iShl .i64 1 (([6, 14, 30] : List Int).getD k.toNat 0).toNat - 1)) (getF b i (iShl .i64 1 k.toNat)).2.1 (getF b i (iShl .i64 1 k.toNat)).2.2
def spanF (b : List UInt8) (i : Int) : Int × Int × Int :=
 if i < 0 ∨ (b.length : Int) < i then (0, 0, 1) else if i = b.length then (0, 0, 111) else spanK b i ((u8Shr (b.getD i.toNat 0) 6).toNat : Int)
theorem getF_from (b : List UInt8) (i n : Int) : 0 <= (getF b i n).2.1 /\ (getF b i n).2.1 <= b.length /\ ((getF b i n).2.2 = 0 -> (getF b i n).2.1 = i + n /\ 0 <= i /\ 1 <= n) := by
 unfold getF
 split
 ·simp <;> omega
 ·split
  ·simp <;> omega
  ·split
   ·simp <;> omega
   ·simp <;> omega
theorem spanF_ok (b : List UInt8) (i : Int) (h : (spanF b i).2.2 = 0) : 0 <= i /\ i < (spanF b i).1 /\ (spanF b i).1 <= (spanF b i).2.1 /\ (spanF b i).2.1 <= b.length /\ (spanF b i).2.1 - (spanF b i).1 <= 1048576 := by
 unfold spanF at h ⊢
 split at h
 ·simp at h
 rename_i h1
 rw [if_neg h1]
 split at h
 ·simp at h
 rename_i h2
 rw [if_neg h2]
 unfold spanK at h ⊢
 split at h
 ·simp at h
 rename_i h3
 rw [if_neg h3]
 have hk := shr6_le (b.getD i.toNat 0)
 have hk0 : (0 : Int) <= ((u8Shr (b.getD i.toNat 0) 6).toNat : Int) := by omega
 have hk3 : ((u8Shr (b.getD i.toNat 0) 6).toNat : Int) < 3 := by omega
 have h14 := shl_tbl hk0 hk3
 generalize ((u8Shr (b.getD i.toNat 0) 6).toNat : Int) = k at *
 have hg := getF_from b i (iShl .i64 1 k.toNat)
 have ha := iAnd_bound (getF b i (iShl .i64 1 k.toNat)).1 (m := iShl .i64 1 (([6, 14, 30] : List Int).getD k.toNat 0).toNat - 1) (by omega) (by omega)
 have hc := shl_cls hk0 hk3
 generalize iAnd .i64 (getF b i (iShl .i64 1 k.toNat)).1 (iShl .i64 1 (([6, 14, 30] : List Int).getD k.toNat 0).toNat - 1) = n at *
 unfold spanN at h ⊢
 split at h
 ·rename_i h4; exact absurd h h4
 rename_i h4
 rw [if_neg h4]
 split at h
 ·simp at h
 rename_i h5
 rw [if_neg h5]
 split at h
 ·simp at h
 rename_i h6
 rw [if_neg h6]
 split at h
 ·simp at h
 rename_i h7
 rw [if_neg h7]
 have h8 := hg.2.2 (by omega)
 show 0 <= i /\ i < (getF b i (iShl .i64 1 k.toNat)).2.1 /\ _ <= _ + n /\ _ + n <= _ /\ _ + n - _ <= _
 omega
def textF (s : List UInt8) : List UInt8 := if 1048576 < s.length then [] else lenF s.length ++ s
def textE (s : List UInt8) : Int := if 1048576 < s.length then 2 else 0
def getTextF (b : List UInt8) (i : Int) : List UInt8 × Int × Int :=
 if (spanF b i).2.2 ≠ 0 then ([], 0, (spanF b i).2.2) else ((b.take (spanF b i).2.1.toNat).drop (spanF b i).1.toNat, (spanF b i).2.1, 0)
theorem getTextF_ok (b : List UInt8) (i : Int) (h : (getTextF b i).2.2 = 0) : 0 <= i /\ i < (getTextF b i).2.1 /\ (getTextF b i).2.1 <= b.length := by
 unfold getTextF at h ⊢
 split at h
 ·rename_i h1; exact absurd h h1
 ·rename_i h1
  have := spanF_ok b i (by omega)
  rw [if_neg h1]
  simp only
  omega
theorem getTextF_len (b : List UInt8) (i : Int) : (getTextF b i).1.length <= 1048576 := by
 unfold getTextF
 split
 ·simp
 ·rename_i h1
  have := spanF_ok b i (by omega)
  simp; omega
theorem textF_len (s : List UInt8) : (textF s).length <= 1048580 := by
 unfold textF; split
 ·simp
 ·have := lenF_le s.length
  simp; omega
def catT (l : List (List UInt8)) : List UInt8 := l.flatMap textF
def okT (l : List (List UInt8)) : Prop := (∀ s, s ∈ l -> s.length <= 1048576) /\ (catT l).length <= 1048576
instance (l : List (List UInt8)) : Decidable (okT l) := inferInstanceAs (Decidable (_ /\ _))
theorem textE_eq {s : List UInt8} (h : textE s = 0) : s.length <= 1048576 := by
 unfold textE at h; split at h
 ·simp at h
 ·omega
theorem take_full (l m : List UInt8) (n k : Nat) (hn : l.length <= n) (hk : m.length <= k) : (l.drop 0).take n ++ (m.drop 0).take k = l ++ m := by
 simp [List.take_of_length_le hn, List.take_of_length_le hk]
set_option maxRecDepth 100000 in
theorem u64_step (m : Nat) (c : UInt8) : u64Shl (UInt64.ofNat m) 8 ||| c.toUInt64 = UInt64.ofNat (m * 256 + c.toNat) := by
 apply UInt64.toNat_inj.1
 have hc := c.toNat_lt
 have h := congrArg BitVec.toNat (or_byte m c.toNat hc)
 simp only [BitVec.toNat_or, BitVec.toNat_ofNat, Nat.reducePow] at h
 simp only [UInt64.toNat_or, u64Shl, UInt64.toNat_ofNat', UInt8.toNat_toUInt64, Nat.reducePow] at h ⊢
 rw [<- h]
 congr 1
 ·omega
 ·omega
theorem cut_get {b : List UInt8} {i n : Int} {s : Nat} (h0 : 0 <= i) (hs : (s : Int) < n) (h : n <= (b.length : Int) - i) : b.getD (i + (s : Int)).toNat 0 = ((b.take (i + n).toNat).drop i.toNat).getD s 0 := by
 simp only [List.getD_eq_getElem?_getD, List.getElem?_drop]
 rw [List.getElem?_take_of_lt (by omega), show (i + (s : Int)).toNat = i.toNat + s from by omega]
theorem getF_longU {b : List UInt8} {i n : Int} (h : 0 <= i) (h1 : i <= b.length) (h2 : n = 1 ∨ n = 2 ∨ n = 4 ∨ n = 8) (h3 : n <= (b.length : Int) - i) (h4 : 9223372036854775807 < (UInt64.ofNat (beN ((b.take (i + n).toNat).drop i.toNat))).toNat) : getF b i n = (0, 0, 112) := by
 have hs := @beN_small ((b.take (i + n).toNat).drop i.toNat) 8 (by rw [cut_len h (by omega) h3]; omega) (by omega)
 rw [UInt64.toNat_ofNat', Nat.mod_eq_of_lt (by simpa using hs)] at h4
 unfold getF; rw [if_neg (by omega), if_neg (by omega), if_pos (by omega)]
theorem getF_okU {b : List UInt8} {i n : Int} (h : 0 <= i) (h1 : i <= b.length) (h2 : n = 1 ∨ n = 2 ∨ n = 4 ∨ n = 8) (h3 : n <= (b.length : Int) - i) (h4 : ¬ 9223372036854775807 < (UInt64.ofNat (beN ((b.take (i + n).toNat).drop i.toNat))).toNat) :
  getF b i n = (IntKind.i64.wrap ((UInt64.ofNat (beN ((b.take (i + n).toNat).drop i.toNat))).toNat : Int), i + n, 0) := by
 have hs := @beN_small ((b.take (i + n).toNat).drop i.toNat) 8 (by rw [cut_len h (by omega) h3]; omega) (by omega)
 have e2 : (UInt64.ofNat (beN ((b.take (i + n).toNat).drop i.toNat))).toNat = beN ((b.take (i + n).toNat).drop i.toNat) := by rw [UInt64.toNat_ofNat', Nat.mod_eq_of_lt (by simpa using hs)]
 rw [e2] at h4
 rw [e2, wrap_i64 (by omega) (by omega)]
 unfold getF; rw [if_neg (by omega), if_neg (by omega), if_neg (by omega)]
theorem iAnd_mask {a : Int} {m : Nat} (h0 : 0 <= a) (h1 : a <= 9223372036854775807) (hm : m <= 62) : iAnd .i64 a ((2 : Int) ^ m - 1) = a % 2 ^ m := by
 obtain ⟨q, rfl⟩ := Int.eq_ofNat_of_zero_le h0
 have hp : 0 < 2 ^ m := Nat.two_pow_pos m
 have e1 : (2 : Int) ^ m - 1 = ((2 ^ m - 1 : Nat) : Int) := by
  have : ((2 : Int) ^ m) = ((2 ^ m : Nat) : Int) := by push_cast; rfl
  omega
 have hb : 2 ^ m <= 2 ^ 62 := Nat.pow_le_pow_right (by omega) hm
 have e2 : (BitVec.ofInt 64 (q : Int) &&& BitVec.ofInt 64 ((2 ^ m - 1 : Nat) : Int)).toNat = q % 2 ^ m := by
  rw [ofInt_nat, ofInt_nat, BitVec.toNat_and]
  simp only [BitVec.toNat_ofNat]
  rw [Nat.mod_eq_of_lt (show q < 2 ^ 64 by omega), Nat.mod_eq_of_lt (show 2 ^ m - 1 < 2 ^ 64 by omega), Nat.and_two_pow_sub_one_eq_mod]
 rw [e1]
 show IntKind.i64.wrap ((BitVec.ofInt 64 (q : Int) &&& BitVec.ofInt 64 ((2 ^ m - 1 : Nat) : Int)).toNat : Int) = _
 rw [e2]
 have := Nat.mod_lt q hp
 rw [wrap_i64 (by omega) (by omega)]
 push_cast; rfl
def hdF (b : List UInt8) (i : Int) : Int × Int × Int := ((spanF b i).2.1 - (spanF b i).1, (spanF b i).1, (spanF b i).2.2)
def szOf (c : UInt8) : Int := if 128 <= c.toNat then 4 else if 64 <= c.toNat then 2 else 1
def lenN (b : List UInt8) (i : Int) (s : Nat) : Nat := (b.getD i.toNat 0).toNat % 64 * 256 ^ (s - 1) + beN ((b.drop (i.toNat + 1)).take (s - 1))
theorem lenN_step {b : List UInt8} {i : Int} {s : Nat} (h0 : 0 <= i) (h1 : 1 <= s) (h : i + s < b.length) : lenN b i (s + 1) = lenN b i s * 256 + (b.getD (i + (s : Int)).toNat 0).toNat := by
 unfold lenN
 obtain ⟨r, rfl⟩ : ∃ r, s = r + 1 := ⟨s - 1, by omega⟩
 simp only [Nat.add_sub_cancel]
 rw [beN_take (by simp; omega), Nat.pow_succ]
 have e : (b.drop (i.toNat + 1)).getD r 0 = b.getD (i + ((r + 1 : Nat) : Int)).toNat 0 := by
  simp only [List.getD_eq_getElem?_getD, List.getElem?_drop]
  rw [show (i + ((r + 1 : Nat) : Int)).toNat = i.toNat + 1 + r from by omega]
 rw [e]
 generalize (b.getD i.toNat 0).toNat % 64 = x
 generalize 256 ^ r = y
 rw [<- Nat.mul_assoc]
 omega
theorem lenN_one (b : List UInt8) (i : Int) : lenN b i 1 = (b.getD i.toNat 0).toNat % 64 := by simp [lenN, beN]
theorem lenN_lt {b : List UInt8} {i : Int} {s : Nat} (h1 : 1 <= s) : lenN b i s < 64 * 256 ^ (s - 1) := by
 unfold lenN
 have h2 := beN_lt ((b.drop (i.toNat + 1)).take (s - 1))
 have h3 : 256 ^ ((b.drop (i.toNat + 1)).take (s - 1)).length <= 256 ^ (s - 1) := Nat.pow_le_pow_right (by omega) (by simp; omega)
 have h4 := Nat.mod_lt (b.getD i.toNat 0).toNat (show 0 < 64 by omega)
 have h5 : (b.getD i.toNat 0).toNat % 64 * 256 ^ (s - 1) <= 63 * 256 ^ (s - 1) := Nat.mul_le_mul_right _ (by omega)
 omega
theorem cut_be {b : List UInt8} {i : Int} {s : Nat} (h0 : 0 <= i) (h1 : 1 <= s) (h : i + s <= b.length) : beN ((b.take (i + (s : Int)).toNat).drop i.toNat) = (b.getD i.toNat 0).toNat * 256 ^ (s - 1) + beN ((b.drop (i.toNat + 1)).take (s - 1)) := by
 have hi : i.toNat < b.length := by omega
 have e : (b.take (i + (s : Int)).toNat).drop i.toNat = b.getD i.toNat 0 :: (b.drop (i.toNat + 1)).take (s - 1) := by
  rw [show (i + (s : Int)).toNat = i.toNat + s from by omega, List.drop_take, show i.toNat + s - i.toNat = (s - 1) + 1 from by omega, List.drop_eq_getElem_cons hi, List.take_succ_cons]
  simp [List.getD_eq_getElem?_getD, List.getElem?_eq_getElem hi]
 rw [e, beN_cons]
 congr 2
 congr 1
 simp; omega
theorem getF_small {b : List UInt8} {i n : Int} (h : 0 <= i) (h2 : n = 1 ∨ n = 2 ∨ n = 4) (h3 : i + n <= b.length) : getF b i n = ((beN ((b.take (i + n).toNat).drop i.toNat) : Int), i + n, 0) := by
 have hs : beN ((b.take (i + n).toNat).drop i.toNat) < 256 ^ 4 := by
  refine Nat.lt_of_lt_of_le (beN_lt _) (Nat.pow_le_pow_right (by omega) ?_)
  rw [cut_len h (by omega) (by omega)]; omega
 unfold getF; rw [if_neg (by omega), if_neg (by omega), if_neg (by omega)]
theorem span_val {b : List UInt8} {i : Int} {k : Nat} (h0 : 0 <= i) (hk : k < 3) (hc : (b.getD i.toNat 0).toNat / 64 = k) (h : i + ((2 ^ k : Nat) : Int) <= b.length) :
  spanF b i = spanN b (k : Int) (lenN b i (2 ^ k) : Int) (i + ((2 ^ k : Nat) : Int)) 0 := by
 have hcu := cut_be (b := b) (i := i) (s := 2 ^ k) h0 Nat.one_le_two_pow h
 have hs6 := shr6 (b.getD i.toNat 0)
 have hrest := beN_lt ((b.drop (i.toNat + 1)).take (2 ^ k - 1))
 have hrl : 256 ^ ((b.drop (i.toNat + 1)).take (2 ^ k - 1)).length <= 256 ^ (2 ^ k - 1) := Nat.pow_le_pow_right (by omega) (by simp; omega)
 have hc8 := (b.getD i.toNat 0).toNat_lt
 have hk1 := Nat.one_le_two_pow (n := k)
 unfold spanF
 rw [if_neg (by omega), if_neg (by omega), hs6, show ((b.getD i.toNat 0).toNat : Int) / 64 = (k : Int) from by omega]
 unfold spanK lenN
 rw [if_neg (by omega)]
 generalize beN ((b.drop (i.toNat + 1)).take (2 ^ k - 1)) = r at *
 generalize (b.getD i.toNat 0).toNat = c at *
 obtain rfl | rfl | rfl : k = 0 ∨ k = 1 ∨ k = 2 := by omega
 ·have e1 : iShl .i64 1 ((0 : Nat) : Int).toNat = 1 := by decide
  have e2 : iShl .i64 1 (([6, 14, 30] : List Int).getD ((0 : Nat) : Int).toNat 0).toNat - 1 = (2 : Int) ^ 6 - 1 := by decide
  rw [e1, e2, getF_small h0 (by omega) (by simpa using h)]
  simp only [Nat.pow_zero, Nat.sub_self, Nat.mul_one, Int.natCast_one] at hcu hrest hrl ⊢
  rw [hcu, iAnd_mask (by omega) (by omega) (by omega)]
  congr 1; omega
 ·have e1 : iShl .i64 1 ((1 : Nat) : Int).toNat = 2 := by decide
  have e2 : iShl .i64 1 (([6, 14, 30] : List Int).getD ((1 : Nat) : Int).toNat 0).toNat - 1 = (2 : Int) ^ 14 - 1 := by decide
  rw [e1, e2, getF_small h0 (by omega) (by simpa using h)]
  have e3 : ((2 ^ 1 : Nat) : Int) = 2 := rfl
  simp only [e3, Nat.pow_one, Nat.reduceSub, Nat.reducePow] at hcu hrest hrl ⊢
  rw [hcu, iAnd_mask (by omega) (by omega) (by omega)]
  congr 1; omega
 ·have e1 : iShl .i64 1 ((2 : Nat) : Int).toNat = 4 := by decide
  have e2 : iShl .i64 1 (([6, 14, 30] : List Int).getD ((2 : Nat) : Int).toNat 0).toNat - 1 = (2 : Int) ^ 30 - 1 := by decide
  rw [e1, e2, getF_small h0 (by omega) (by simpa using h)]
  have e3 : ((2 ^ 2 : Nat) : Int) = 4 := rfl
  simp only [e3, Nat.reduceSub, Nat.reducePow] at hcu hrest hrl ⊢
  rw [hcu, iAnd_mask (by omega) (by omega) (by omega)]
  congr 1; omega
theorem sz_k (c : UInt8) (h : c.toNat < 192) : ∃ k : Nat, k < 3 /\ c.toNat / 64 = k /\ szOf c = ((2 ^ k : Nat) : Int) := by
 unfold szOf
 refine ⟨c.toNat / 64, by omega, rfl, ?_⟩
 have h1 : c.toNat / 64 = 0 ∨ c.toNat / 64 = 1 ∨ c.toNat / 64 = 2 := by omega
 rcases h1 with h1 | h1 | h1 <;> rw [h1]
 ·rw [if_neg (by omega), if_neg (by omega)]; rfl
 ·rw [if_neg (by omega), if_pos (by omega)]; rfl
 ·rw [if_pos (by omega)]; rfl
theorem hd_arg {b : List UInt8} {i : Int} (h : i < 0 ∨ (b.length : Int) < i) : hdF b i = (0, 0, 1) := by unfold hdF spanF; rw [if_pos h]; rfl
theorem hd_end {b : List UInt8} {i : Int} (h : i = b.length) : hdF b i = (0, 0, 111) := by unfold hdF spanF; rw [if_neg (by omega), if_pos h]; rfl
theorem hd_192 {b : List UInt8} {i : Int} (h0 : 0 <= i) (h1 : i < b.length) (h : 192 <= (b.getD i.toNat 0).toNat) : hdF b i = (0, 0, 112) := by
 have hs6 := shr6 (b.getD i.toNat 0)
 have := (b.getD i.toNat 0).toNat_lt
 unfold hdF spanF
 rw [if_neg (by omega), if_neg (by omega)]
 unfold spanK
 rw [if_pos (by omega)]; rfl
theorem hd_short {b : List UInt8} {i : Int} (h0 : 0 <= i) (h1 : i < b.length) (h : (b.getD i.toNat 0).toNat < 192) (h2 : (b.length : Int) - i < szOf (b.getD i.toNat 0)) : hdF b i = (0, 0, 111) := by
 obtain ⟨k, hk, hc, hz⟩ := sz_k _ h
 have hs6 := shr6 (b.getD i.toNat 0)
 rw [hz] at h2
 have hg : getF b i ((2 ^ k : Nat) : Int) = (0, 0, 111) := getF_end h0 (by omega) (by
  obtain rfl | rfl | rfl : k = 0 ∨ k = 1 ∨ k = 2 := by omega
  all_goals decide) h2
 have e : iShl .i64 1 (k : Int).toNat = ((2 ^ k : Nat) : Int) := by
  obtain rfl | rfl | rfl : k = 0 ∨ k = 1 ∨ k = 2 := by omega
  all_goals decide
 unfold hdF spanF
 rw [if_neg (by omega), if_neg (by omega), show ((u8Shr (b.getD i.toNat 0) 6).toNat : Int) = (k : Int) from by omega]
 unfold spanK
 rw [if_neg (by omega), e, hg]
 rfl
theorem hd_val {b : List UInt8} {i : Int} {s : Nat} (h0 : 0 <= i) (h : (b.getD i.toNat 0).toNat < 192) (hs : (s : Int) = szOf (b.getD i.toNat 0)) (h2 : i + s <= b.length) :
  ((((lenF (lenN b i s)).length : Int) ≠ s -> hdF b i = (0, 0, 112)) /\ (((lenF (lenN b i s)).length : Int) = s -> 1048576 < lenN b i s -> hdF b i = (0, 0, 2)) /\
  (((lenF (lenN b i s)).length : Int) = s -> lenN b i s <= 1048576 -> (b.length : Int) - i - s < lenN b i s -> hdF b i = (0, 0, 111)) /\
  (((lenF (lenN b i s)).length : Int) = s -> lenN b i s <= 1048576 -> lenN b i s <= (b.length : Int) - i - s -> hdF b i = ((lenN b i s : Int), i + s, 0))) := by
 obtain ⟨k, hk, hc, hz⟩ := sz_k _ h
 have hsk : s = 2 ^ k := by omega
 subst hsk
 have hlt := lenN_lt (b := b) (i := i) (s := 2 ^ k) Nat.one_le_two_pow
 have hv := span_val h0 hk hc h2
 unfold hdF
 rw [hv]
 generalize lenN b i (2 ^ k) = n at *
 have hl := lenF_len (n : Int)
 unfold spanN
 simp only [ne_eq, not_true_eq_false, if_false]
 obtain rfl | rfl | rfl : k = 0 ∨ k = 1 ∨ k = 2 := by omega
 ·simp only [Nat.pow_zero, Nat.sub_self, Nat.mul_one] at hlt
  rw [if_pos (by omega)] at hl
  rw [hl]
  refine ⟨fun h => absurd rfl h, fun _ h => by omega, fun _ _ h => ?_, fun _ _ h => ?_⟩
  ·rw [if_neg (by omega), if_neg (by omega), if_pos (by omega)]; rfl
  ·rw [if_neg (by omega), if_neg (by omega), if_neg (by omega)]; simp; omega
 ·have e : iShl .i64 1 (([6, 14, 30] : List Int).getD (((1 : Nat) : Int) - 1).toNat 0).toNat = 64 := by decide
  simp only [Nat.pow_one, Nat.reduceSub, Nat.reducePow] at hlt
  rw [e]
  refine ⟨fun h => ?_, fun h1 h => by omega, fun h1 _ h => ?_, fun h1 _ h => ?_⟩
  ·rw [if_pos]
   ·rfl
   ·refine ⟨by decide, ?_⟩
    by_cases h3 : (n : Int) < 64
    ·exact h3
    ·rw [if_neg h3, if_pos (by omega)] at hl; omega
  ·rw [if_neg, if_neg (by omega), if_pos (by omega)]; rfl
   rintro ⟨_, h3⟩; rw [if_pos h3] at hl; omega
  ·rw [if_neg, if_neg (by omega), if_neg (by omega)]; simp; omega
   rintro ⟨_, h3⟩; rw [if_pos h3] at hl; omega
 ·have e : iShl .i64 1 (([6, 14, 30] : List Int).getD (((2 : Nat) : Int) - 1).toNat 0).toNat = 16384 := by decide
  rw [e]
  have e3 : ((2 ^ 2 : Nat) : Int) = 4 := rfl
  have e4 : ∀ h : ((lenF n).length : Int) = ((2 ^ 2 : Nat) : Int), ¬ ((0 : Int) < ((2 : Nat) : Int) /\ (n : Int) < 16384) := by
   rintro h1 ⟨_, h3⟩
   rw [hl, e3] at h1
   split at h1
   ·omega
   ·first | omega | (rw [if_pos h3] at h1; omega)
  refine ⟨fun h => ?_, fun h1 h => ?_, fun h1 _ h => ?_, fun h1 _ h => ?_⟩
  ·rw [if_pos]
   ·rfl
   ·refine ⟨by decide, ?_⟩
    by_cases h3 : (n : Int) < 16384
    ·exact h3
    ·rw [if_neg (by omega), if_neg h3] at hl; omega
  ·rw [if_neg (e4 h1), if_pos (by omega)]; rfl
  ·rw [if_neg (e4 h1), if_neg (by omega), if_pos (by omega)]; rfl
  ·rw [if_neg (e4 h1), if_neg (by omega), if_neg (by omega)]; simp; omega
theorem u8_add64 (a : Int) : UInt8.ofInt a + 64 = UInt8.ofInt (a + 64) := u8_add a 64
theorem u8_add128 (a : Int) : UInt8.ofInt a + 128 = UInt8.ofInt (a + 128) := u8_add a 128
theorem szOf_v (c : UInt8) : szOf c = 1 ∨ szOf c = 2 ∨ szOf c = 4 := by unfold szOf; split <;> (try split) <;> simp
theorem hdF_ok (b : List UInt8) (i : Int) (h : (hdF b i).2.2 = 0) : 0 <= i /\ i < (hdF b i).2.1 /\ 0 <= (hdF b i).1 /\ (hdF b i).2.1 + (hdF b i).1 <= b.length /\ (hdF b i).1 <= 1048576 := by
 have := spanF_ok b i h
 unfold hdF; simp only; omega
theorem len_or {b : List UInt8} {i : Int} {s : Nat} (h0 : 0 <= i) (h1 : 1 <= s) (h3 : s < 4) (h : i + s < b.length) (hl : lenN b i s < 64 * 256 ^ (s - 1)) : iOr .i64 ((lenN b i s : Int) * 256) ((b.getD (i + (s : Int)).toNat 0).toNat : Int) = (lenN b i (s + 1) : Int) := by
 have hc := (b.getD (i + (s : Int)).toNat 0).toNat_lt
 rw [lenN_step h0 h1 h]
 have h4 : lenN b i s < 64 * 256 ^ 2 := Nat.lt_of_lt_of_le hl (Nat.mul_le_mul_left _ (Nat.pow_le_pow_right (by omega) (by omega)))
 have := i64_step (lenN b i s) (b.getD (i + (s : Int)).toNat 0)
 rw [wrap_i64 (n := ((lenN b i s : Nat) : Int)) (by omega) (by omega), wrap_i64 (n := ((lenN b i s * 256 + (b.getD (i + (s : Int)).toNat 0).toNat : Nat) : Int)) (by omega) (by omega)] at this
 rw [<- this]
 congr 1
 show _ = IntKind.i64.wrap ((lenN b i s : Int) * 256)
 rw [wrap_i64 (by omega) (by omega)]
theorem lenN_b {b : List UInt8} {i : Int} {s : Nat} (h1 : 1 <= s) (h4 : s <= 4) : lenN b i s < 1073741824 := by
 refine Nat.lt_of_lt_of_le (lenN_lt h1) ?_
 exact Nat.le_trans (Nat.mul_le_mul_left _ (Nat.pow_le_pow_right (show 0 < 256 by omega) (show s - 1 <= 3 by omega))) (by decide)
theorem hd_to (b : List UInt8) (i : Int) : (hdF b i).2.1 + (hdF b i).1 = (spanF b i).2.1 := by unfold hdF; simp only; omega
theorem hd_to2 (b : List UInt8) (i : Int) : (spanF b i).1 + (hdF b i).1 = (spanF b i).2.1 := by unfold hdF; simp only; omega
theorem hd_from (b : List UInt8) (i : Int) : (hdF b i).2.1 = (spanF b i).1 := rfl
end Go.Vw

namespace Go.Vh
open Go Go.Vc
abbrev nl : List UInt8 := []
def K256 : List UInt32 := [1116352408, 1899447441, 3049323471, 3921009573, 961987163, 1508970993, 2453635748, 2870763221, 3624381080, 310598401, 607225278, 1426881987, 1925078388, 2162078206, 2614888103, 3248222580, 3835390401, 4022224774, 264347078, 604807628, 770255983, 1249150122, 1555081692, 1996064986, 2554220882, 2821834349, 2952996808, 3210313671, 3336571891, 3584528711, 113926993, 338241895, 666307205, 773529912, 1294757372, 1396182291, 1695183700, 1986661051, 2177026350, 2456956037, 2730485921, 2820302411, 3259730800, 3345764771, 3516065817, 3600352804, 4094571909, 275423344, 430227734, 506948616, 659060556, 883997877, 958139571, 1322822218, 1537002063, 1747873779, 1955562222, 2024104815, 2227730452, 2361852424, 2428436474, 2756734187, 3204031479, 3329325298]
def H256 : List UInt32 := [1779033703, 3144134277, 1013904242, 2773480762, 1359893119, 2600822924, 528734635, 1541459225]
def h0 (j : Nat) : UInt32 := H256.getD j 0
def rotr (x : UInt32) (n : Int) : UInt32 := u32Shr x n.toNat ||| u32Shl x (32 - n).toNat
def be (b : List UInt8) (i : Nat) : UInt32 := u32Shl (b.getD (4 * i) 0).toUInt32 24 ||| u32Shl (b.getD (4 * i + 1) 0).toUInt32 16 ||| u32Shl (b.getD (4 * i + 2) 0).toUInt32 8 ||| (b.getD (4 * i + 3) 0).toUInt32
def sg0 (x : UInt32) : UInt32 := rotr x 7 ^^^ rotr x 18 ^^^ u32Shr x 3
def sg1 (x : UInt32) : UInt32 := rotr x 17 ^^^ rotr x 19 ^^^ u32Shr x 10
def wdN (b : List UInt8) : Nat -> Nat -> UInt32
 | 0, j => if j < 16 then be b j else 0
 | k + 1, j => if j = 16 + k then wdN b k k + wdN b k (k + 9) + sg0 (wdN b k (k + 1)) + sg1 (wdN b k (k + 14)) else wdN b k j
def wd (b : List UInt8) : Nat -> UInt32 := wdN b 48
def stT (g : Nat -> UInt32) (k w : UInt32) : UInt32 := g 7 + (rotr (g 4) 6 ^^^ rotr (g 4) 11 ^^^ rotr (g 4) 25) + (g 6 ^^^ (g 4 &&& (g 5 ^^^ g 6))) + k + w
def stU (g : Nat -> UInt32) : UInt32 := (rotr (g 0) 2 ^^^ rotr (g 0) 13 ^^^ rotr (g 0) 22) + ((g 0 &&& g 1) ||| (g 2 &&& (g 0 ||| g 1)))
def step (g : Nat -> UInt32) (k w : UInt32) (j : Nat) : UInt32 :=
 match j with
 | 0 => stT g k w + stU g
 | 1 => g 0
 | 2 => g 1
 | 3 => g 2
 | 4 => g 3 + stT g k w
 | 5 => g 4
 | 6 => g 5
 | _ => g 6
def rounds (g w : Nat -> UInt32) : Nat -> Nat -> UInt32
 | 0 => g
 | k + 1 => step (rounds g w k) (K256.getD k 0) (w k)
def comp (g : Nat -> UInt32) (b : List UInt8) (j : Nat) : UInt32 := g j + rounds g (wd b) 64 j
def stN (l : List UInt8) : Nat -> Nat -> UInt32
 | 0 => h0
 | k + 1 => comp (stN l k) (l.drop (64 * k))
def hst (l : List UInt8) : Nat -> UInt32 := stN l (l.length / 64)
theorem ap_full {l0 l : List UInt8} {n : Nat} (h : l0.length <= n) : (l0.drop 0).take n ++ l = l0 ++ l := by rw [List.drop_zero, List.take_of_length_le h]
def zlen (n : Nat) : Nat := (119 - n % 64) % 64
def len8 (m : UInt64) : Nat -> List UInt8
 | 0 => []
 | k + 1 => len8 m k ++ [(u64Shr (u64Shl m 3) (56 - 8 * k)).toUInt8]
def pad (l : List UInt8) : List UInt8 := [128] ++ List.replicate (zlen l.length) 0 ++ len8 (UInt64.ofNat l.length) 8
def ptx (l : List UInt8) : List UInt8 := l ++ pad l
def w4 (x : UInt32) : List UInt8 := [(u32Shr x 24).toUInt8, (u32Shr x 16).toUInt8, (u32Shr x 8).toUInt8, x.toUInt8]
def outN (g : Nat -> UInt32) : Nat -> List UInt8
 | 0 => []
 | k + 1 => outN g k ++ w4 (g k)
def sha (l : List UInt8) : List UInt8 := outN (stN (ptx l) ((ptx l).length / 64)) 8
def key0 (k : List UInt8) : List UInt8 := if 64 < k.length then sha k else k
def padN (k : List UInt8) (c : UInt8) : Nat -> List UInt8
 | 0 => []
 | n + 1 => padN k c n ++ [k.getD n 0 ^^^ c]
def padF (k : List UInt8) (c : UInt8) : List UInt8 := padN k c 64
def mac (k t : List UInt8) : List UInt8 := sha (padF (key0 k) 92 ++ sha (padF (key0 k) 54 ++ t))
attribute [irreducible] padF mac sha
end Go.Vh

namespace Go.Vh
def infoBad (nm c : List UInt8) (n : Int) : Prop := n < 0 ∨ 8160 < n ∨ 40 < nm.length ∨ 16000 < c.length
instance (nm c : List UInt8) (n : Int) : Decidable (infoBad nm c n) := by unfold infoBad; exact inferInstance
theorem take_full (l : List UInt8) : (l.drop 0).take l.length = l := by rw [List.drop_zero, List.take_length]
end Go.Vh

namespace Go.Vw
open Go Go.Vc
theorem beN_numB {n : Int} {k : Nat} (h0 : 0 <= n) (h : n < 256 ^ k) : (beN (numB n k) : Int) = n := by
 induction k generalizing n with
 | zero =>
  have : n < 1 := by simpa using h
  have e : n = 0 := by omega
  subst e
  rfl
 | succ k ih =>
  have e : numB n (k + 1) = numB (n / 256) k ++ [UInt8.ofInt n] := by
   refine List.ext_getElem? fun j => ?_
   by_cases hj : j < k
   ·rw [List.getElem?_append_left (by rw [numB_len]; exact hj), numB_get (by omega), numB_get hj]
    congr 2
    rw [show k + 1 - 1 - j = (k - 1 - j) + 1 by omega, Int.pow_succ, Int.mul_comm, <- Int.ediv_ediv_of_nonneg (by decide)]
   ·by_cases hj2 : j = k
    ·subst hj2
     rw [List.getElem?_append_right (by rw [numB_len]; omega), numB_get (by omega), numB_len]
     simp
    ·rw [List.getElem?_eq_none (by rw [numB_len]; omega), List.getElem?_eq_none (by simp [numB_len]; omega)]
  rw [e, beN_snoc]
  have h2 := ih (n := n / 256) (by omega) (by rw [Int.pow_succ] at h; exact Int.ediv_lt_of_lt_mul (by decide) h)
  have h3 := u8_toNat n
  rw [Int.natCast_add, Int.natCast_mul, h2, h3]
  omega
end Go.Vw

namespace Go.Vh
end Go.Vh

namespace Go.Vh
open Go Go.Vc
abbrev txF (s : List UInt8) : List UInt8 := Go.Vw.textF s
def sameE (e f : List (List UInt8)) : Prop := ∀ j, j < 7 -> e.getD j [] = f.getD j []
instance (e f : List (List UInt8)) : Decidable (sameE e f) := by unfold sameE; exact inferInstance
abbrev nuF (n k : Int) : List UInt8 := Go.Vw.numF n k
def whereP (g : List UInt8) (ep fr : Int) : Prop := 0 < g.length /\ g.length <= 32 /\ 0 <= ep /\ ep <= 1099511627776 /\ 0 <= fr /\ fr < 65536
instance (g : List UInt8) (ep fr : Int) : Decidable (whereP g ep fr) := by unfold whereP; exact inferInstance
def rightP (g : List UInt8) (ep fr kd : Int) (bd : List UInt8) : Prop := whereP g ep fr /\ 1 <= kd /\ kd <= 5 /\ bd.length <= 30000
instance (g : List UInt8) (ep fr kd : Int) (bd : List UInt8) : Decidable (rightP g ep fr kd bd) := by unfold rightP; exact inferInstance
def tagP (b : List UInt8) : Prop := b.length = 0 ∨ b.length = 32
instance (b : List UInt8) : Decidable (tagP b) := by unfold tagP; exact inferInstance
def msgP (g : List UInt8) (ep fr kd : Int) (bd sn cf mb : List UInt8) : Prop := rightP g ep fr kd bd /\ sn.length = 3309 /\ tagP cf /\ tagP mb
instance (g : List UInt8) (ep fr kd : Int) (bd sn cf mb : List UInt8) : Decidable (msgP g ep fr kd bd sn cf mb) := by unfold msgP; exact inferInstance
def sealP (g : List UInt8) (ep fr gn : Int) (cl : List UInt8) : Prop := whereP g ep fr /\ 0 <= gn /\ gn <= 1073741824 /\ cl.length <= 32800
instance (g : List UInt8) (ep fr gn : Int) (cl : List UInt8) : Decidable (sealP g ep fr gn cl) := by unfold sealP; exact inferInstance
def bodyF (g : List UInt8) (ep fr kd : Int) (bd : List UInt8) : List UInt8 := txF g ++ nuF ep 8 ++ nuF fr 4 ++ nuF kd 1 ++ txF bd
def bytesF (g : List UInt8) (ep fr kd : Int) (bd : List UInt8) : List UInt8 := if rightP g ep fr kd bd then bodyF g ep fr kd bd else []
def bytesE (g : List UInt8) (ep fr kd : Int) (bd : List UInt8) : Int := if rightP g ep fr kd bd then 0 else 181
def putF (g : List UInt8) (ep fr kd : Int) (bd sn cf mb : List UInt8) : List UInt8 := if msgP g ep fr kd bd sn cf mb then txF (bodyF g ep fr kd bd) ++ txF sn ++ txF cf ++ txF mb else []
def putE (g : List UInt8) (ep fr kd : Int) (bd sn cf mb : List UInt8) : Int := if msgP g ep fr kd bd sn cf mb then 0 else 181
def aheadB (g : List UInt8) (ep fr gn : Int) : List UInt8 := txF g ++ nuF ep 8 ++ nuF fr 4 ++ nuF gn 4
def aheadF (g : List UInt8) (ep fr gn : Int) (cl : List UInt8) : List UInt8 := if sealP g ep fr gn cl then aheadB g ep fr gn else []
def sealF (g : List UInt8) (ep fr gn : Int) (cl : List UInt8) : List UInt8 := if sealP g ep fr gn cl then aheadB g ep fr gn ++ txF cl else []
def sealE (g : List UInt8) (ep fr gn : Int) (cl : List UInt8) : Int := if sealP g ep fr gn cl then 0 else 181
def txL (l : List (List UInt8)) : List UInt8 := (l.map txF).flatten
theorem txL_take (l : List (List UInt8)) {k : Nat} (h : k < l.length) : txL (l.take (k + 1)) = txL (l.take k) ++ txF (l.getD k []) := by
 unfold txL
 rw [List.take_add_one, List.map_append, List.flatten_append, List.getD_eq_getElem?_getD, List.getElem?_eq_getElem h]
 simp
theorem tx_len (s : List UInt8) : (txF s).length <= 1048580 := Go.Vw.textF_len s
theorem nu_len (n k : Int) : (nuF n k).length <= 8 := Go.Vw.numF_len n k
theorem body_len (g : List UInt8) (ep fr kd : Int) (bd : List UInt8) : (bodyF g ep fr kd bd).length <= 2097190 := by
 have h1 := tx_len g
 have h2 := nu_len ep 8
 have h3 := nu_len fr 4
 have h4 := nu_len kd 1
 have h5 := tx_len bd
 unfold bodyF
 simp only [List.length_append]
 omega
theorem txL_len (l : List (List UInt8)) : ∀ k, k <= l.length -> (txL (l.take k)).length <= 1048580 * k
 | 0, _ => by simp [txL]
 | k + 1, h => by
  have h1 := txL_len l k (by omega)
  have h2 := tx_len (l.getD k [])
  rw [txL_take l (by omega), List.length_append]
  omega
theorem msg_no {g : List UInt8} {ep fr kd : Int} {bd sn cf mb : List UInt8} (h : ¬ (rightP g ep fr kd bd /\ sn.length = 3309 /\ (cf.length = 0 ∨ cf.length = 32) /\ (mb.length = 0 ∨ mb.length = 32))) : false = decide (msgP g ep fr kd bd sn cf mb) := (decide_eq_false h).symm
theorem msg_yes {g : List UInt8} {ep fr kd : Int} {bd sn cf mb : List UInt8} (h : rightP g ep fr kd bd /\ sn.length = 3309 /\ (cf.length = 0 ∨ cf.length = 32) /\ (mb.length = 0 ∨ mb.length = 32)) : true = decide (msgP g ep fr kd bd sn cf mb) := (decide_eq_true h).symm
theorem msg_iff {g : List UInt8} {ep fr kd : Int} {bd sn cf mb : List UInt8} {p : Prop} [Decidable p] (h : p ↔ rightP g ep fr kd bd /\ sn.length = 3309 /\ (cf.length = 0 ∨ cf.length = 32) /\ (mb.length = 0 ∨ mb.length = 32)) : decide p = decide (msgP g ep fr kd bd sn cf mb) := decide_eq_decide.2 h
theorem txL_1 (g : List UInt8) : txL [g] = txF g := by unfold txL; simp only [List.map_cons, List.map_nil, List.flatten_cons, List.flatten_nil, List.append_nil]
theorem ahead_len (g : List UInt8) (ep fr gn : Int) : (aheadB g ep fr gn).length <= 1048610 := by
 have h1 := tx_len g
 have h2 := nu_len ep 8
 have h3 := nu_len fr 4
 have h4 := nu_len gn 4
 unfold aheadB
 simp only [List.length_append]
 omega
theorem bytesF_yes {g : List UInt8} {ep fr kd : Int} {bd : List UInt8} (h : rightP g ep fr kd bd) : bytesF g ep fr kd bd = bodyF g ep fr kd bd := if_pos h
theorem bytesF_no {g : List UInt8} {ep fr kd : Int} {bd : List UInt8} (h : ¬ rightP g ep fr kd bd) : bytesF g ep fr kd bd = [] := if_neg h
theorem bytesE_yes {g : List UInt8} {ep fr kd : Int} {bd : List UInt8} (h : rightP g ep fr kd bd) : bytesE g ep fr kd bd = 0 := if_pos h
theorem bytesE_no {g : List UInt8} {ep fr kd : Int} {bd : List UInt8} (h : ¬ rightP g ep fr kd bd) : bytesE g ep fr kd bd = 181 := if_neg h
theorem putF_yes {g : List UInt8} {ep fr kd : Int} {bd sn cf mb : List UInt8} (h : msgP g ep fr kd bd sn cf mb) : putF g ep fr kd bd sn cf mb = txF (bodyF g ep fr kd bd) ++ txF sn ++ txF cf ++ txF mb := if_pos h
theorem putF_no {g : List UInt8} {ep fr kd : Int} {bd sn cf mb : List UInt8} (h : ¬ msgP g ep fr kd bd sn cf mb) : putF g ep fr kd bd sn cf mb = [] := if_neg h
theorem putE_yes {g : List UInt8} {ep fr kd : Int} {bd sn cf mb : List UInt8} (h : msgP g ep fr kd bd sn cf mb) : putE g ep fr kd bd sn cf mb = 0 := if_pos h
theorem putE_no {g : List UInt8} {ep fr kd : Int} {bd sn cf mb : List UInt8} (h : ¬ msgP g ep fr kd bd sn cf mb) : putE g ep fr kd bd sn cf mb = 181 := if_neg h
theorem aheadF_yes {g : List UInt8} {ep fr gn : Int} {cl : List UInt8} (h : sealP g ep fr gn cl) : aheadF g ep fr gn cl = aheadB g ep fr gn := if_pos h
theorem aheadF_no {g : List UInt8} {ep fr gn : Int} {cl : List UInt8} (h : ¬ sealP g ep fr gn cl) : aheadF g ep fr gn cl = [] := if_neg h
theorem sealF_yes {g : List UInt8} {ep fr gn : Int} {cl : List UInt8} (h : sealP g ep fr gn cl) : sealF g ep fr gn cl = aheadB g ep fr gn ++ txF cl := if_pos h
theorem sealF_no {g : List UInt8} {ep fr gn : Int} {cl : List UInt8} (h : ¬ sealP g ep fr gn cl) : sealF g ep fr gn cl = [] := if_neg h
theorem sealE_yes {g : List UInt8} {ep fr gn : Int} {cl : List UInt8} (h : sealP g ep fr gn cl) : sealE g ep fr gn cl = 0 := if_pos h
theorem sealE_no {g : List UInt8} {ep fr gn : Int} {cl : List UInt8} (h : ¬ sealP g ep fr gn cl) : sealE g ep fr gn cl = 181 := if_neg h
theorem flat4 (a b c d : List UInt8) : nl ++ [a, b, c, d].flatten = a ++ b ++ c ++ d := by simp [nl]
theorem put_txL {g : List UInt8} {ep fr kd : Int} {bd sn cf mb : List UInt8} (h : msgP g ep fr kd bd sn cf mb) : nl ++ txL [bytesF g ep fr kd bd, sn, cf, mb] = txF (bodyF g ep fr kd bd) ++ txF sn ++ txF cf ++ txF mb := by
 rw [bytesF_yes h.1]
 exact flat4 _ _ _ _
abbrev gT (b : List UInt8) (p : Int) : List UInt8 × Int × Int := Go.Vw.getTextF b p
def rdT (b : List UInt8) (p e : Int) : List UInt8 × Int × Int := if e = 0 then Go.Vw.getTextF b p else ([], p, e)
def rdN (b : List UInt8) (p e k : Int) : Int × Int × Int := if e = 0 then Go.Vw.getF b p k else (0, p, e)
theorem rdT_0 {b : List UInt8} {p e : Int} (h : e = 0) : rdT b p e = Go.Vw.getTextF b p := if_pos h
theorem rdT_1 {b : List UInt8} {p e : Int} (h : ¬ e = 0) : rdT b p e = ([], p, e) := if_neg h
theorem rdN_0 {b : List UInt8} {p e k : Int} (h : e = 0) : rdN b p e k = Go.Vw.getF b p k := if_pos h
theorem rdN_1 {b : List UInt8} {p e k : Int} (h : ¬ e = 0) : rdN b p e k = (0, p, e) := if_neg h
def endF (b : List UInt8) (p e : Int) (is : Bool) : Int := if e = 0 /\ (p ≠ b.length ∨ is = false) then 181 else e
def rd2 (b : List UInt8) (p e : Int) : List UInt8 × Int × Int := rdT b (rdT b p e).2.1 (rdT b p e).2.2
def rd3 (b : List UInt8) (p e : Int) : List UInt8 × Int × Int := rdT b (rd2 b p e).2.1 (rd2 b p e).2.2
def rd4 (b : List UInt8) (p e : Int) : List UInt8 × Int × Int := rdT b (rd3 b p e).2.1 (rd3 b p e).2.2
def pl1 (b : List UInt8) (p e : Int) : List UInt8 × Int × Int := rdT b p e
def pl2 (b : List UInt8) (p e : Int) : Int × Int × Int := rdN b (pl1 b p e).2.1 (pl1 b p e).2.2 8
def pl3 (b : List UInt8) (p e : Int) : Int × Int × Int := rdN b (pl2 b p e).2.1 (pl2 b p e).2.2 4
theorem endF_1 {b : List UInt8} {p e : Int} {is : Bool} (h : e = 0) (h2 : ¬ p = b.length) : endF b p e is = 181 := if_pos ⟨h, .inl h2⟩
theorem endF_2 {b : List UInt8} {p e : Int} {is : Bool} (h : e = 0) (h2 : is = false) : endF b p e is = 181 := if_pos ⟨h, .inr h2⟩
theorem endF_3 {b : List UInt8} {p e : Int} {is : Bool} (h : e = 0) (h2 : p = b.length) (h3 : is = true) : endF b p e is = e := if_neg fun q => q.2.elim (fun x => x h2) (fun x => by rw [h3] at x; cases x)
theorem endF_4 {b : List UInt8} {p e : Int} {is : Bool} (h : ¬ e = 0) : endF b p e is = e := if_neg fun q => h q.1
def sg4 (b : List UInt8) : Int × Int × Int := rdN b (pl3 b 0 0).2.1 (pl3 b 0 0).2.2 4
def sg5 (b : List UInt8) : List UInt8 × Int × Int := rdT b (sg4 b).2.1 (sg4 b).2.2
def gsE (b : List UInt8) : Int := endF b (sg5 b).2.1 (sg5 b).2.2 (decide (sealP (pl1 b 0 0).1 (pl2 b 0 0).1 (pl3 b 0 0).1 (sg4 b).1 (sg5 b).1))
def gs1 (b : List UInt8) : List UInt8 := if gsE b = 0 then (pl1 b 0 0).1 else []
def gs2 (b : List UInt8) : Int := if gsE b = 0 then (pl2 b 0 0).1 else 0
def gs3 (b : List UInt8) : Int := if gsE b = 0 then (pl3 b 0 0).1 else 0
def gs4 (b : List UInt8) : Int := if gsE b = 0 then (sg4 b).1 else 0
def gs5 (b : List UInt8) : List UInt8 := if gsE b = 0 then (sg5 b).1 else []
theorem le_eqB {x y : PV} (h : x = y) : (BV.p x).le (.p y) := by rw [h]; exact .refl _
theorem gs_0 {b : List UInt8} (h : gsE b = 0) : ∀ j, j < 5 -> (BV.p (([.bs ((pl1 b 0 0).1), .v (.int .i64 ((pl2 b 0 0).1)), .v (.int .i64 ((pl3 b 0 0).1)), .v (.int .i64 ((sg4 b).1)), .bs ((sg5 b).1)] : List PV).getD j (.v undef))).le (.p (([.bs (gs1 b), .v (.int .i64 (gs2 b)), .v (.int .i64 (gs3 b)), .v (.int .i64 (gs4 b)), .bs (gs5 b)] : List PV).getD j (.v undef))) := by
 intro j _
 refine le_eqB ?_
 unfold gs1 gs2 gs3 gs4 gs5
 rw [if_pos h, if_pos h, if_pos h, if_pos h, if_pos h]
theorem gs_1 {b : List UInt8} (h : ¬ gsE b = 0) : ∀ j, j < 5 -> (BV.p (([.v (.slice none 0 0), .v (.int .i64 0), .v (.int .i64 0), .v (.int .i64 0), .v (.slice none 0 0)] : List PV).getD j (.v undef))).le (.p (([.bs (gs1 b), .v (.int .i64 (gs2 b)), .v (.int .i64 (gs3 b)), .v (.int .i64 (gs4 b)), .bs (gs5 b)] : List PV).getD j (.v undef))) := by
 intro j hj
 unfold gs1 gs2 gs3 gs4 gs5
 rw [if_neg h, if_neg h, if_neg h, if_neg h, if_neg h]
 match j, hj with
 | 0, _ => exact le_nil rfl
 | 1, _ => exact .refl _
 | 2, _ => exact .refl _
 | 3, _ => exact .refl _
 | 4, _ => exact le_nil rfl
def gm4 (b : List UInt8) : Int × Int × Int := rdN (rdT b 0 0).1 (pl3 (rdT b 0 0).1 0 0).2.1 (pl3 (rdT b 0 0).1 0 0).2.2 1
def gm5 (b : List UInt8) : List UInt8 × Int × Int := rdT (rdT b 0 0).1 (gm4 b).2.1 (gm4 b).2.2
def gmI (b : List UInt8) : Int := endF (rdT b 0 0).1 (gm5 b).2.1 (gm5 b).2.2 true
def gmO (b : List UInt8) : Int := endF b (rd4 b 0 0).2.1 (rd4 b 0 0).2.2 (decide (msgP ((pl1 (rdT b 0 0).1 0 0).1) ((pl2 (rdT b 0 0).1 0 0).1) ((pl3 (rdT b 0 0).1 0 0).1) ((gm4 b).1) ((gm5 b).1) ((rd2 b 0 0).1) ((rd3 b 0 0).1) ((rd4 b 0 0).1)))
def gmE (b : List UInt8) : Int := if (rd4 b 0 0).2.2 = 0 then (if gmI b = 0 then gmO b else gmI b) else (rd4 b 0 0).2.2
theorem gmE_1 {b : List UInt8} (h : ¬ (rd4 b 0 0).2.2 = 0) : gmE b = (rd4 b 0 0).2.2 := if_neg h
theorem gmE_2 {b : List UInt8} (h : (rd4 b 0 0).2.2 = 0) (h2 : ¬ gmI b = 0) : gmE b = gmI b := by unfold gmE; rw [if_pos h, if_neg h2]
theorem gmE_3 {b : List UInt8} (h : (rd4 b 0 0).2.2 = 0) (h2 : gmI b = 0) : gmE b = gmO b := by unfold gmE; rw [if_pos h, if_pos h2]
def gmG (b : List UInt8) : List UInt8 := if gmE b = 0 then (pl1 (rdT b 0 0).1 0 0).1 else []
def gmP (b : List UInt8) : Int := if gmE b = 0 then (pl2 (rdT b 0 0).1 0 0).1 else 0
def gmF (b : List UInt8) : Int := if gmE b = 0 then (pl3 (rdT b 0 0).1 0 0).1 else 0
def gmK (b : List UInt8) : Int := if gmE b = 0 then (gm4 b).1 else 0
def gmB (b : List UInt8) : List UInt8 := if gmE b = 0 then (gm5 b).1 else []
def gmS (b : List UInt8) : List UInt8 := if gmE b = 0 then (rd2 b 0 0).1 else []
def gmC (b : List UInt8) : List UInt8 := if gmE b = 0 then (rd3 b 0 0).1 else []
def gmM (b : List UInt8) : List UInt8 := if gmE b = 0 then (rd4 b 0 0).1 else []
theorem gm_0 {b : List UInt8} (h : gmE b = 0) : ∀ j, j < 8 -> (BV.p (([.bs ((pl1 (rdT b 0 0).1 0 0).1), .v (.int .i64 ((pl2 (rdT b 0 0).1 0 0).1)), .v (.int .i64 ((pl3 (rdT b 0 0).1 0 0).1)), .v (.int .i64 ((gm4 b).1)), .bs ((gm5 b).1), .bs ((rd2 b 0 0).1), .bs ((rd3 b 0 0).1), .bs ((rd4 b 0 0).1)] : List PV).getD j (.v undef))).le (.p (([.bs (gmG b), .v (.int .i64 (gmP b)), .v (.int .i64 (gmF b)), .v (.int .i64 (gmK b)), .bs (gmB b), .bs (gmS b), .bs (gmC b), .bs (gmM b)] : List PV).getD j (.v undef))) := by
 intro j _
 refine le_eqB ?_
 unfold gmG gmP gmF gmK gmB gmS gmC gmM
 rw [if_pos h, if_pos h, if_pos h, if_pos h, if_pos h, if_pos h, if_pos h, if_pos h]
theorem gm_1 {b : List UInt8} (h : ¬ gmE b = 0) : ∀ j, j < 8 -> (BV.p (([.v (.slice none 0 0), .v (.int .i64 0), .v (.int .i64 0), .v (.int .i64 0), .v (.slice none 0 0), .v (.slice none 0 0), .v (.slice none 0 0), .v (.slice none 0 0)] : List PV).getD j (.v undef))).le (.p (([.bs (gmG b), .v (.int .i64 (gmP b)), .v (.int .i64 (gmF b)), .v (.int .i64 (gmK b)), .bs (gmB b), .bs (gmS b), .bs (gmC b), .bs (gmM b)] : List PV).getD j (.v undef))) := by
 intro j hj
 unfold gmG gmP gmF gmK gmB gmS gmC gmM
 rw [if_neg h, if_neg h, if_neg h, if_neg h, if_neg h, if_neg h, if_neg h, if_neg h]
 match j, hj with
 | 0, _ => exact le_nil rfl
 | 1, _ => exact .refl _
 | 2, _ => exact .refl _
 | 3, _ => exact .refl _
 | 4, _ => exact le_nil rfl
 | 5, _ => exact le_nil rfl
 | 6, _ => exact le_nil rfl
 | 7, _ => exact le_nil rfl
end Go.Vh

namespace Go.Vw
open Go Go.Vc
theorem be3 (b c d : UInt8) : beN [b, c, d] = b.toNat * 65536 + c.toNat * 256 + d.toNat := by
 show ((0 * 256 + b.toNat) * 256 + c.toNat) * 256 + d.toNat = _
 omega
theorem lenF_cons {n : Nat} (h : n <= 1048576) : ∃ c tl, lenF (n : Int) = c :: tl /\ c.toNat < 192 /\ szOf c = ((tl.length + 1 : Nat) : Int) /\ c.toNat % 64 * 256 ^ tl.length + beN tl = n := by
 unfold lenF szOf
 split
 ·rename_i h1
  have := u8_toNat (n : Int)
  refine ⟨_, [], rfl, by omega, by rw [if_neg (by omega), if_neg (by omega)]; rfl, ?_⟩
  simp only [List.length_nil, Nat.pow_zero, Nat.mul_one]
  show _ + 0 = _
  omega
 ·split
  ·rename_i h1 h2
   have h3 := u8_toNat ((n : Int) / 256 + 64)
   have h4 := u8_toNat (n : Int)
   refine ⟨_, [UInt8.ofInt (n : Int)], rfl, by omega, by rw [if_neg (by omega), if_pos (by omega)]; rfl, ?_⟩
   show _ % 64 * 256 + (0 * 256 + _) = _
   omega
  ·rename_i h1 h2
   have h3 := u8_toNat ((n : Int) / 16777216 + 128)
   have h4 := u8_toNat ((n : Int) / 65536)
   have h5 := u8_toNat ((n : Int) / 256)
   have h6 := u8_toNat (n : Int)
   refine ⟨_, [UInt8.ofInt ((n : Int) / 65536), UInt8.ofInt ((n : Int) / 256), UInt8.ofInt (n : Int)], rfl, by omega, by rw [if_pos (by omega)]; rfl, ?_⟩
   rw [be3, List.length_cons, List.length_cons, List.length_cons, List.length_nil, show 256 ^ (0 + 1 + 1 + 1) = 16777216 from rfl]
   omega
theorem lenN_app {A R : List UInt8} {c : UInt8} {tl : List UInt8} : lenN (A ++ (c :: tl) ++ R) (A.length : Int) (tl.length + 1) = c.toNat % 64 * 256 ^ tl.length + beN tl /\ (A ++ (c :: tl) ++ R).getD ((A.length : Int)).toNat 0 = c := by
 have e1 : (A ++ (c :: tl) ++ R).getD ((A.length : Int)).toNat 0 = c := by
  rw [Int.toNat_natCast, List.getD_eq_getElem?_getD, List.append_assoc, List.getElem?_append_right (Nat.le_refl _)]
  simp
 refine ⟨?_, e1⟩
 unfold lenN
 rw [e1, Int.toNat_natCast, Nat.add_sub_cancel]
 congr 2
 rw [List.append_assoc, <- List.drop_drop, List.drop_left]
 simp
theorem hd_enc {A R : List UInt8} {n : Nat} (h : n <= 1048576) (hr : n <= R.length) : hdF (A ++ lenF (n : Int) ++ R) (A.length : Int) = ((n : Int), (A.length : Int) + (lenF (n : Int)).length, 0) := by
 obtain ⟨c, tl, e, h1, h2, h3⟩ := lenF_cons h
 have hl := @lenN_app A R c tl
 rw [h3] at hl
 have hlen : (lenF (n : Int)).length = tl.length + 1 := by rw [e]; rfl
 rw [e]
 have hv := (hd_val (b := A ++ (c :: tl) ++ R) (i := (A.length : Int)) (s := tl.length + 1) (by omega) (by rw [hl.2]; exact h1) (by rw [hl.2, h2]) (by simp; omega)).2.2.2
 rw [hl.1] at hv
 rw [hv (by rw [hlen]) h (by simp; omega)]
 rfl
theorem span_enc {A R : List UInt8} {n : Nat} (h : n <= 1048576) (hr : n <= R.length) : spanF (A ++ lenF (n : Int) ++ R) (A.length : Int) = ((A.length : Int) + (lenF (n : Int)).length, (A.length : Int) + (lenF (n : Int)).length + n, 0) := by
 have hh := @hd_enc A R n h hr
 have h1 := hd_to (A ++ lenF (n : Int) ++ R) (A.length : Int)
 have h2 := hd_from (A ++ lenF (n : Int) ++ R) (A.length : Int)
 have h3 : (hdF (A ++ lenF (n : Int) ++ R) (A.length : Int)).2.2 = (spanF (A ++ lenF (n : Int) ++ R) (A.length : Int)).2.2 := rfl
 rw [hh] at h1 h2 h3
 refine Prod.ext h2.symm (Prod.ext ?_ h3.symm)
 simpa using h1.symm
theorem text_enc {A s R : List UInt8} (h : textE s = 0) : getTextF (A ++ textF s ++ R) (A.length : Int) = (s, (A.length : Int) + (textF s).length, 0) := by
 have hl := textE_eq h
 have e : textF s = lenF (s.length : Int) ++ s := by unfold textF; rw [if_neg (by omega)]
 have hs := @span_enc A (s ++ R) s.length hl (by simp)
 have e2 : A ++ textF s ++ R = A ++ lenF (s.length : Int) ++ (s ++ R) := by rw [e]; simp
 rw [e2]
 unfold getTextF
 rw [hs, if_neg (by simp)]
 refine Prod.ext ?_ (Prod.ext ?_ rfl)
 ·show List.drop ((A.length : Int) + (lenF (s.length : Int)).length).toNat (List.take ((A.length : Int) + (lenF (s.length : Int)).length + (s.length : Int)).toNat _) = s
  rw [show ((A.length : Int) + (lenF (s.length : Int)).length).toNat = (A ++ lenF (s.length : Int)).length by simp; omega,
   show ((A.length : Int) + (lenF (s.length : Int)).length + (s.length : Int)).toNat = (A ++ lenF (s.length : Int)).length + s.length by simp; omega]
  rw [List.take_length_add_append, List.drop_left, List.take_left]
 ·show (A.length : Int) + (lenF (s.length : Int)).length + (s.length : Int) = _
  rw [e]; simp; omega
theorem textE_of {s : List UInt8} (h : s.length <= 1048576) : textE s = 0 := by unfold textE; rw [if_neg (by omega)]
theorem num_enc {A R : List UInt8} {n k : Int} (hk : k = 1 ∨ k = 2 ∨ k = 4 ∨ k = 8) (h0 : 0 <= n) (h : n < 256 ^ k.toNat) (hm : n <= 9223372036854775807) : getF (A ++ numF n k ++ R) (A.length : Int) k = (n, (A.length : Int) + k, 0) /\ (numF n k).length = k := by
 have e : numF n k = numB n k.toNat := numF_ok hk h0 (by
  rintro ⟨h8, h9⟩
  rw [shl_one (by omega)] at h9
  omega)
 have hl : (numB n k.toNat).length = k.toNat := numB_len _ _
 have hb : (((A ++ numB n k.toNat ++ R).take ((A.length : Int) + k).toNat).drop (A.length : Int).toNat) = numB n k.toNat := by
  rw [show ((A.length : Int) + k).toNat = A.length + (numB n k.toNat).length by rw [hl]; omega, List.append_assoc, List.take_length_add_append, List.take_left, Int.toNat_natCast, List.drop_left]
 have hv := beN_numB h0 h
 have hu : ((UInt64.ofNat (beN (numB n k.toNat))).toNat : Int) = n := by
  rw [UInt64.toNat_ofNat', Nat.mod_eq_of_lt (by omega), hv]
 refine ⟨?_, by rw [e, hl]; omega⟩
 rw [e, getF_okU (by omega) (by simp; omega) hk (by simp [hl]; omega) (by rw [hb]; omega), hb, hu, i64_eq, if_neg (by omega), Int.emod_eq_of_lt h0 (by omega)]
end Go.Vw

namespace Go.Vh
open Go Go.Vc Go.Vw
theorem rdT_enc {b A s R : List UInt8} {p e : Int} (he : e = 0) (hs : s.length <= 1048576) (hb : b = A ++ (txF s ++ R)) (hp : p = A.length) : rdT b p e = (s, ((A ++ txF s).length : Int), 0) := by
 subst hb hp
 rw [rdT_0 he, <- List.append_assoc, text_enc (textE_of hs), List.length_append]
 simp
theorem rdT_enc0 {b s R : List UInt8} (hs : s.length <= 1048576) (hb : b = txF s ++ R) : rdT b 0 0 = (s, ((txF s).length : Int), 0) := by
 have := rdT_enc (b := b) (A := []) (s := s) (R := R) (p := 0) (e := 0) rfl hs (by rw [hb, List.nil_append]) (by rw [List.length_nil]; rfl)
 rw [List.nil_append] at this
 exact this
theorem rdN_enc {b A R : List UInt8} {p e n k : Int} (he : e = 0) (hk : k = 1 ∨ k = 2 ∨ k = 4 ∨ k = 8) (h0 : 0 <= n) (h : n < 256 ^ k.toNat) (hm : n <= 9223372036854775807) (hb : b = A ++ (nuF n k ++ R)) (hp : p = A.length) :
  rdN b p e k = (n, ((A ++ nuF n k).length : Int), 0) := by
 subst hb hp
 obtain ⟨h1, h2⟩ := num_enc (A := A) (R := R) hk h0 h hm
 rw [rdN_0 he, <- List.append_assoc, h1, List.length_append]
 simp [h2]
theorem tx_len4 (s : List UInt8) : (txF s).length <= s.length + 4 := by
 unfold txF textF
 split
 ·simp
 ·have := lenF_le (s.length : Int)
  rw [List.length_append]; omega
theorem msg_get {g : List UInt8} {ep fr kd : Int} {bd sn cf mb : List UInt8} (h : msgP g ep fr kd bd sn cf mb) : gmE (putF g ep fr kd bd sn cf mb) = 0 /\ gmG (putF g ep fr kd bd sn cf mb) = g /\ gmP (putF g ep fr kd bd sn cf mb) = ep /\ gmF (putF g ep fr kd bd sn cf mb) = fr /\
  gmK (putF g ep fr kd bd sn cf mb) = kd /\ gmB (putF g ep fr kd bd sn cf mb) = bd /\ gmS (putF g ep fr kd bd sn cf mb) = sn /\ gmC (putF g ep fr kd bd sn cf mb) = cf /\ gmM (putF g ep fr kd bd sn cf mb) = mb := by
 have hP := h
 obtain ⟨⟨⟨w1, w2, w3, w4, w5, w6⟩, k1, k2, k3⟩, h1, h2, h3⟩ := h
 unfold tagP at h2 h3
 rw [putF_yes hP]
 obtain ⟨C, hC⟩ : ∃ C, C = bodyF g ep fr kd bd := ⟨_, rfl⟩
 rw [<- hC]
 have hCl : C.length <= 1048576 := by
  have a1 := tx_len4 g
  have a2 := nu_len ep 8
  have a3 := nu_len fr 4
  have a4 := nu_len kd 1
  have a5 := tx_len4 bd
  rw [hC]; unfold bodyF
  simp only [List.length_append]
  omega
 obtain ⟨B, hB⟩ : ∃ B, B = txF C ++ txF sn ++ txF cf ++ txF mb := ⟨_, rfl⟩
 rw [<- hB]
 have q1 : rdT B 0 0 = (C, ((txF C).length : Int), 0) := rdT_enc0 (R := txF sn ++ (txF cf ++ txF mb)) hCl (by rw [hB]; simp only [List.append_assoc])
 have q2 : rd2 B 0 0 = (sn, ((txF C ++ txF sn).length : Int), 0) := by
  unfold rd2; rw [q1]
  exact rdT_enc (A := txF C) (R := txF cf ++ txF mb) rfl (by omega) (by rw [hB]; simp only [List.append_assoc]) rfl
 have q3 : rd3 B 0 0 = (cf, ((txF C ++ txF sn ++ txF cf).length : Int), 0) := by
  unfold rd3; rw [q2]
  exact rdT_enc (A := txF C ++ txF sn) (R := txF mb) rfl (by omega) (by rw [hB]; simp only [List.append_assoc]) rfl
 have q4 : rd4 B 0 0 = (mb, (B.length : Int), 0) := by
  unfold rd4; rw [q3]
  have := rdT_enc (b := B) (A := txF C ++ txF sn ++ txF cf) (s := mb) (R := []) (e := 0) (p := (txF C ++ txF sn ++ txF cf).length) rfl (by omega) (by rw [hB, List.append_nil]) rfl
  rw [<- hB] at this
  exact this
 have c1 : pl1 C 0 0 = (g, ((txF g).length : Int), 0) := rdT_enc0 (R := nuF ep 8 ++ (nuF fr 4 ++ (nuF kd 1 ++ txF bd))) (by omega) (by rw [hC]; unfold bodyF; simp only [List.append_assoc])
 have c2 : pl2 C 0 0 = (ep, ((txF g ++ nuF ep 8).length : Int), 0) := by
  unfold pl2; rw [c1]
  exact rdN_enc (A := txF g) (R := nuF fr 4 ++ (nuF kd 1 ++ txF bd)) rfl (by omega) w3 (by simp; omega) (by omega) (by rw [hC]; unfold bodyF; simp only [List.append_assoc]) rfl
 have c3 : pl3 C 0 0 = (fr, ((txF g ++ nuF ep 8 ++ nuF fr 4).length : Int), 0) := by
  unfold pl3; rw [c2]
  exact rdN_enc (A := txF g ++ nuF ep 8) (R := nuF kd 1 ++ txF bd) rfl (by omega) w5 (by simp; omega) (by omega) (by rw [hC]; unfold bodyF; simp only [List.append_assoc]) rfl
 have c4 : gm4 B = (kd, ((txF g ++ nuF ep 8 ++ nuF fr 4 ++ nuF kd 1).length : Int), 0) := by
  unfold gm4; rw [q1]
  show rdN C (pl3 C 0 0).2.1 (pl3 C 0 0).2.2 1 = _
  rw [c3]
  exact rdN_enc (A := txF g ++ nuF ep 8 ++ nuF fr 4) (R := txF bd) rfl (by omega) (by omega) (by simp; omega) (by omega) (by rw [hC]; unfold bodyF; simp only [List.append_assoc]) rfl
 have c5 : gm5 B = (bd, (C.length : Int), 0) := by
  unfold gm5; rw [q1, c4]
  have := rdT_enc (b := C) (A := txF g ++ nuF ep 8 ++ nuF fr 4 ++ nuF kd 1) (s := bd) (R := []) (e := 0) (p := (txF g ++ nuF ep 8 ++ nuF fr 4 ++ nuF kd 1).length) rfl (by omega) (by rw [hC, List.append_nil]; rfl) rfl
  rw [show txF g ++ nuF ep 8 ++ nuF fr 4 ++ nuF kd 1 ++ txF bd = C from hC.symm] at this
  exact this
 have hI : gmI B = 0 := by
  unfold gmI; rw [q1, c5]
  exact endF_3 rfl rfl rfl
 have hO : gmO B = 0 := by
  unfold gmO; rw [c4, c5, q1, q2, q3, q4]
  show endF B _ _ (decide (msgP (pl1 C 0 0).1 (pl2 C 0 0).1 (pl3 C 0 0).1 kd bd sn cf mb)) = 0
  rw [c1, c2, c3]
  exact endF_3 rfl rfl (decide_eq_true hP)
 have hE : gmE B = 0 := by rw [gmE_3 (by rw [q4]) hI]; exact hO
 refine ⟨hE, ?_, ?_, ?_, ?_, ?_, ?_, ?_, ?_⟩
 ·unfold gmG; rw [if_pos hE, q1]; show (pl1 C 0 0).1 = g; rw [c1]
 ·unfold gmP; rw [if_pos hE, q1]; show (pl2 C 0 0).1 = ep; rw [c2]
 ·unfold gmF; rw [if_pos hE, q1]; show (pl3 C 0 0).1 = fr; rw [c3]
 ·unfold gmK; rw [if_pos hE, c4]
 ·unfold gmB; rw [if_pos hE, c5]
 ·unfold gmS; rw [if_pos hE, q2]
 ·unfold gmC; rw [if_pos hE, q3]
 ·unfold gmM; rw [if_pos hE, q4]
def sameSP (g : List UInt8) (ep fr gn : Int) (cl g2 : List UInt8) (ep2 fr2 gn2 : Int) (cl2 : List UInt8) : Prop := g = g2 /\ ep = ep2 /\ fr = fr2 /\ gn = gn2 /\ cl = cl2
instance (g : List UInt8) (ep fr gn : Int) (cl g2 : List UInt8) (ep2 fr2 gn2 : Int) (cl2 : List UInt8) : Decidable (sameSP g ep fr gn cl g2 ep2 fr2 gn2 cl2) := by unfold sameSP; exact inferInstance
def sameMP (g : List UInt8) (ep fr kd : Int) (bd sn cf mb g2 : List UInt8) (ep2 fr2 kd2 : Int) (bd2 sn2 cf2 mb2 : List UInt8) : Prop := sameSP g ep fr kd bd g2 ep2 fr2 kd2 bd2 /\ sn = sn2 /\ cf = cf2 /\ mb = mb2
instance (g : List UInt8) (ep fr kd : Int) (bd sn cf mb g2 : List UInt8) (ep2 fr2 kd2 : Int) (bd2 sn2 cf2 mb2 : List UInt8) : Decidable (sameMP g ep fr kd bd sn cf mb g2 ep2 fr2 kd2 bd2 sn2 cf2 mb2) := by unfold sameMP; exact inferInstance
theorem hd2 : (bytesF [103] 0 0 5 []).length = 16 := by decide
theorem put_len (g : List UInt8) (ep fr kd : Int) (bd sn cf mb : List UInt8) : (putF g ep fr kd bd sn cf mb).length <= 4194320 := by
 unfold putF
 split
 ·have h1 := tx_len (bodyF g ep fr kd bd)
  have h2 := tx_len sn
  have h3 := tx_len cf
  have h4 := tx_len mb
  simp only [List.length_append]
  omega
 ·simp
end Go.Vh

namespace Go.Vh
open Go Go.Vc
abbrev PLs := List (Int × Int × List UInt8)
def pK (L : PLs) (i : Nat) : Int := (L.getD i (0, 0, [])).1
def pE (L : PLs) (i : Nat) : Int := (L.getD i (0, 0, [])).2.1
def pB (L : PLs) (i : Nat) : List UInt8 := (L.getD i (0, 0, [])).2.2
def pR (L : PLs) (j : Nat) : PV := if j % 3 = 0 then .v (.int .i64 (pK L (j / 3))) else if j % 3 = 1 then .v (.int .i64 (pE L (j / 3))) else .bs (pB L (j / 3))
theorem pR_0 (L : PLs) (n : Nat) : pR L (n * 3 + 0) = .v (.int .i64 (pK L n)) := by
 unfold pR
 rw [if_pos (by omega), show (n * 3 + 0) / 3 = n by omega]
theorem pR_1 (L : PLs) (n : Nat) : pR L (n * 3 + 1) = .v (.int .i64 (pE L n)) := by
 unfold pR
 rw [if_neg (by omega), if_pos (by omega), show (n * 3 + 1) / 3 = n by omega]
theorem pR_2 (L : PLs) (n : Nat) : pR L (n * 3 + 2) = .bs (pB L n) := by
 unfold pR
 rw [if_neg (by omega), if_neg (by omega), show (n * 3 + 2) / 3 = n by omega]
theorem pG_l {A B : PLs} {i : Nat} (h : i < A.length) : (A ++ B).getD i (0, 0, []) = A.getD i (0, 0, []) := by
 simp only [List.getD_eq_getElem?_getD, List.getElem?_append_left h]
theorem pG_r {A B : PLs} {i : Nat} (h : A.length <= i) : (A ++ B).getD i (0, 0, []) = B.getD (i - A.length) (0, 0, []) := by
 simp only [List.getD_eq_getElem?_getD, List.getElem?_append_right h]
theorem pR_app (A B : PLs) (j : Nat) : pR (A ++ B) j = if j < A.length * 3 then pR A j else pR B (j - A.length * 3) := by
 unfold pR pK pE pB
 by_cases h : j < A.length * 3
 ·rw [if_pos h, pG_l (by omega)]
 ·rw [if_neg h, pG_r (by omega), show (j - A.length * 3) % 3 = j % 3 by omega, show (j - A.length * 3) / 3 = j / 3 - A.length by omega]
theorem pR_up (L : PLs) (k e : Int) (b : List UInt8) (j : Nat) (f : Nat -> PV) (h0 : f 0 = .v (.int .i64 k)) (h1 : f 1 = .v (.int .i64 e)) (h2 : f 2 = .bs b) (hj : j < (L.length + 1) * 3) :
  (if j < L.length * 3 then pR L j else f (j - L.length * 3)) = pR (L ++ [(k, e, b)]) j := by
 rw [pR_app]
 by_cases h : j < L.length * 3
 ·rw [if_pos h, if_pos h]
 ·rw [if_neg h, if_neg h]
  rcases (show j - L.length * 3 = 0 ∨ j - L.length * 3 = 1 ∨ j - L.length * 3 = 2 by omega) with q | q | q <;> rw [q]
  ·rw [h0]; rfl
  ·rw [h1]; rfl
  ·rw [h2]; rfl
theorem pR_up2 (L : PLs) (k e : Int) (b : List UInt8) (j : Nat) (hj : j < (L.length + 1) * 3) :
  (if j < L.length * 3 then pR L (0 + j) else ([.v (.int .i64 k), .v (.int .i64 e), .bs b] : List PV).getD (0 + (j - L.length * 3)) (.v undef)) = pR (L ++ [(k, e, b)]) j := by
 rw [Nat.zero_add, Nat.zero_add]
 exact pR_up L k e b j (fun i => ([.v (.int .i64 k), .v (.int .i64 e), .bs b] : List PV).getD i (.v undef)) rfl rfl rfl hj
structure LK where
 now : Bool
 ends : Bool
 r : Int
def lookM (G : List UInt8) (e : Int) (b : List UInt8) : LK := ⟨decide (gmG b = G /\ gmP b = e), decide (gmK b = 4), if gmE b = 0 /\ gmK b = 5 then 181 else gmE b⟩
def lookT (G : List UInt8) (e : Int) (b : List UInt8) : LK := ⟨decide (gs1 b = G /\ gs2 b = e), false, gsE b⟩
structure HB where
 e : Int
 L : PLs
 n : Int
 r : Int
def takeH (e : Int) (L : PLs) (k : Int) (b : List UInt8) (l : LK) : HB :=
 if l.r ≠ 0 then ⟨e, L, 0, l.r⟩
 else if l.now = false then ⟨e, L, 0, 221⟩
 else if L.length = 1000 then ⟨e, L, 0, 2⟩
 else ⟨if l.ends = true then e + 1 else e, L ++ [(k, e, b)], L.length, 0⟩
theorem th_1 {e : Int} {L : PLs} {k : Int} {b : List UInt8} {l : LK} (h : ¬ l.r = 0) : takeH e L k b l = ⟨e, L, 0, l.r⟩ := if_pos h
theorem th_2 {e : Int} {L : PLs} {k : Int} {b : List UInt8} {l : LK} (h : l.r = 0) (h2 : l.now = false) : takeH e L k b l = ⟨e, L, 0, 221⟩ := by
 unfold takeH; rw [if_neg (fun q => q h), if_pos h2]
theorem th_3 {e : Int} {L : PLs} {k : Int} {b : List UInt8} {l : LK} (h : l.r = 0) (h2 : l.now = true) (h3 : L.length = 1000) : takeH e L k b l = ⟨e, L, 0, 2⟩ := by
 unfold takeH; rw [if_neg (fun q => q h), if_neg (by rw [h2]; decide), if_pos h3]
theorem th_4 {e : Int} {L : PLs} {k : Int} {b : List UInt8} {l : LK} (h : l.r = 0) (h2 : l.now = true) (h3 : ¬ L.length = 1000) (h4 : l.ends = true) : takeH e L k b l = ⟨e + 1, L ++ [(k, e, b)], L.length, 0⟩ := by
 unfold takeH; rw [if_neg (fun q => q h), if_neg (by rw [h2]; decide), if_neg h3, if_pos h4]
theorem th_5 {e : Int} {L : PLs} {k : Int} {b : List UInt8} {l : LK} (h : l.r = 0) (h2 : l.now = true) (h3 : ¬ L.length = 1000) (h4 : l.ends = false) : takeH e L k b l = ⟨e, L ++ [(k, e, b)], L.length, 0⟩ := by
 unfold takeH; rw [if_neg (fun q => q h), if_neg (by rw [h2]; decide), if_neg h3, if_neg (by rw [h4]; decide)]
def zSig : List UInt8 := List.replicate 3309 0
theorem zSig_len : zSig.length = 3309 := List.length_replicate
theorem look_put {g : List UInt8} {ep fr kd : Int} {bd sn cf mb : List UInt8} (h : msgP g ep fr kd bd sn cf mb) (G : List UInt8) (e : Int) :
  lookM G e (putF g ep fr kd bd sn cf mb) = ⟨decide (g = G /\ ep = e), decide (kd = 4), if kd = 5 then 181 else 0⟩ := by
 obtain ⟨h0, h1, h2, _, h4, _⟩ := msg_get h
 unfold lookM
 rw [h0, h1, h2, h4]
 by_cases q : kd = 5
 ·rw [if_pos ⟨rfl, q⟩, if_pos q]
 ·rw [if_neg (fun q2 => q q2.2), if_neg q]
theorem rightG {ep kd : Int} (h1 : 0 <= ep) (h2 : ep <= 1000000) (h3 : 1 <= kd) (h4 : kd <= 5) : msgP [103] ep 0 kd [] zSig [] [] :=
 ⟨⟨⟨by decide, by decide, h1, by omega, by decide, by decide⟩, h3, h4, by decide⟩, zSig_len, .inl rfl, .inl rfl⟩
def gMsg (ep kd : Int) : List UInt8 := putF [103] ep 0 kd [] zSig [] []
theorem gMsg_len (ep kd : Int) : (gMsg ep kd).length <= 1000000000 := Nat.le_trans (put_len _ _ _ _ _ _ _ _) (by decide)
theorem gMsg_E {ep kd : Int} (h1 : 0 <= ep) (h2 : ep <= 1000000) (h3 : 1 <= kd) (h4 : kd <= 5) : putE [103] ep 0 kd [] zSig [] [] = 0 := putE_yes (rightG h1 h2 h3 h4)
theorem look_g {ep kd : Int} (h1 : 0 <= ep) (h2 : ep <= 1000000) (h3 : 1 <= kd) (h4 : kd <= 4) (e : Int) : lookM [103] e (gMsg ep kd) = ⟨decide (ep = e), decide (kd = 4), 0⟩ := by
 rw [gMsg, look_put (rightG h1 h2 h3 (by omega)), if_neg (by omega)]
 congr 1
 exact decide_eq_decide.2 ⟨fun q => q.2, fun q => ⟨rfl, q⟩⟩
theorem hub_1 : takeH 0 [] 1 (gMsg 0 4) (lookM [103] 0 (gMsg 0 4)) = ⟨1, [(1, 0, gMsg 0 4)], 0, 0⟩ := by
 rw [look_g (by decide) (by decide) (by decide) (by decide)]
 exact th_4 rfl rfl (by decide) rfl
theorem hub_2 (L : PLs) : takeH 1 L 1 (gMsg 0 4) (lookM [103] 1 (gMsg 0 4)) = ⟨1, L, 0, 221⟩ := by
 rw [look_g (by decide) (by decide) (by decide) (by decide)]
 exact th_2 rfl rfl
abbrev OpR := Int × List UInt8 × Int × Int × Int × List UInt8 × List UInt8 × Int
def oD : OpR := (0, [], 0, 0, 0, [], [], 0)
def oW (l : List OpR) (i : Nat) : Int := (l.getD i oD).1
def oG (l : List OpR) (i : Nat) : List UInt8 := (l.getD i oD).2.1
def oE (l : List OpR) (i : Nat) : Int := (l.getD i oD).2.2.1
def oF (l : List OpR) (i : Nat) : Int := (l.getD i oD).2.2.2.1
def oK (l : List OpR) (i : Nat) : Int := (l.getD i oD).2.2.2.2.1
def oY (l : List OpR) (i : Nat) : List UInt8 := (l.getD i oD).2.2.2.2.2.1
def oB (l : List OpR) (i : Nat) : List UInt8 := (l.getD i oD).2.2.2.2.2.2.1
def oI (l : List OpR) (i : Nat) : Int := (l.getD i oD).2.2.2.2.2.2.2
def oPs (a : OpR) : List PV := [.v (.int .i64 a.1), .bs a.2.1, .v (.int .i64 a.2.2.1), .v (.int .i64 a.2.2.2.1), .v (.int .i64 a.2.2.2.2.1), .bs a.2.2.2.2.2.1, .bs a.2.2.2.2.2.2.1, .v (.int .i64 a.2.2.2.2.2.2.2)]
def oR (l : List OpR) (j : Nat) : PV := (oPs (l.getD (j / 8) oD)).getD (j % 8) (.v undef)
theorem oR_k (l : List OpR) (n k : Nat) (hk : k < 8) : oR l (n * 8 + k) = (oPs (l.getD n oD)).getD k (.v undef) := by
 unfold oR
 rw [show (n * 8 + k) / 8 = n by omega, show (n * 8 + k) % 8 = k by omega]
def grS (l : List OpR) (i : Nat) : Int := 4000 + (if 300000 < ((oB l i).length : Int) then 300000 else ((oB l i).length : Int)) + (if 300000 < ((oY l i).length : Int) then 300000 else ((oY l i).length : Int)) + (if 300000 < ((oG l i).length : Int) then 300000 else ((oG l i).length : Int))
def grN (l : List OpR) : Nat -> Int
 | 0 => 0
 | i + 1 => grN l i + grS l i
theorem grS_b (l : List OpR) (i : Nat) : 4000 <= grS l i /\ grS l i <= 904000 := by unfold grS; split <;> split <;> split <;> omega
theorem grN_ge (l : List OpR) (i : Nat) : 4000 * (i : Int) <= grN l i := by
 induction i with
 | zero => exact Int.le_refl _
 | succ i ih => have := (grS_b l i).1; show _ <= grN l i + grS l i; omega
theorem grN_mono (l : List OpR) {i j : Nat} (h : i <= j) : grN l i <= grN l j := by
  induction j with
  | zero => obtain rfl : i = 0 := by omega
            exact Int.le_refl _
  | succ j ih =>
    by_cases q : i = j + 1
    · subst q; exact Int.le_refl _
    · have h1 := ih (by omega)
      have := (grS_b l j).1
      show _ <= grN l j + grS l j; omega
def greatH (l : List OpR) : Prop := 300000 <= grN l l.length
instance (l : List OpR) : Decidable (greatH l) := inferInstanceAs (Decidable (_ <= _))
theorem great_few {l : List OpR} (h : ¬ greatH l) : l.length < 75 := by
 have := grN_ge l l.length
 unfold greatH at h; omega
theorem grN_s (l : List OpR) (i : Nat) : grN l (i + 1) = grN l i + 4000 + (if 300000 < ((oB l i).length : Int) then 300000 else ((oB l i).length : Int)) + (if 300000 < ((oY l i).length : Int) then 300000 else ((oY l i).length : Int)) + (if 300000 < ((oG l i).length : Int) then 300000 else ((oG l i).length : Int)) := by
 show grN l i + grS l i = _
 unfold grS; omega
theorem great_1 {l : List OpR} {i : Nat} (h : i <= l.length) (h2 : 300000 <= grN l i) : greatH l := Int.le_trans h2 (grN_mono l h)
theorem th_ok {e : Int} {L : PLs} {k : Int} {b : List UInt8} {l : LK} (h : (takeH e L k b l).r = 0) : l.r = 0 /\ l.now = true /\ L.length ≠ 1000 /\ takeH e L k b l = ⟨if l.ends = true then e + 1 else e, L ++ [(k, e, b)], L.length, 0⟩ := by
 by_cases h1 : l.r = 0
 ·cases h2 : l.now with
  | false => rw [th_2 h1 h2] at h; exact absurd h (show ¬ (221 : Int) = 0 by decide)
  | true =>
   by_cases h3 : L.length = 1000
   ·rw [th_3 h1 h2 h3] at h; exact absurd h (show ¬ (2 : Int) = 0 by decide)
   ·refine ⟨h1, rfl, h3, ?_⟩
    cases h4 : l.ends with
    | true => rw [th_4 h1 h2 h3 h4, if_pos rfl]
    | false => rw [th_5 h1 h2 h3 h4, if_neg (by decide)]
 ·rw [th_1 h1] at h; exact absurd h h1
theorem th_no {e : Int} {L : PLs} {k : Int} {b : List UInt8} {l : LK} (h : ¬ (takeH e L k b l).r = 0) : (takeH e L k b l).e = e /\ (takeH e L k b l).L = L := by
 by_cases h1 : l.r = 0
 ·cases h2 : l.now with
  | false => rw [th_2 h1 h2]; exact ⟨rfl, rfl⟩
  | true =>
   by_cases h3 : L.length = 1000
   ·rw [th_3 h1 h2 h3]; exact ⟨rfl, rfl⟩
   ·exfalso; apply h
    cases h4 : l.ends with
    | true => rw [th_4 h1 h2 h3 h4]
    | false => rw [th_5 h1 h2 h3 h4]
 ·rw [th_1 h1]; exact ⟨rfl, rfl⟩
def endN (L : PLs) : Nat -> Int
 | 0 => -1
 | i + 1 => if pK L i = 1 /\ gmK (pB L i) = 4 then pE L i else endN L i
structure HInv (e : Int) (L : PLs) : Prop where
 p : ∀ i, i < L.length -> pE L i = endN L i + 1 /\ (pK L i = 1 -> gmE (pB L i) = 0 /\ gmP (pB L i) = pE L i)
 e : e = endN L L.length + 1
theorem p_last (L : PLs) (k e : Int) (b : List UInt8) : pK (L ++ [(k, e, b)]) L.length = k /\ pE (L ++ [(k, e, b)]) L.length = e /\ pB (L ++ [(k, e, b)]) L.length = b := by
 have h := pG_r (A := L) (B := [(k, e, b)]) (Nat.le_refl L.length)
 rw [Nat.sub_self] at h
 exact ⟨congrArg Prod.fst h, congrArg (fun x => x.2.1) h, congrArg (fun x => x.2.2) h⟩
structure HS where
 e : Int
 L : PLs
def oP (l : List OpR) (n : Nat) : List UInt8 := putF (oG l n) (oE l n) (oF l n) (oK l n) (oY l n) zSig [] []
def oS (l : List OpR) (n : Nat) : List UInt8 := sealF (oG l n) (oE l n) (oF l n) 0 (oY l n)
theorem take_bnd {e : Int} {L : PLs} {k : Int} {b : List UInt8} {l : LK} {n : Nat} (h : L.length <= n /\ 0 <= e /\ e <= n) : (takeH e L k b l).L.length <= n + 1 /\ 0 <= (takeH e L k b l).e /\ (takeH e L k b l).e <= ((n + 1 : Nat) : Int) := by
 by_cases q : (takeH e L k b l).r = 0
 ·obtain ⟨_, _, _, h3⟩ := th_ok q
  rw [h3]
  refine ⟨by show (L ++ [_]).length <= _; rw [List.length_append]; show L.length + 1 <= _; omega, ?_, ?_⟩ <;> dsimp only <;> split <;> omega
 ·obtain ⟨h1, h2⟩ := th_no q
  rw [h1, h2]; exact ⟨by omega, by omega, by omega⟩
theorem oP_len (l : List OpR) (n : Nat) : (oP l n).length <= 1000000000 := Nat.le_trans (put_len _ _ _ _ _ _ _ _) (by decide)
theorem sealF_len (g : List UInt8) (ep fr gn : Int) (cl : List UInt8) : (sealF g ep fr gn cl).length <= 1000000000 := by
 unfold sealF
 split
 ·rename_i h
  rw [List.length_append]
  have h1 := tx_len cl
  have h2 := tx_len g
  have h3 := nu_len ep 8
  have h4 := nu_len gn 4
  have h5 := nu_len fr 4
  unfold aheadB
  simp only [List.length_append]
  omega
 ·exact Nat.zero_le _
theorem oS_len (l : List OpR) (n : Nat) : (oS l n).length <= 1000000000 := sealF_len _ _ _ _ _
theorem pR_oneB (L : PLs) (j : Nat) : (BV.p (pR L j)).one := by
 unfold pR
 split
 ·exact (rfl : (BV.p (.v (.int .i64 (pK L (j / 3))))).one)
 ·split
  ·exact (rfl : (BV.p (.v (.int .i64 (pE L (j / 3))))).one)
  ·trivial
def atK (L : PLs) (i : Int) : Int := if 0 <= i /\ i < L.length then pK L i.toNat else 0
def atE (L : PLs) (i : Int) : Int := if 0 <= i /\ i < L.length then pE L i.toNat else 0
def atB (L : PLs) (i : Int) : List UInt8 := if 0 <= i /\ i < L.length then pB L i.toNat else []
def atR (L : PLs) (i : Int) : Int := if 0 <= i /\ i < L.length then 0 else 1
theorem at_no {L : PLs} {i : Int} (h : ¬ (0 <= i /\ i < L.length)) : atK L i = 0 /\ atE L i = 0 /\ atB L i = [] /\ atR L i = 1 := ⟨if_neg h, if_neg h, if_neg h, if_neg h⟩
theorem at_yes {L : PLs} {i : Int} (h : 0 <= i /\ i < L.length) : atK L i = pK L i.toNat /\ atE L i = pE L i.toNat /\ atB L i = pB L i.toNat /\ atR L i = 0 := ⟨if_pos h, if_pos h, if_pos h, if_pos h⟩
def few (L : PLs) : Prop := ∀ i, i < L.length -> (pB L i).length <= 1000000000
theorem few_add {L : PLs} (h : few L) {k e : Int} {b : List UInt8} (hb : b.length <= 1000000000) : few (L ++ [(k, e, b)]) := fun i hi => by
 rw [List.length_append] at hi
 by_cases q : i < L.length
 ·rw [show pB (L ++ [(k, e, b)]) i = pB L i from congrArg (fun x => x.2.2) (pG_l (A := L) q)]; exact h i q
 ·obtain rfl : i = L.length := by have : i < L.length + 1 := hi; omega
  rw [(p_last L k e b).2.2]; exact hb
theorem few_take {e : Int} {L : PLs} (h : few L) {k : Int} {b : List UInt8} {l : LK} (hb : b.length <= 1000000000) : few (takeH e L k b l).L := by
 by_cases q : (takeH e L k b l).r = 0
 ·rw [(th_ok q).2.2.2]; exact few_add h hb
 ·rw [(th_no q).2]; exact h
abbrev PKs := List (Option (List UInt8))
def pkV : Option (List UInt8) -> PV
 | some b => .pp (.bs b)
 | none => .v (.pointer none)
def kV (p : PKs) (j : Nat) : PV := pkV (p.getD j none)
theorem kV_q (p : PKs) (i : Nat) : ptrQ (.p (kV p i)) (.p (.v (.pointer none))) = some (decide (p.getD i none = none)) := by
 unfold kV
 cases p.getD i none with
 | none => rfl
 | some b => rfl
theorem kV_b (p : PKs) (i : Nat) : binPP .eql (.p (kV p i)) (.p (.v (.pointer none))) = none := by
 unfold kV
 cases p.getD i none with
 | none => rfl
 | some b => rfl
theorem kV_s {p : PKs} {i : Nat} {b : List UInt8} (h : p.getD i none = some b) : kV p i = .pp (.bs b) := by unfold kV; rw [h]; rfl
theorem pk_some {x : Option (List UInt8)} (h : ¬ x = none) : ∃ b, x = some b := by
 cases x with
 | none => exact absurd rfl h
 | some b => exact ⟨b, rfl⟩
theorem kV_app (p : PKs) (b : List UInt8) (j : Nat) (hj : j < p.length + 1) : (if j < p.length then kV p (0 + j) else ([.pp (.bs b)] : List PV).getD (0 + (j - p.length)) (.v undef)) = kV (p ++ [some b]) j := by
 unfold kV
 by_cases h : j < p.length
 ·rw [if_pos h, Nat.zero_add]
  simp only [List.getD_eq_getElem?_getD, List.getElem?_append_left h]
 ·obtain rfl : j = p.length := by omega
  rw [if_neg h, Nat.sub_self]
  simp only [List.getD_eq_getElem?_getD, List.getElem?_append_right (Nat.le_refl _), Nat.sub_self]
  rfl
theorem kV_app2 (p : PKs) (b : List UInt8) (j : Nat) (hj : j < p.length + 1) : (if j < p.length then kV p j else ([.pp (.bs b)] : List PV).getD (0 + (j - p.length)) (.v undef)) = kV (p ++ [some b]) j := by
 have h := kV_app p b j hj
 rwa [Nat.zero_add j] at h
theorem getD_set (p : PKs) (i j : Nat) : (p.set i none).getD j none = if j = i then none else p.getD j none := by
 simp only [List.getD_eq_getElem?_getD, List.getElem?_set]
 by_cases h : i = j
 ·subst h
  rw [if_pos rfl, if_pos rfl]
  split <;> rfl
 ·rw [if_neg h, if_neg (Ne.symm h)]
theorem kV_set (p : PKs) (i j : Nat) : (if j = i then PV.v (.pointer none) else kV p j) = kV (p.set i none) j := by
 unfold kV
 rw [getD_set]
 split <;> rfl
structure LV where
 n : Int
 r : Int
 p : PKs
def leaveH (p : PKs) (b : List UInt8) : LV :=
 if b.length = 0 ∨ 10000 < b.length then ⟨0, 1, p⟩ else if p.length = 64 then ⟨0, 2, p⟩ else ⟨p.length, 0, p ++ [some b]⟩
theorem lv_1 {p : PKs} {b : List UInt8} (h : b.length = 0 ∨ 10000 < b.length) : leaveH p b = ⟨0, 1, p⟩ := if_pos h
theorem lv_2 {p : PKs} {b : List UInt8} (h : ¬ (b.length = 0 ∨ 10000 < b.length)) (h2 : p.length = 64) : leaveH p b = ⟨0, 2, p⟩ := by unfold leaveH; rw [if_neg h, if_pos h2]
theorem lv_3 {p : PKs} {b : List UInt8} (h : ¬ (b.length = 0 ∨ 10000 < b.length)) (h2 : ¬ p.length = 64) : leaveH p b = ⟨p.length, 0, p ++ [some b]⟩ := by unfold leaveH; rw [if_neg h, if_neg h2]
structure FT where
 b : List UInt8
 r : Int
 p : PKs
def fetchH (p : PKs) (i : Int) : FT := if 0 <= i /\ i < p.length then (match p.getD i.toNat none with | some b => ⟨b, 0, p.set i.toNat none⟩ | none => ⟨[], 1, p⟩) else ⟨[], 1, p⟩
theorem ft_1 {p : PKs} {i : Int} (h : ¬ (0 <= i /\ i < p.length)) : fetchH p i = ⟨[], 1, p⟩ := if_neg h
theorem ft_2 {p : PKs} {i : Int} (h : p.getD i.toNat none = none) : fetchH p i = ⟨[], 1, p⟩ := by
 unfold fetchH
 split
 ·rw [h]
 ·rfl
theorem ft_3 {p : PKs} {i : Int} {b : List UInt8} (h : 0 <= i /\ i < p.length) (h2 : p.getD i.toNat none = some b) : fetchH p i = ⟨b, 0, p.set i.toNat none⟩ := by
 unfold fetchH
 rw [if_pos h, h2]
def goodB (b : List UInt8) : Prop := ¬ (b.length = 0 ∨ 10000 < b.length)
instance (b : List UInt8) : Decidable (goodB b) := inferInstanceAs (Decidable (¬ _))
def tV (W : List (List UInt8)) (j : Nat) : PV := .bs (W.getD j [])
theorem tV_up (W : List (List UInt8)) (b : List UInt8) (j : Nat) (hj : j < W.length + 1) : (if j < W.length then tV W j else ([.bs b] : List PV).getD (0 + (j - W.length)) (.v undef)) = tV (W ++ [b]) j := by
 unfold tV
 by_cases h : j < W.length
 ·rw [if_pos h]
  simp only [List.getD_eq_getElem?_getD, List.getElem?_append_left h]
 ·obtain rfl : j = W.length := by omega
  rw [if_neg h, Nat.sub_self]
  simp only [List.getD_eq_getElem?_getD, List.getElem?_append_right (Nat.le_refl _), Nat.sub_self]
  rfl
theorem fetch_len (p : PKs) (i : Int) : (fetchH p i).p.length = p.length := by
 unfold fetchH
 split
 ·split
  ·exact List.length_set
  ·rfl
 ·rfl
def subP (W : List (List UInt8)) (p : PKs) : Prop := ∀ k b, p.getD k none = some b -> W.getD k [] = b
theorem sub_set {W : List (List UInt8)} {p : PKs} (h : subP W p) (i : Nat) : subP W (p.set i none) := fun k b hk => by
 rw [getD_set] at hk
 by_cases e : k = i
 ·rw [if_pos e] at hk; cases hk
 ·rw [if_neg e] at hk; exact h k b hk
theorem sub_fetch {W : List (List UInt8)} {p : PKs} (h : subP W p) (i : Int) : subP W (fetchH p i).p := by
 unfold fetchH
 split
 ·split
  ·exact sub_set h _
  ·exact h
 ·exact h
def fdV (p : PKs) (j : Nat) : PV := .v (.bool (decide (p.getD j none = none)))
theorem fd_set (p : PKs) (i j : Nat) : (if j = i then PV.v (.bool true) else fdV p j) = fdV (p.set i none) j := by
 unfold fdV
 rw [getD_set]
 by_cases h : j = i
 ·rw [if_pos h, if_pos h]; rfl
 ·rw [if_neg h, if_neg h]
theorem gm_bad {b : List UInt8} (h1 : (rd4 b 0 0).2.2 = 0) (h2 : (gm5 b).2.2 = 0)
  (h : ¬ (rd4 b 0 0).2.1 = b.length ∨ ¬ (gm5 b).2.1 = (rdT b 0 0).1.length ∨ ¬ msgP ((pl1 (rdT b 0 0).1 0 0).1) ((pl2 (rdT b 0 0).1 0 0).1) ((pl3 (rdT b 0 0).1 0 0).1) ((gm4 b).1) ((gm5 b).1) ((rd2 b 0 0).1) ((rd3 b 0 0).1) ((rd4 b 0 0).1)) : gmE b = 181 := by
 by_cases q : (gm5 b).2.1 = (rdT b 0 0).1.length
 ·have hI : gmI b = 0 := by unfold gmI; rw [endF_3 h2 q rfl]; exact h2
  rw [gmE_3 h1 hI]
  unfold gmO
  by_cases q2 : (rd4 b 0 0).2.1 = b.length
  ·rcases h with h | h | h
   ·exact absurd q2 h
   ·exact absurd q h
   ·exact endF_2 h1 (decide_eq_false h)
  ·exact endF_1 h1 q2
 ·have hI : gmI b = 181 := endF_1 h2 q
  rw [gmE_2 h1 (by rw [hI]; decide), hI]
theorem gm_good {b : List UInt8} (h1 : (rd4 b 0 0).2.2 = 0) (h2 : (gm5 b).2.2 = 0) (h3 : (rd4 b 0 0).2.1 = b.length) (h4 : (gm5 b).2.1 = (rdT b 0 0).1.length)
  (h5 : msgP ((pl1 (rdT b 0 0).1 0 0).1) ((pl2 (rdT b 0 0).1 0 0).1) ((pl3 (rdT b 0 0).1 0 0).1) ((gm4 b).1) ((gm5 b).1) ((rd2 b 0 0).1) ((rd3 b 0 0).1) ((rd4 b 0 0).1)) : gmE b = 0 := by
 have hI : gmI b = 0 := by unfold gmI; rw [endF_3 h2 h4 rfl]; exact h2
 rw [gmE_3 h1 hI]
 unfold gmO
 rw [endF_3 h1 h3 (decide_eq_true h5)]; exact h1
theorem gm_in {b : List UInt8} (h1 : (rd4 b 0 0).2.2 = 0) (h2 : ¬ (gm5 b).2.2 = 0) : gmE b = (gm5 b).2.2 := by
 have hI : gmI b = (gm5 b).2.2 := endF_4 h2
 rw [gmE_2 h1 (by rw [hI]; exact h2), hI]
def lookA (b : List UInt8) : LK := if b.length = 0 ∨ 1048576 < b.length then ⟨false, false, 1⟩ else ⟨true, false, 0⟩
theorem la_1 {b : List UInt8} (h : b.length = 0 ∨ 1048576 < b.length) : lookA b = ⟨false, false, 1⟩ := if_pos h
theorem la_2 {b : List UInt8} (h : ¬ (b.length = 0 ∨ 1048576 < b.length)) : lookA b = ⟨true, false, 0⟩ := if_neg h
def putL : LK := ⟨true, false, 0⟩
theorem pl_1 {e : Int} {L : PLs} {k : Int} {b : List UInt8} (h : L.length = 1000) : takeH e L k b putL = ⟨e, L, 0, 2⟩ := th_3 rfl rfl h
theorem pl_2 {e : Int} {L : PLs} {k : Int} {b : List UInt8} (h : ¬ L.length = 1000) : takeH e L k b putL = ⟨e, L ++ [(k, e, b)], L.length, 0⟩ := th_5 rfl rfl h rfl
structure okW (W : List (List UInt8)) (p : PKs) : Prop where
 l : W.length = p.length
 s : subP W p
theorem okW.nil : okW [] [] := ⟨rfl, fun k b h => by simp at h⟩
def leaveW (W : List (List UInt8)) (p : PKs) (b : List UInt8) : List (List UInt8) := if (leaveH p b).r = 0 then W ++ [b] else W
theorem okW.leave {W : List (List UInt8)} {p : PKs} (h : okW W p) (b : List UInt8) : okW (leaveW W p b) (leaveH p b).p := by
 unfold leaveW
 by_cases h1 : b.length = 0 ∨ 10000 < b.length
 ·rw [lv_1 h1, if_neg (show ¬ (1 : Int) = 0 by decide)]; exact h
 ·by_cases h2 : p.length = 64
  ·rw [lv_2 h1 h2, if_neg (show ¬ (2 : Int) = 0 by decide)]; exact h
  ·rw [lv_3 h1 h2, if_pos rfl]
   refine ⟨by rw [List.length_append, List.length_append, h.l]; rfl, fun k c hk => ?_⟩
   by_cases q : k < p.length
   ·have e1 : (p ++ [some b]).getD k none = p.getD k none := by simp only [List.getD_eq_getElem?_getD, List.getElem?_append_left q]
    have e2 : (W ++ [b]).getD k [] = W.getD k [] := by simp only [List.getD_eq_getElem?_getD, List.getElem?_append_left (show k < W.length by rw [h.l]; exact q)]
    rw [e1] at hk
    rw [e2]; exact h.s k c hk
   ·by_cases q2 : k = p.length
    ·subst q2
     simp only [List.getD_eq_getElem?_getD, List.getElem?_append_right (Nat.le_refl _), Nat.sub_self] at hk
     rw [<- h.l]
     simp only [List.getD_eq_getElem?_getD, List.getElem?_append_right (Nat.le_refl _), Nat.sub_self]
     cases hk; rfl
    ·exfalso
     have : (p ++ [some b])[k]? = none := List.getElem?_eq_none (by rw [List.length_append]; show p.length + 1 <= k; omega)
     rw [List.getD_eq_getElem?_getD, this] at hk
     cases hk
theorem okW.fetch {W : List (List UInt8)} {p : PKs} (h : okW W p) (i : Int) : okW W (fetchH p i).p := ⟨by rw [fetch_len]; exact h.l, sub_fetch h.s i⟩
theorem leave_len {p : PKs} (h : p.length <= 64) (b : List UInt8) : (leaveH p b).p.length <= 64 := by
 by_cases h1 : b.length = 0 ∨ 10000 < b.length
 ·rw [lv_1 h1]; exact h
 ·by_cases h2 : p.length = 64
  ·rw [lv_2 h1 h2]; exact h
  ·rw [lv_3 h1 h2]; show (p ++ [_]).length <= 64; rw [List.length_append]; show p.length + 1 <= 64; omega
theorem fdV_up (p : PKs) (b : List UInt8) (j : Nat) (hj : j < p.length + 1) : (if j < p.length then fdV p j else ([.v (.bool false)] : List PV).getD (0 + (j - p.length)) (.v undef)) = fdV (p ++ [some b]) j := by
 unfold fdV
 by_cases h : j < p.length
 ·rw [if_pos h]
  simp only [List.getD_eq_getElem?_getD, List.getElem?_append_left h]
 ·obtain rfl : j = p.length := by omega
  rw [if_neg h, Nat.sub_self]
  simp only [List.getD_eq_getElem?_getD, List.getElem?_append_right (Nat.le_refl _), Nat.sub_self]
  rfl
theorem pl_yes {e : Int} {L : PLs} {k : Int} {b : List UInt8} (h : (takeH e L k b putL).r = 0) : takeH e L k b putL = ⟨e, L ++ [(k, e, b)], L.length, 0⟩ := (th_ok h).2.2.2
theorem pl_no {e : Int} {L : PLs} {k : Int} {b : List UInt8} (h : ¬ (takeH e L k b putL).r = 0) : takeH e L k b putL = ⟨e, L, 0, 2⟩ := by
 by_cases q : L.length = 1000
 ·exact pl_1 q
 ·rw [pl_2 q] at h; exact absurd rfl h
theorem pl_e (e : Int) (L : PLs) (k : Int) (b : List UInt8) : (takeH e L k b putL).e = e := by
 by_cases q : L.length = 1000
 ·rw [pl_1 q]
 ·rw [pl_2 q]
theorem lm_1 {G : List UInt8} {e : Int} {b : List UInt8} (h : ¬ gmE b = 0) : (lookM G e b).r = gmE b := if_neg (fun q => h q.1)
theorem lm_2 {G : List UInt8} {e : Int} {b : List UInt8} (h : gmE b = 0) (h5 : gmK b = 5) : (lookM G e b).r = 181 := if_pos ⟨h, h5⟩
theorem lm_3 {G : List UInt8} {e : Int} {b : List UInt8} (h : gmE b = 0) (h5 : ¬ gmK b = 5) : (lookM G e b).r = 0 := (if_neg (fun q => h5 q.2)).trans h
section
variable {G b : List UInt8} {e : Int} {L : PLs}
theorem rp_1 (h : ¬ gmE b = 0) : takeH e L 1 b (lookM G e b) = ⟨e, L, 0, gmE b⟩ := by
 have h1 := lm_1 (G := G) (e := e) h
 rw [th_1 (by rw [h1]; exact h), h1]
theorem rp_2 (h : gmE b = 0) (h5 : gmK b = 5) : takeH e L 1 b (lookM G e b) = ⟨e, L, 0, 181⟩ := by
 have h1 := lm_2 (G := G) (e := e) h h5
 rw [th_1 (by rw [h1]; decide), h1]
theorem rp_3 (h : gmE b = 0) (h5 : ¬ gmK b = 5) (h6 : ¬ (gmG b = G /\ gmP b = e)) : takeH e L 1 b (lookM G e b) = ⟨e, L, 0, 221⟩ := th_2 (lm_3 h h5) (decide_eq_false h6)
theorem rp_4 (h : gmE b = 0) (h5 : ¬ gmK b = 5) (h6 : gmG b = G) (h7 : gmP b = e) (h8 : ¬ (takeH e L 1 b putL).r = 0) : takeH e L 1 b (lookM G e b) = ⟨e, L, 0, 2⟩ := by
 have q : L.length = 1000 := by
  by_cases q : L.length = 1000
  ·exact q
  ·rw [pl_2 q] at h8; exact absurd rfl h8
 exact th_3 (lm_3 h h5) (decide_eq_true ⟨h6, h7⟩) q
theorem rp_5 (h : gmE b = 0) (h5 : ¬ gmK b = 5) (h6 : gmG b = G) (h7 : gmP b = e) (h8 : (takeH e L 1 b putL).r = 0) (h9 : gmK b = 4) : takeH e L 1 b (lookM G e b) = ⟨e + 1, L ++ [(1, e, b)], L.length, 0⟩ :=
 th_4 (lm_3 h h5) (decide_eq_true ⟨h6, h7⟩) (th_ok h8).2.2.1 (decide_eq_true h9)
theorem rp_6 (h : gmE b = 0) (h5 : ¬ gmK b = 5) (h6 : gmG b = G) (h7 : gmP b = e) (h8 : (takeH e L 1 b putL).r = 0) (h9 : ¬ gmK b = 4) : takeH e L 1 b (lookM G e b) = ⟨e, L ++ [(1, e, b)], L.length, 0⟩ :=
 th_5 (lm_3 h h5) (decide_eq_true ⟨h6, h7⟩) (th_ok h8).2.2.1 (decide_eq_false h9)
theorem rt_1 (h : ¬ gsE b = 0) : takeH e L 3 b (lookT G e b) = ⟨e, L, 0, gsE b⟩ := th_1 (l := lookT G e b) h
theorem rt_2 (h : gsE b = 0) (h6 : ¬ (gs1 b = G /\ gs2 b = e)) : takeH e L 3 b (lookT G e b) = ⟨e, L, 0, 221⟩ := th_2 (l := lookT G e b) h (decide_eq_false h6)
theorem rt_3 (h : gsE b = 0) (h6 : gs1 b = G) (h7 : gs2 b = e) : takeH e L 3 b (lookT G e b) = takeH e L 3 b putL := by
 have : lookT G e b = putL := by
  unfold lookT putL
  rw [h, decide_eq_true ⟨h6, h7⟩]
 rw [this]
theorem rw_1 (h : b.length = 0 ∨ 1048576 < b.length) : takeH e L 2 b (lookA b) = ⟨e, L, 0, 1⟩ := by
 rw [la_1 h]; exact th_1 (l := ⟨false, false, 1⟩) (show ¬ (1 : Int) = 0 by decide)
theorem rw_2 (h : ¬ (b.length = 0 ∨ 1048576 < b.length)) : takeH e L 2 b (lookA b) = takeH e L 2 b putL := by rw [la_2 h]; rfl
end
theorem lw_1 {W : List (List UInt8)} {p : PKs} {b : List UInt8} (h : b.length = 0 ∨ 10000 < b.length) : leaveH p b = ⟨0, 1, p⟩ /\ leaveW W p b = W := ⟨lv_1 h, if_neg (by rw [lv_1 h]; exact (show ¬ (1 : Int) = 0 by decide))⟩
theorem lw_2 {W : List (List UInt8)} {p : PKs} {b : List UInt8} (h : ¬ (b.length = 0 ∨ 10000 < b.length)) (h2 : p.length = 64) : leaveH p b = ⟨0, 2, p⟩ /\ leaveW W p b = W := ⟨lv_2 h h2, if_neg (by rw [lv_2 h h2]; exact (show ¬ (2 : Int) = 0 by decide))⟩
theorem lw_3 {W : List (List UInt8)} {p : PKs} {b : List UInt8} (h : ¬ (b.length = 0 ∨ 10000 < b.length)) (h2 : ¬ p.length = 64) : leaveH p b = ⟨p.length, 0, p ++ [some b]⟩ /\ leaveW W p b = W ++ [b] := ⟨lv_3 h h2, if_pos (by rw [lv_3 h h2])⟩
theorem tkn (k : List UInt8) : List.take (0 + k.length) (List.drop 0 (List.take 0 (List.drop 0 []) ++ k)) = k := by simp
theorem fdV_up2 {n : Nat} {p : PKs} (hn : n = p.length) (b : List UInt8) (j : Nat) (hj : j < n + 1) : (if j < n then fdV p j else ([.v (.bool false)] : List PV).getD (0 + (j - n)) (.v undef)) = fdV (p ++ [some b]) j := by
 subst hn; exact fdV_up p b j hj
end Go.Vh

namespace Go.Vh
open Go Go.Vc
structure QS where
 e : Int
 L : PLs
 p : PKs
 W : List (List UInt8)
structure QO where
 e : Int
 L : PLs
 p : PKs
 W : List (List UInt8)
 nn : Int
 rr : Int
def qPost (G : List UInt8) (s : QS) (b : List UInt8) : QO := ⟨(takeH s.e s.L 1 b (lookM G s.e b)).e, (takeH s.e s.L 1 b (lookM G s.e b)).L, s.p, s.W, (takeH s.e s.L 1 b (lookM G s.e b)).n, (takeH s.e s.L 1 b (lookM G s.e b)).r⟩
def qText (G : List UInt8) (s : QS) (b : List UInt8) : QO := ⟨(takeH s.e s.L 3 b (lookT G s.e b)).e, (takeH s.e s.L 3 b (lookT G s.e b)).L, s.p, s.W, (takeH s.e s.L 3 b (lookT G s.e b)).n, (takeH s.e s.L 3 b (lookT G s.e b)).r⟩
def qWel (s : QS) (b : List UInt8) : QO := ⟨(takeH s.e s.L 2 b (lookA b)).e, (takeH s.e s.L 2 b (lookA b)).L, s.p, s.W, (takeH s.e s.L 2 b (lookA b)).n, (takeH s.e s.L 2 b (lookA b)).r⟩
def qLeave (s : QS) (b : List UInt8) : QO := ⟨s.e, s.L, (leaveH s.p b).p, leaveW s.W s.p b, (leaveH s.p b).n, (leaveH s.p b).r⟩
def qFetch (s : QS) (i : Int) : QO := ⟨s.e, s.L, (fetchH s.p i).p, s.W, 0, 0⟩
def qNone (s : QS) : QO := ⟨s.e, s.L, s.p, s.W, 0, 0⟩
abbrev cN (l : List OpR) (n : Nat) : Int := iAnd .i64 (oW l n) 7
def playO (G : List UInt8) (l : List OpR) (n : Nat) (s : QS) : QO :=
 if cN l n = 0 then qPost G s (oP l n) else if cN l n = 1 then qPost G s (oP l n) else if cN l n = 2 then qText G s (oS l n) else if cN l n = 3 then qWel s (oB l n) else if cN l n = 4 then qLeave s (oB l n)
 else if cN l n = 5 then qFetch s (oI l n) else if cN l n = 6 then qNone s else if cN l n = 7 then qPost G s (oB l n) else qNone s
def playS (G : List UInt8) (l : List OpR) : Nat -> QS
 | 0 => ⟨0, [], [], []⟩
 | n + 1 => ⟨(playO G l n (playS G l n)).e, (playO G l n (playS G l n)).L, (playO G l n (playS G l n)).p, (playO G l n (playS G l n)).W⟩
section
variable {G : List UInt8} {l : List OpR} {n : Nat} {s : QS}
theorem po_0 (h : cN l n = 0) : playO G l n s = qPost G s (oP l n) := if_pos h
theorem po_1 (h0 : ¬ cN l n = 0) (h : cN l n = 1) : playO G l n s = qPost G s (oP l n) := by unfold playO; rw [if_neg h0, if_pos h]
theorem po_2 (h0 : ¬ cN l n = 0) (h1 : ¬ cN l n = 1) (h : cN l n = 2) : playO G l n s = qText G s (oS l n) := by unfold playO; rw [if_neg h0, if_neg h1, if_pos h]
theorem po_3 (h0 : ¬ cN l n = 0) (h1 : ¬ cN l n = 1) (h2 : ¬ cN l n = 2) (h : cN l n = 3) : playO G l n s = qWel s (oB l n) := by unfold playO; rw [if_neg h0, if_neg h1, if_neg h2, if_pos h]
theorem po_4 (h0 : ¬ cN l n = 0) (h1 : ¬ cN l n = 1) (h2 : ¬ cN l n = 2) (h3 : ¬ cN l n = 3) (h : cN l n = 4) : playO G l n s = qLeave s (oB l n) := by unfold playO; rw [if_neg h0, if_neg h1, if_neg h2, if_neg h3, if_pos h]
theorem po_5 (h0 : ¬ cN l n = 0) (h1 : ¬ cN l n = 1) (h2 : ¬ cN l n = 2) (h3 : ¬ cN l n = 3) (h4 : ¬ cN l n = 4) (h : cN l n = 5) : playO G l n s = qFetch s (oI l n) := by unfold playO; rw [if_neg h0, if_neg h1, if_neg h2, if_neg h3, if_neg h4, if_pos h]
theorem po_6 (h0 : ¬ cN l n = 0) (h1 : ¬ cN l n = 1) (h2 : ¬ cN l n = 2) (h3 : ¬ cN l n = 3) (h4 : ¬ cN l n = 4) (h5 : ¬ cN l n = 5) (h : cN l n = 6) : playO G l n s = qNone s := by unfold playO; rw [if_neg h0, if_neg h1, if_neg h2, if_neg h3, if_neg h4, if_neg h5, if_pos h]
theorem po_7 (h0 : ¬ cN l n = 0) (h1 : ¬ cN l n = 1) (h2 : ¬ cN l n = 2) (h3 : ¬ cN l n = 3) (h4 : ¬ cN l n = 4) (h5 : ¬ cN l n = 5) (h6 : ¬ cN l n = 6) (h : cN l n = 7) : playO G l n s = qPost G s (oB l n) := by unfold playO; rw [if_neg h0, if_neg h1, if_neg h2, if_neg h3, if_neg h4, if_neg h5, if_neg h6, if_pos h]
theorem po_8 (h0 : ¬ cN l n = 0) (h1 : ¬ cN l n = 1) (h2 : ¬ cN l n = 2) (h3 : ¬ cN l n = 3) (h4 : ¬ cN l n = 4) (h5 : ¬ cN l n = 5) (h6 : ¬ cN l n = 6) (h7 : ¬ cN l n = 7) : playO G l n s = qNone s := by unfold playO; rw [if_neg h0, if_neg h1, if_neg h2, if_neg h3, if_neg h4, if_neg h5, if_neg h6, if_neg h7]
end
def fewW (W : List (List UInt8)) : Prop := ∀ i, (W.getD i []).length <= 1000000000
theorem fewW_add {W : List (List UInt8)} (h : fewW W) {b : List UInt8} (hb : b.length <= 1000000000) : fewW (W ++ [b]) := fun i => by
 by_cases q : i < W.length
 ·have e : (W ++ [b]).getD i [] = W.getD i [] := by simp only [List.getD_eq_getElem?_getD, List.getElem?_append_left q]
  rw [e]; exact h i
 ·have e : (W ++ [b]).getD i [] = ([b] : List (List UInt8)).getD (i - W.length) [] := by simp only [List.getD_eq_getElem?_getD, List.getElem?_append_right (Nat.le_of_not_lt q)]
  rw [e]
  match i - W.length with
  | 0 => exact hb
  | _ + 1 => exact Nat.zero_le _
structure PI (n : Nat) (s : QS) : Prop where
 b : s.L.length <= n /\ 0 <= s.e /\ s.e <= n
 p : s.p.length <= 64
 w : okW s.W s.p
 f : few s.L
 g : fewW s.W
theorem PI.take {n : Nat} {s : QS} (h : PI n s) {k : Int} {b : List UInt8} {l : LK} (hb : b.length <= 1000000000) : PI (n + 1) ⟨(takeH s.e s.L k b l).e, (takeH s.e s.L k b l).L, s.p, s.W⟩ :=
 ⟨take_bnd h.b, h.p, h.w, few_take h.f hb, h.g⟩
theorem PI.up {n : Nat} {s : QS} (h : PI n s) : PI (n + 1) s := ⟨⟨by have := h.b.1; omega, h.b.2.1, by have := h.b.2.2; omega⟩, h.p, h.w, h.f, h.g⟩
theorem PI.leave {n : Nat} {s : QS} (h : PI n s) {b : List UInt8} (hb : b.length <= 1000000000) : PI (n + 1) ⟨s.e, s.L, (leaveH s.p b).p, leaveW s.W s.p b⟩ := by
 refine ⟨h.up.b, leave_len h.p b, h.w.leave b, h.f, ?_⟩
 show fewW (leaveW s.W s.p b)
 unfold leaveW
 split
 ·exact fewW_add h.g hb
 ·exact h.g
theorem PI.fetch {n : Nat} {s : QS} (h : PI n s) (i : Int) : PI (n + 1) ⟨s.e, s.L, (fetchH s.p i).p, s.W⟩ := ⟨h.up.b, by show (fetchH s.p i).p.length <= 64; rw [fetch_len]; exact h.p, h.w.fetch i, h.f, h.g⟩
theorem great_b {l : List OpR} (h : ¬ greatH l) (n : Nat) (hn : n < l.length) : (oB l n).length <= 1000000000 := by
 have h1 := grN_mono l (i := n + 1) (j := l.length) (by omega)
 have h2 := grN_s l n
 have h3 := grN_ge l n
 unfold greatH at h
 have h4 : (if 300000 < ((oB l n).length : Int) then (300000 : Int) else ((oB l n).length : Int)) < 300000 := by
  have a1 : (0 : Int) <= (if 300000 < ((oY l n).length : Int) then (300000 : Int) else ((oY l n).length : Int)) := by split <;> omega
  have a2 : (0 : Int) <= (if 300000 < ((oG l n).length : Int) then (300000 : Int) else ((oG l n).length : Int)) := by split <;> omega
  omega
 by_cases q : 300000 < ((oB l n).length : Int)
 ·rw [if_pos q] at h4; omega
 ·omega
theorem play_inv (G : List UInt8) {l : List OpR} (hg : ¬ greatH l) : ∀ n, n <= l.length -> PI n (playS G l n) := by
 intro n
 induction n with
 | zero => exact fun _ => ⟨⟨Nat.le_refl _, Int.le_refl _, Int.le_refl _⟩, Nat.zero_le _, okW.nil, fun i hi => absurd hi (Nat.not_lt_zero i), fun i => Nat.zero_le _⟩
 | succ n ih =>
  intro hn
  have h := ih (by omega)
  have hb := great_b hg n (by omega)
  show PI (n + 1) ⟨(playO G l n (playS G l n)).e, (playO G l n (playS G l n)).L, (playO G l n (playS G l n)).p, (playO G l n (playS G l n)).W⟩
  by_cases h0 : cN l n = 0
  ·rw [po_0 h0]; exact h.take (oP_len l n)
  by_cases h1 : cN l n = 1
  ·rw [po_1 h0 h1]; exact h.take (oP_len l n)
  by_cases h2 : cN l n = 2
  ·rw [po_2 h0 h1 h2]; exact h.take (oS_len l n)
  by_cases h3 : cN l n = 3
  ·rw [po_3 h0 h1 h2 h3]; exact h.take hb
  by_cases h4 : cN l n = 4
  ·rw [po_4 h0 h1 h2 h3 h4]; exact h.leave hb
  by_cases h5 : cN l n = 5
  ·rw [po_5 h0 h1 h2 h3 h4 h5]; exact h.fetch _
  by_cases h6 : cN l n = 6
  ·rw [po_6 h0 h1 h2 h3 h4 h5 h6]; exact h.up
  by_cases h7 : cN l n = 7
  ·rw [po_7 h0 h1 h2 h3 h4 h5 h6 h7]; exact h.take hb
  ·rw [po_8 h0 h1 h2 h3 h4 h5 h6 h7]; exact h.up
theorem oR_one (l : List OpR) (n j : Nat) (hj : j < 8) : (BV.p (oR l (n * 8 + j))).one := by
 rw [oR_k l n j hj]
 match j, hj with
 | 0, _ => exact rfl
 | 1, _ => trivial
 | 2, _ => exact rfl
 | 3, _ => exact rfl
 | 4, _ => exact rfl
 | 5, _ => trivial
 | 6, _ => trivial
 | 7, _ => exact rfl
end Go.Vh
