/- What is proved: plain facts on lists of bytes and on numbers, for the laws of this seat; no condition. -/
import Derived.Test.YtafjehcdldgngaaDoorFrame1
set_option linter.unusedVariables false
set_option linter.unusedSimpArgs false
/- The plain law of layer 11: numbers, lengths, texts, lists, as plain functions. -/
set_option linter.unusedVariables false
namespace Go.Vw
open Go Go.Vc

/-! ### Numbers -/
def fitsF (n : Int) : Bool := decide (n = 1 ∨ n = 2 ∨ n = 4 ∨ n = 8)
theorem fitsT {n : Int} (h : fitsF n = true) : n = 1 ∨ n = 2 ∨ n = 4 ∨ n = 8 := by simpa [fitsF] using h
theorem fitsN {n : Int} (h : fitsF n = false) : ¬ (n = 1 ∨ n = 2 ∨ n = 4 ∨ n = 8) := by simpa [fitsF] using h
theorem fits_t {n : Int} (h : n = 1 ∨ n = 2 ∨ n = 4 ∨ n = 8) : true = fitsF n := by simp [fitsF, h]
theorem fits_f {n : Int} (h : ¬ (n = 1 ∨ n = 2 ∨ n = 4 ∨ n = 8)) : false = fitsF n := by simp only [fitsF]; exact (decide_eq_false h).symm

/-- The number that bytes are, the first the greatest. -/
def beN (l : List UInt8) : Nat := l.foldl (fun n c => n * 256 + c.toNat) 0
theorem beN_nil : beN [] = 0 := rfl
theorem beN_snoc (l : List UInt8) (c : UInt8) : beN (l ++ [c]) = beN l * 256 + c.toNat := by simp [beN, List.foldl_append]
theorem beN_take {l : List UInt8} {s : Nat} (h : s < l.length) : beN (l.take (s + 1)) = beN (l.take s) * 256 + (l.getD s 0).toNat := by
  rw [List.take_add_one, List.getElem?_eq_getElem h, List.getD_eq_getElem?_getD, List.getElem?_eq_getElem h]
  exact beN_snoc _ _
theorem foldl_be (l : List UInt8) (a : Nat) : l.foldl (fun n c => n * 256 + c.toNat) a = a * 256 ^ l.length + beN l := by
  induction l generalizing a with
  | nil => simp [beN]
  | cons c r ih =>
    simp only [List.foldl_cons, beN, List.length_cons]
    rw [ih, ih (0 * 256 + c.toNat)]
    rw [Nat.pow_succ, Nat.add_mul]
    simp only [Nat.zero_mul, Nat.zero_add]
    rw [Nat.mul_assoc, Nat.mul_comm 256]
    omega
theorem beN_cons (c : UInt8) (l : List UInt8) : beN (c :: l) = c.toNat * 256 ^ l.length + beN l := by
  show l.foldl _ (0 * 256 + c.toNat) = _
  rw [foldl_be]; simp
theorem beN_append (l m : List UInt8) : beN (l ++ m) = beN l * 256 ^ m.length + beN m := by
  show (l ++ m).foldl _ 0 = _
  rw [List.foldl_append, foldl_be]; rfl
theorem beN_lt (l : List UInt8) : beN l < 256 ^ l.length := by
  induction l with
  | nil => simp [beN]
  | cons c r ih =>
    rw [beN_cons, List.length_cons, Nat.pow_succ]
    have := c.toNat_lt
    have h1 : c.toNat * 256 ^ r.length ≤ 255 * 256 ^ r.length := Nat.mul_le_mul_right _ (by omega)
    omega

/-! ### 64 bits -/
theorem i64_eq (n : Int) : IntKind.i64.wrap n = if 9223372036854775808 ≤ n % 18446744073709551616 then n % 18446744073709551616 - 18446744073709551616 else n % 18446744073709551616 := by
  simp [IntKind.wrap, IntKind.bits, IntKind.signed]
theorem i64_mod (n : Int) : IntKind.i64.wrap n % 18446744073709551616 = n % 18446744073709551616 := by
  rw [i64_eq]; split <;> omega
theorem i64_congr {a b : Int} (h : a % 18446744073709551616 = b % 18446744073709551616) : IntKind.i64.wrap a = IntKind.i64.wrap b := by
  rw [i64_eq, i64_eq, h]
theorem ofInt_congr {a b : Int} (h : a % 18446744073709551616 = b % 18446744073709551616) : BitVec.ofInt 64 a = BitVec.ofInt 64 b := by
  apply BitVec.eq_of_toNat_eq
  simp only [BitVec.toNat_ofInt]
  have e : ((2 ^ 64 : Nat) : Int) = 18446744073709551616 := by decide
  rw [e, h]
theorem ofInt_nat (n : Nat) : BitVec.ofInt 64 (n : Int) = BitVec.ofNat 64 n := by simp
set_option maxRecDepth 100000 in
theorem or_byte (m c : Nat) (hc : c < 256) : BitVec.ofNat 64 (m * 256) ||| BitVec.ofNat 64 c = BitVec.ofNat 64 (m * 256 + c) := by
  apply BitVec.eq_of_toNat_eq
  simp only [BitVec.toNat_or, BitVec.toNat_ofNat, Nat.reducePow]
  have e1 : c % 18446744073709551616 = c := Nat.mod_eq_of_lt (by omega)
  have e2 : m * 256 % 18446744073709551616 = (m % 72057594037927936) <<< 8 := by simp only [Nat.shiftLeft_eq, Nat.reducePow]; omega
  have e3 : (m * 256 + c) % 18446744073709551616 = (m % 72057594037927936) <<< 8 + c := by simp only [Nat.shiftLeft_eq, Nat.reducePow]; omega
  rw [e1, e2, e3, Nat.shiftLeft_add_eq_or_of_lt (by simpa using hc)]
/-- One byte more, in 64 bits. -/
theorem i64_step (m : Nat) (c : UInt8) : iOr .i64 (iShl .i64 (IntKind.i64.wrap (m : Int)) 8) (c.toNat : Int) = IntKind.i64.wrap ((m * 256 + c.toNat : Nat) : Int) := by
  have hc := c.toNat_lt
  have e1 : iShl .i64 (IntKind.i64.wrap (m : Int)) 8 = IntKind.i64.wrap ((m * 256 : Nat) : Int) := by
    show IntKind.i64.wrap (IntKind.i64.wrap (m : Int) * 256) = _
    apply i64_congr
    have := i64_mod m
    omega
  rw [e1]
  show IntKind.i64.wrap ((BitVec.ofInt 64 (IntKind.i64.wrap ((m * 256 : Nat) : Int)) ||| BitVec.ofInt 64 (c.toNat : Int)).toNat : Int) = _
  rw [ofInt_congr (i64_mod _), ofInt_nat, ofInt_nat, or_byte _ _ hc]
  apply i64_congr
  simp only [BitVec.toNat_ofNat, Nat.reducePow]
  omega

/-! ### Numbers that are read -/
def getF (b : List UInt8) (i n : Int) : Int × Int × Int :=
  if i < 0 ∨ (b.length : Int) < i ∨ ¬ (n = 1 ∨ n = 2 ∨ n = 4 ∨ n = 8) then (0, 0, 1)
  else if (b.length : Int) - i < n then (0, 0, 111)
  else if 9223372036854775808 ≤ beN ((b.take (i + n).toNat).drop i.toNat) then (0, 0, 112)
  else ((beN ((b.take (i + n).toNat).drop i.toNat) : Int), i + n, 0)
theorem getF_arg {b : List UInt8} {i n : Int} (h : i < 0 ∨ (b.length : Int) < i ∨ ¬ (n = 1 ∨ n = 2 ∨ n = 4 ∨ n = 8)) : getF b i n = (0, 0, 1) := if_pos h
theorem getF_end {b : List UInt8} {i n : Int} (h : 0 ≤ i) (h1 : i ≤ b.length) (h2 : n = 1 ∨ n = 2 ∨ n = 4 ∨ n = 8) (h3 : (b.length : Int) - i < n) : getF b i n = (0, 0, 111) := by
  unfold getF; rw [if_neg (by omega), if_pos h3]
theorem beN_small {l : List UInt8} {n : Nat} (h : l.length ≤ n) (h8 : n ≤ 8) : beN l < 18446744073709551616 := by
  refine Nat.lt_of_lt_of_le (beN_lt l) ?_
  exact Nat.le_trans (Nat.pow_le_pow_right (by omega) (Nat.le_trans h h8)) (by decide)
theorem cut_len {b : List UInt8} {i n : Int} (h : 0 ≤ i) (hn : 0 ≤ n) (h3 : n ≤ (b.length : Int) - i) : ((b.take (i + n).toNat).drop i.toNat).length = n.toNat := by
  simp; omega
theorem getF_long {b : List UInt8} {i n : Int} (h : 0 ≤ i) (h1 : i ≤ b.length) (h2 : n = 1 ∨ n = 2 ∨ n = 4 ∨ n = 8) (h3 : n ≤ (b.length : Int) - i) (h4 : IntKind.i64.wrap (beN ((b.take (i + n).toNat).drop i.toNat) : Int) < 0) : getF b i n = (0, 0, 112) := by
  have hs := @beN_small ((b.take (i + n).toNat).drop i.toNat) 8 (by rw [cut_len h (by omega) h3]; omega) (by omega)
  rw [i64_eq] at h4
  unfold getF; rw [if_neg (by omega), if_neg (by omega), if_pos]
  split at h4 <;> omega
theorem getF_ok {b : List UInt8} {i n : Int} (h : 0 ≤ i) (h1 : i ≤ b.length) (h2 : n = 1 ∨ n = 2 ∨ n = 4 ∨ n = 8) (h3 : n ≤ (b.length : Int) - i) (h4 : ¬ IntKind.i64.wrap (beN ((b.take (i + n).toNat).drop i.toNat) : Int) < 0) :
    getF b i n = (IntKind.i64.wrap (beN ((b.take (i + n).toNat).drop i.toNat) : Int), i + n, 0) := by
  have hs := @beN_small ((b.take (i + n).toNat).drop i.toNat) 8 (by rw [cut_len h (by omega) h3]; omega) (by omega)
  have e : IntKind.i64.wrap (beN ((b.take (i + n).toNat).drop i.toNat) : Int) = (beN ((b.take (i + n).toNat).drop i.toNat) : Int) := by
    rw [i64_eq] at h4 ⊢
    split at h4 <;> rename_i h5
    · omega
    · rw [if_neg h5]; omega
  unfold getF; rw [if_neg (by omega), if_neg (by omega), if_neg, e]
  rw [i64_eq] at h4
  split at h4 <;> omega

/-! ### Numbers that are written -/
def numB (n : Int) (k : Nat) : List UInt8 := (List.range k).map fun j => UInt8.ofInt (n / 256 ^ (k - 1 - j))
def numF (n size : Int) : List UInt8 :=
  if ¬ (size = 1 ∨ size = 2 ∨ size = 4 ∨ size = 8) ∨ n < 0 ∨ (size < 8 ∧ (256 : Int) ^ size.toNat ≤ n) then [] else numB n size.toNat
theorem numB_len (n : Int) (k : Nat) : (numB n k).length = k := by simp [numB]
theorem numF_len (n k : Int) : (numF n k).length ≤ 8 := by
  unfold numF; split
  · simp
  · rw [numB_len]; omega
theorem numB_get {n : Int} {k j : Nat} (h : j < k) : (numB n k)[j]? = some (UInt8.ofInt (n / 256 ^ (k - 1 - j))) := by simp [numB, h]
theorem shr_byte (n : Int) (j : Nat) (h : j ≤ 8) : iShr .i64 n (8 * j) = n / 256 ^ j := by
  simp only [iShr, IntKind.bits]
  rw [Nat.min_eq_left (by omega)]
  congr 1
  rw [Int.pow_mul]; rfl
theorem shl_one {k : Int} (hk : k = 1 ∨ k = 2 ∨ k = 4) : iShl .i64 1 (8 * k).toNat = (256 : Int) ^ k.toNat := by
  rcases hk with rfl | rfl | rfl <;> decide
theorem numB_step {n : Int} {k s : Nat} (h : s < k) (h8 : k ≤ 8) : (List.replicate (k - s) 0 ++ (numB n k).drop (k - s)).set (k - 1 - s) (UInt8.ofInt (iShr .i64 n (8 * s))) = List.replicate (k - (s + 1)) 0 ++ (numB n k).drop (k - (s + 1)) := by
  rw [shr_byte n s (by omega)]
  apply List.ext_getElem?
  intro j
  have hl := numB_len n k
  rcases Nat.lt_trichotomy j (k - 1 - s) with h1 | h1 | h1
  · rw [List.getElem?_set_ne (by omega), List.getElem?_append_left (by simp; omega), List.getElem?_append_left (by simp; omega)]
    simp [show j < k - s by omega, show j < k - (s + 1) by omega]
  · subst h1
    rw [List.getElem?_set_self (by simp [hl]; omega), List.getElem?_append_right (by simp; omega), List.getElem?_drop, numB_get (by simp; omega)]
    congr 4
    simp; omega
  · rw [List.getElem?_set_ne (by omega), List.getElem?_append_right (by simp; omega), List.getElem?_append_right (by simp; omega), List.getElem?_drop, List.getElem?_drop]
    congr 1
    simp; omega
theorem numF_bad {n k : Int} (h : ¬ (k = 1 ∨ k = 2 ∨ k = 4 ∨ k = 8) ∨ n < 0) : numF n k = [] := by
  unfold numF; rw [if_pos]; omega
theorem numF_big {n k : Int} (h : k = 1 ∨ k = 2 ∨ k = 4) (h2 : iShl .i64 1 (8 * k).toNat ≤ n) : numF n k = [] := by
  rw [shl_one h] at h2
  unfold numF; rw [if_pos]; exact .inr (.inr ⟨by omega, h2⟩)
theorem numF_ok {n k : Int} (h : k = 1 ∨ k = 2 ∨ k = 4 ∨ k = 8) (h1 : 0 ≤ n) (h2 : ¬ (k < 8 ∧ iShl .i64 1 (8 * k).toNat ≤ n)) : numF n k = numB n k.toNat := by
  unfold numF; rw [if_neg]
  rintro (h3 | h3 | ⟨h3, h4⟩)
  · exact h3 h
  · omega
  · refine h2 ⟨h3, ?_⟩
    rw [shl_one (by omega)]; exact h4
theorem num_step {n k : Int} {s : Nat} (h : s < k.toNat) (h8 : k ≤ 8) : (List.replicate (k.toNat - s) 0 ++ (numB n k.toNat).drop (k.toNat - s)).set (k - 1 - (s : Int)).toNat (UInt8.ofInt (iShr .i64 n (8 * (s : Int)).toNat)) = List.replicate (k.toNat - (s + 1)) 0 ++ (numB n k.toNat).drop (k.toNat - (s + 1)) := by
  rw [show (k - 1 - (s : Int)).toNat = k.toNat - 1 - s from by omega, show (8 * (s : Int)).toNat = 8 * s from by omega]
  exact numB_step h (by omega)
theorem num_fin {n k : Int} {s : Nat} (h : s = k.toNat) : List.replicate (k.toNat - s) (0 : UInt8) ++ (numB n k.toNat).drop (k.toNat - s) = numB n k.toNat := by
  subst h; simp
end Go.Vw

/- The plain law of layer 11, continued: lengths, texts, lists. -/
set_option linter.unusedVariables false
namespace Go.Vw
open Go Go.Vc

/-! ### Lengths -/
def tblI (k : Int) : Int := ([6, 14, 30] : List Int).getD k.toNat 0
theorem shl_tbl {k : Int} (h0 : 0 ≤ k) (h : k < 3) : 64 ≤ iShl .i64 1 (([6, 14, 30] : List Int).getD k.toNat 0).toNat ∧ iShl .i64 1 (([6, 14, 30] : List Int).getD k.toNat 0).toNat ≤ 1073741824 := by
  obtain rfl | rfl | rfl : k = 0 ∨ k = 1 ∨ k = 2 := by omega
  all_goals decide
theorem tbl_nn (k : Int) : 0 ≤ ([6, 14, 30] : List Int).getD k.toNat 0 := by
  match k.toNat with
  | 0 => decide
  | 1 => decide
  | 2 => decide
  | n + 3 => simp
theorem shl_cls {k : Int} (h0 : 0 ≤ k) (h : k < 3) : iShl .i64 1 k.toNat = 1 ∨ iShl .i64 1 k.toNat = 2 ∨ iShl .i64 1 k.toNat = 4 := by
  obtain rfl | rfl | rfl : k = 0 ∨ k = 1 ∨ k = 2 := by omega
  all_goals decide
theorem shr6 (c : UInt8) : ((u8Shr c 6).toNat : Int) = (c.toNat : Int) / 64 := by
  have := c.toNat_lt
  simp only [u8Shr, UInt8.toNat_ofNat']
  omega
theorem shr6_le (c : UInt8) : (u8Shr c 6).toNat ≤ 3 := by
  have := c.toNat_lt
  have := shr6 c
  omega
theorem iAnd_bound (a : Int) {m : Int} (h0 : 0 ≤ m) (h1 : m ≤ 9223372036854775807) : 0 ≤ iAnd .i64 a m ∧ iAnd .i64 a m ≤ m := by
  have hle : (BitVec.ofInt 64 a &&& BitVec.ofInt 64 m).toNat ≤ m.toNat := by
    rw [BitVec.toNat_and]
    refine Nat.le_trans Nat.and_le_right ?_
    simp only [BitVec.toNat_ofInt]
    have e : ((2 ^ 64 : Nat) : Int) = 18446744073709551616 := by decide
    rw [e, Int.emod_eq_of_lt h0 (by omega)]
    omega
  have e : iAnd .i64 a m = ((BitVec.ofInt 64 a &&& BitVec.ofInt 64 m).toNat : Int) := by
    show IntKind.i64.wrap ((BitVec.ofInt 64 a &&& BitVec.ofInt 64 m).toNat : Int) = _
    exact wrap_i64 (by omega) (by omega)
  rw [e]; omega

def lenF (n : Int) : List UInt8 :=
  if n < 64 then [UInt8.ofInt n] else if n < 16384 then [UInt8.ofInt (n / 256 + 64), UInt8.ofInt n]
  else [UInt8.ofInt (n / 16777216 + 128), UInt8.ofInt (n / 65536), UInt8.ofInt (n / 256), UInt8.ofInt n]
theorem lenF_len (n : Int) : (lenF n).length = if n < 64 then 1 else if n < 16384 then 2 else 4 := by
  unfold lenF; split
  · rfl
  · split <;> rfl
theorem lenF_le (n : Int) : (lenF n).length ≤ 4 := by rw [lenF_len]; split <;> (try split) <;> omega
theorem u8_congr {a b : Int} (h : a % 256 = b % 256) : UInt8.ofInt a = UInt8.ofInt b := by
  apply UInt8.toNat_inj.1
  have e : ∀ n : Int, ((UInt8.ofInt n).toNat : Int) = n % 256 := by
    intro n
    simp only [UInt8.ofInt, UInt8.toNat_ofNat']
    omega
  have h1 := e a
  have h2 := e b
  omega
theorem u8_toNat (n : Int) : ((UInt8.ofInt n).toNat : Int) = n % 256 := by
  simp only [UInt8.ofInt, UInt8.toNat_ofNat']
  omega
theorem u8_add (a : Int) (c : Nat) : UInt8.ofInt a + UInt8.ofNat c = UInt8.ofInt (a + c) := by
  apply UInt8.toNat_inj.1
  rw [UInt8.toNat_add]
  have h1 := u8_toNat a
  have h2 := u8_toNat (a + c)
  simp only [UInt8.toNat_ofNat']
  omega
theorem iOr_add {a b : Int} {i : Nat} (h0 : 0 ≤ a) (h1 : a < 2 ^ i) (hb : 0 ≤ b) (h2 : a + b * 2 ^ i ≤ 9223372036854775807) : iOr .i64 a (b * 2 ^ i) = a + b * 2 ^ i := by
  obtain ⟨m, rfl⟩ := Int.eq_ofNat_of_zero_le h0
  obtain ⟨q, rfl⟩ := Int.eq_ofNat_of_zero_le hb
  have e0 : (q : Int) * 2 ^ i = ((q * 2 ^ i : Nat) : Int) := by push_cast; rfl
  rw [e0] at h2 ⊢
  have hm : m < 2 ^ i := by
    have : ((2 : Int) ^ i) = ((2 ^ i : Nat) : Int) := by push_cast; rfl
    rw [this] at h1; omega
  have e1 : (BitVec.ofInt 64 (m : Int) ||| BitVec.ofInt 64 ((q * 2 ^ i : Nat) : Int)).toNat = m + q * 2 ^ i := by
    rw [ofInt_nat, ofInt_nat, BitVec.toNat_or]
    simp only [BitVec.toNat_ofNat, Nat.reducePow]
    rw [Nat.mod_eq_of_lt (by omega), Nat.mod_eq_of_lt (by omega), Nat.or_comm, ← Nat.shiftLeft_eq, ← Nat.shiftLeft_add_eq_or_of_lt hm]
    omega
  show IntKind.i64.wrap ((BitVec.ofInt 64 (m : Int) ||| BitVec.ofInt 64 ((q * 2 ^ i : Nat) : Int)).toNat : Int) = _
  rw [e1, wrap_i64 (by omega) (by omega)]
  push_cast; rfl

theorem numB1 (n : Int) : numB n 1 = [UInt8.ofInt n] := by simp [numB, List.range_succ]
theorem numB2 (n : Int) : numB n 2 = [UInt8.ofInt (n / 256), UInt8.ofInt n] := by simp [numB, List.range_succ]
theorem numB4 (n : Int) : numB n 4 = [UInt8.ofInt (n / 16777216), UInt8.ofInt (n / 65536), UInt8.ofInt (n / 256), UInt8.ofInt n] := by simp [numB, List.range_succ]
theorem lenP {n s : Int} (h0 : 0 ≤ n) (hn : n < 1073741824) (hs : 0 ≤ s) (hs2 : s ≤ 2) (h1 : 0 < s → 64 ≤ n) (h2 : 1 < s → 16384 ≤ n) (h3 : n < iShl .i64 1 (([6, 14, 30] : List Int).getD s.toNat 0).toNat) :
    numF (iOr .i64 n (iShl .i64 s (([6, 14, 30] : List Int).getD s.toNat 0).toNat)) (iShl .i64 1 s.toNat) = lenF n := by
  obtain rfl | rfl | rfl : s = 0 ∨ s = 1 ∨ s = 2 := by omega
  · have e : iShl .i64 1 (([6, 14, 30] : List Int).getD (0 : Int).toNat 0).toNat = 64 := by decide
    rw [e] at h3
    have e2 : iShl .i64 0 (([6, 14, 30] : List Int).getD (0 : Int).toNat 0).toNat = 0 * 2 ^ 6 := by decide
    have e3 : iShl .i64 1 (0 : Int).toNat = 1 := by decide
    have e4 : iShl .i64 1 (8 * (1 : Int)).toNat = 256 := by decide
    rw [e2, e3, iOr_add h0 (by omega) (by omega) (by omega), numF_ok (by omega) (by omega) (by rw [e4]; omega)]
    unfold lenF
    rw [if_pos h3, show (1 : Int).toNat = 1 from rfl, numB1]
    simp
  · have e : iShl .i64 1 (([6, 14, 30] : List Int).getD (1 : Int).toNat 0).toNat = 16384 := by decide
    rw [e] at h3
    have e2 : iShl .i64 1 (([6, 14, 30] : List Int).getD (1 : Int).toNat 0).toNat = 1 * 2 ^ 14 := by decide
    have e3 : iShl .i64 1 (1 : Int).toNat = 2 := by decide
    have e4 : iShl .i64 1 (8 * (2 : Int)).toNat = 65536 := by decide
    have h4 := h1 (by omega)
    rw [e2, e3, iOr_add h0 (by omega) (by omega) (by omega), numF_ok (by omega) (by omega) (by rw [e4]; omega)]
    unfold lenF
    rw [if_neg (by omega), if_pos h3, show (2 : Int).toNat = 2 from rfl, numB2]
    rw [u8_congr (a := (n + 1 * 2 ^ 14) / 256) (b := n / 256 + 64) (by omega), u8_congr (a := n + 1 * 2 ^ 14) (b := n) (by omega)]
  · have e2 : iShl .i64 2 (([6, 14, 30] : List Int).getD (2 : Int).toNat 0).toNat = 2 * 2 ^ 30 := by decide
    have e3 : iShl .i64 1 (2 : Int).toNat = 4 := by decide
    have e4 : iShl .i64 1 (8 * (4 : Int)).toNat = 4294967296 := by decide
    have h4 := h2 (by omega)
    rw [e2, e3, iOr_add h0 (by omega) (by omega) (by omega), numF_ok (by omega) (by omega) (by rw [e4]; omega)]
    unfold lenF
    rw [if_neg (by omega), if_neg (by omega), show (4 : Int).toNat = 4 from rfl, numB4]
    rw [u8_congr (a := (n + 2 * 2 ^ 30) / 16777216) (b := n / 16777216 + 128) (by omega), u8_congr (a := (n + 2 * 2 ^ 30) / 65536) (b := n / 65536) (by omega), u8_congr (a := (n + 2 * 2 ^ 30) / 256) (b := n / 256) (by omega),
      u8_congr (a := n + 2 * 2 ^ 30) (b := n) (by omega)]

theorem shl_v (s : Int) : (s = 0 → iShl .i64 1 (([6, 14, 30] : List Int).getD s.toNat 0).toNat = 64) ∧ (s = 1 → iShl .i64 1 (([6, 14, 30] : List Int).getD s.toNat 0).toNat = 16384) ∧ (s = 2 → iShl .i64 1 (([6, 14, 30] : List Int).getD s.toNat 0).toNat = 1073741824) := by
  refine ⟨?_, ?_, ?_⟩ <;> rintro rfl <;> decide

/-! ### What stands at a place -/
def spanN (b : List UInt8) (k n from' e : Int) : Int × Int × Int :=
  if e ≠ 0 then (0, 0, e) else if 0 < k ∧ n < iShl .i64 1 (([6, 14, 30] : List Int).getD (k - 1).toNat 0).toNat then (0, 0, 112) else if 1048576 < n then (0, 0, 2)
  else if (b.length : Int) - from' < n then (0, 0, 111) else (from', from' + n, 0)
def spanK (b : List UInt8) (i k : Int) : Int × Int × Int :=
  if k = 3 then (0, 0, 112) else
  spanN b k (iAnd .i64 (getF b i (iShl .i64 1 k.toNat)).1 (iShl .i64 1 (([6, 14, 30] : List Int).getD k.toNat 0).toNat - 1)) (getF b i (iShl .i64 1 k.toNat)).2.1 (getF b i (iShl .i64 1 k.toNat)).2.2
def spanF (b : List UInt8) (i : Int) : Int × Int × Int :=
  if i < 0 ∨ (b.length : Int) < i then (0, 0, 1) else if i = b.length then (0, 0, 111) else spanK b i ((u8Shr (b.getD i.toNat 0) 6).toNat : Int)
theorem getF_from (b : List UInt8) (i n : Int) : 0 ≤ (getF b i n).2.1 ∧ (getF b i n).2.1 ≤ b.length ∧ ((getF b i n).2.2 = 0 → (getF b i n).2.1 = i + n ∧ 0 ≤ i ∧ 1 ≤ n) := by
  unfold getF
  split
  · simp <;> omega
  · split
    · simp <;> omega
    · split
      · simp <;> omega
      · simp <;> omega
theorem spanF_ok (b : List UInt8) (i : Int) (h : (spanF b i).2.2 = 0) : 0 ≤ i ∧ i < (spanF b i).1 ∧ (spanF b i).1 ≤ (spanF b i).2.1 ∧ (spanF b i).2.1 ≤ b.length ∧ (spanF b i).2.1 - (spanF b i).1 ≤ 1048576 := by
  unfold spanF at h ⊢
  split at h
  · simp at h
  rename_i h1
  rw [if_neg h1]
  split at h
  · simp at h
  rename_i h2
  rw [if_neg h2]
  unfold spanK at h ⊢
  split at h
  · simp at h
  rename_i h3
  rw [if_neg h3]
  have hk := shr6_le (b.getD i.toNat 0)
  have hk0 : (0 : Int) ≤ ((u8Shr (b.getD i.toNat 0) 6).toNat : Int) := by omega
  have hk3 : ((u8Shr (b.getD i.toNat 0) 6).toNat : Int) < 3 := by omega
  have h14 := shl_tbl hk0 hk3
  generalize ((u8Shr (b.getD i.toNat 0) 6).toNat : Int) = k at *
  have hg := getF_from b i (iShl .i64 1 k.toNat)
  have ha := iAnd_bound (getF b i (iShl .i64 1 k.toNat)).1 (m := iShl .i64 1 (([6, 14, 30] : List Int).getD k.toNat 0).toNat - 1) (by omega) (by omega)
  have hc := shl_cls hk0 hk3
  generalize iAnd .i64 (getF b i (iShl .i64 1 k.toNat)).1 (iShl .i64 1 (([6, 14, 30] : List Int).getD k.toNat 0).toNat - 1) = n at *
  unfold spanN at h ⊢
  split at h
  · rename_i h4; exact absurd h h4
  rename_i h4
  rw [if_neg h4]
  split at h
  · simp at h
  rename_i h5
  rw [if_neg h5]
  split at h
  · simp at h
  rename_i h6
  rw [if_neg h6]
  split at h
  · simp at h
  rename_i h7
  rw [if_neg h7]
  have h8 := hg.2.2 (by omega)
  show 0 ≤ i ∧ i < (getF b i (iShl .i64 1 k.toNat)).2.1 ∧ _ ≤ _ + n ∧ _ + n ≤ _ ∧ _ + n - _ ≤ _
  omega

/-! ### Texts -/
def textF (s : List UInt8) : List UInt8 := if 1048576 < s.length then [] else lenF s.length ++ s
def textE (s : List UInt8) : Int := if 1048576 < s.length then 2 else 0
def getTextF (b : List UInt8) (i : Int) : List UInt8 × Int × Int :=
  if (spanF b i).2.2 ≠ 0 then ([], 0, (spanF b i).2.2) else ((b.take (spanF b i).2.1.toNat).drop (spanF b i).1.toNat, (spanF b i).2.1, 0)
theorem getTextF_ok (b : List UInt8) (i : Int) (h : (getTextF b i).2.2 = 0) : 0 ≤ i ∧ i < (getTextF b i).2.1 ∧ (getTextF b i).2.1 ≤ b.length := by
  unfold getTextF at h ⊢
  split at h
  · rename_i h1; exact absurd h h1
  · rename_i h1
    have := spanF_ok b i (by omega)
    rw [if_neg h1]
    simp only
    omega
theorem getTextF_len (b : List UInt8) (i : Int) : (getTextF b i).1.length ≤ 1048576 := by
  unfold getTextF
  split
  · simp
  · rename_i h1
    have := spanF_ok b i (by omega)
    simp; omega
theorem textF_len (s : List UInt8) : (textF s).length ≤ 1048580 := by
  unfold textF; split
  · simp
  · have := lenF_le s.length
    simp; omega
end Go.Vw

/- The plain law of layer 11, continued: lists; what the reference computes. -/
set_option linter.unusedVariables false
namespace Go.Vw
open Go Go.Vc

/-! ### Lists -/
def catT (l : List (List UInt8)) : List UInt8 := l.flatMap textF
def okT (l : List (List UInt8)) : Prop := (∀ s, s ∈ l → s.length ≤ 1048576) ∧ (catT l).length ≤ 1048576
instance (l : List (List UInt8)) : Decidable (okT l) := inferInstanceAs (Decidable (_ ∧ _))
def listF (l : List (List UInt8)) : List UInt8 := if okT l then textF (catT l) else []
def listE (l : List (List UInt8)) : Int := if okT l then textE (catT l) else 2
theorem catT_take {l : List (List UInt8)} {s : Nat} (h : s < l.length) : catT (l.take (s + 1)) = catT (l.take s) ++ textF (l.getD s []) := by
  unfold catT
  rw [List.take_add_one, List.flatMap_append, List.getElem?_eq_getElem h, List.getD_eq_getElem?_getD, List.getElem?_eq_getElem h]
  simp
theorem catT_pre (l : List (List UInt8)) (s : Nat) : (catT (l.take s)).length ≤ (catT l).length := by
  have e : catT l = catT (l.take s) ++ catT (l.drop s) := by
    unfold catT; rw [← List.flatMap_append, List.take_append_drop]
  rw [e]; simp
theorem okT_take {l : List (List UInt8)} {s : Nat} (h : s < l.length) (h1 : okT (l.take s)) (h2 : (l.getD s []).length ≤ 1048576) (h3 : (catT (l.take s)).length + (textF (l.getD s [])).length ≤ 1048576) : okT (l.take (s + 1)) := by
  refine ⟨fun x hx => ?_, by rw [catT_take h]; simpa using h3⟩
  rw [List.take_add_one, List.getElem?_eq_getElem h] at hx
  rcases List.mem_append.1 hx with hx | hx
  · exact h1.1 x hx
  · rw [List.getD_eq_getElem?_getD, List.getElem?_eq_getElem h] at h2
    simp at hx; subst hx; simpa using h2
theorem okT_not1 {l : List (List UInt8)} {s : Nat} (h : s < l.length) (h1 : 1048576 < (l.getD s []).length) : ¬ okT l := by
  rintro ⟨h2, _⟩
  rw [List.getD_eq_getElem?_getD, List.getElem?_eq_getElem h] at h1
  have := h2 _ (List.getElem_mem h)
  simp at h1; omega
theorem okT_not2 {l : List (List UInt8)} {s : Nat} (h : s < l.length) (h1 : 1048576 < (catT (l.take s)).length + (textF (l.getD s [])).length) : ¬ okT l := by
  rintro ⟨_, h2⟩
  have := catT_pre l (s + 1)
  rw [catT_take h, List.length_append] at this
  omega
theorem textE_ne {s : List UInt8} (h : ¬ textE s = 0) : 1048576 < s.length := by
  unfold textE at h; split at h
  · assumption
  · simp at h
theorem textE_eq {s : List UInt8} (h : textE s = 0) : s.length ≤ 1048576 := by
  unfold textE at h; split at h
  · simp at h
  · omega
theorem textE_two {s : List UInt8} (h : ¬ textE s = 0) : textE s = 2 := by
  unfold textE at h ⊢; split
  · rfl
  · rename_i h1; rw [if_neg h1] at h; simp at h
theorem listF_no {l : List (List UInt8)} (h : ¬ okT l) : listF l = [] := if_neg h
theorem listE_no {l : List (List UInt8)} (h : ¬ okT l) : listE l = 2 := if_neg h
theorem listF_yes {l : List (List UInt8)} {s : Nat} (h : okT (l.take s)) (hs : l.length ≤ s) : textF (catT (l.take s)) = listF l := by
  rw [List.take_of_length_le hs] at h ⊢; exact (if_pos h).symm
theorem listE_yes {l : List (List UInt8)} {s : Nat} (h : okT (l.take s)) (hs : l.length ≤ s) : textE (catT (l.take s)) = listE l := by
  rw [List.take_of_length_le hs] at h ⊢; exact (if_pos h).symm
theorem okT_nil : okT [] := ⟨fun s h => by simp at h, by simp [catT]⟩
theorem take_full (l m : List UInt8) (n k : Nat) (hn : l.length ≤ n) (hk : m.length ≤ k) : (l.drop 0).take n ++ (m.drop 0).take k = l ++ m := by
  simp [List.take_of_length_le hn, List.take_of_length_le hk]

/-- The texts from a place on. -/
def parseF (b : List UInt8) : Nat → Int → List (List UInt8) → List (List UInt8) × Int
  | 0, _, out => (out, 0)
  | f + 1, i, out => if i < b.length then (if (getTextF b i).2.2 ≠ 0 then ([], (getTextF b i).2.2) else parseF b f (getTextF b i).2.1 (out ++ [(getTextF b i).1])) else (out, 0)
theorem parseF_fuel (b : List UInt8) : ∀ (f g : Nat) (i : Int) (out : List (List UInt8)), 0 ≤ i → b.length < f + i → b.length < g + i → parseF b f i out = parseF b g i out
  | 0, 0, i, out, _, _, _ => rfl
  | 0, g + 1, i, out, h0, h, h1 => by simp only [parseF]; rw [if_neg (by omega)]
  | f + 1, 0, i, out, h0, h, h1 => by simp only [parseF]; rw [if_neg (by omega)]
  | f + 1, g + 1, i, out, h0, h, h1 => by
    simp only [parseF]
    by_cases hi : i < b.length
    · rw [if_pos hi, if_pos hi]
      by_cases he : (getTextF b i).2.2 ≠ 0
      · rw [if_pos he, if_pos he]
      · rw [if_neg he, if_neg he]
        have := getTextF_ok b i (by omega)
        exact parseF_fuel b f g _ _ (by omega) (by omega) (by omega)
    · rw [if_neg hi, if_neg hi]
def parse (b : List UInt8) (i : Int) (out : List (List UInt8)) : List (List UInt8) × Int := parseF b (b.length + 1 - i.toNat) i out
theorem parse_err {b : List UInt8} {i : Int} {out : List (List UInt8)} (h0 : 0 ≤ i) (h : i < b.length) (he : ¬ (getTextF b i).2.2 = 0) : parse b i out = ([], (getTextF b i).2.2) := by
  unfold parse
  rw [show b.length + 1 - i.toNat = (b.length - i.toNat) + 1 from by omega]
  simp only [parseF]; rw [if_pos h, if_pos he]
theorem parse_step {b : List UInt8} {i : Int} {out : List (List UInt8)} (h0 : 0 ≤ i) (h : i < b.length) (he : (getTextF b i).2.2 = 0) : parse b i out = parse b (getTextF b i).2.1 (out ++ [(getTextF b i).1]) := by
  have := getTextF_ok b i he
  unfold parse
  rw [show b.length + 1 - i.toNat = (b.length - i.toNat) + 1 from by omega]
  simp only [parseF]; rw [if_pos h, if_neg (by omega)]
  exact parseF_fuel b _ _ _ _ (by omega) (by omega) (by omega)
theorem parse_end {b : List UInt8} {i : Int} {out : List (List UInt8)} (h0 : 0 ≤ i) (h : ¬ i < b.length) (h1 : i ≤ b.length) : parse b i out = (out, 0) := by
  unfold parse
  rw [show b.length + 1 - i.toNat = 0 + 1 from by omega]
  simp only [parseF]; rw [if_neg h]
abbrev allOf (b : List UInt8) (i : Int) : List UInt8 := (b.take (spanF b i).2.1.toNat).drop (spanF b i).1.toNat
def getListF (b : List UInt8) (i : Int) : List (List UInt8) × Int × Int :=
  if (spanF b i).2.2 ≠ 0 then ([], 0, (spanF b i).2.2)
  else if (parse (allOf b i) 0 []).2 ≠ 0 then ([], 0, (parse (allOf b i) 0 []).2) else ((parse (allOf b i) 0 []).1, (spanF b i).2.1, 0)
/-- Where the reading stands: what is out, and the place. -/
def PL (b : List UInt8) (s : List (List UInt8) × Int) : Prop := 0 ≤ s.2 ∧ s.2 ≤ b.length ∧ s.1.length ≤ s.2 ∧ parse b s.2 s.1 = parse b 0 []
theorem PL_step {b : List UInt8} {s : List (List UInt8) × Int} (h : PL b s) (hi : s.2 < b.length) (he : (getTextF b s.2).2.2 = 0) : PL b (s.1 ++ [(getTextF b s.2).1], (getTextF b s.2).2.1) := by
  obtain ⟨h1, h2, h3, h4⟩ := h
  have := getTextF_ok b s.2 he
  refine ⟨by simp only; omega, by simp only; omega, by simp; omega, ?_⟩
  rw [← h4, parse_step h1 hi he]
theorem gl_e0 {b : List UInt8} {i : Int} (h : ¬ (spanF b i).2.2 = 0) : getListF b i = ([], 0, (spanF b i).2.2) := if_pos h
theorem gl_e1 {b : List UInt8} {i : Int} {s : List (List UInt8) × Int} (h : (spanF b i).2.2 = 0) (hp : PL (allOf b i) s) (hi : s.2 < (allOf b i).length) (he : ¬ (getTextF (allOf b i) s.2).2.2 = 0) : getListF b i = ([], 0, (getTextF (allOf b i) s.2).2.2) := by
  unfold getListF
  rw [if_neg (by omega), ← hp.2.2.2, parse_err hp.1 hi he, if_pos he]
theorem gl_fin {b : List UInt8} {i : Int} {s : List (List UInt8) × Int} (h : (spanF b i).2.2 = 0) (hp : PL (allOf b i) s) (hi : ¬ s.2 < (allOf b i).length) : getListF b i = (s.1, (spanF b i).2.1, 0) := by
  unfold getListF
  rw [if_neg (by omega), ← hp.2.2.2, parse_end hp.1 hi hp.2.1, if_neg (by simp)]
theorem PL_0 (b : List UInt8) : PL b ([], 0) := ⟨by simp, by simp, by simp, rfl⟩

/-! ### The reference's numbers -/
set_option maxRecDepth 100000 in
theorem u64_step (m : Nat) (c : UInt8) : u64Shl (UInt64.ofNat m) 8 ||| c.toUInt64 = UInt64.ofNat (m * 256 + c.toNat) := by
  apply UInt64.toNat_inj.1
  have hc := c.toNat_lt
  have h := congrArg BitVec.toNat (or_byte m c.toNat hc)
  simp only [BitVec.toNat_or, BitVec.toNat_ofNat, Nat.reducePow] at h
  simp only [UInt64.toNat_or, u64Shl, UInt64.toNat_ofNat', UInt8.toNat_toUInt64, Nat.reducePow] at h ⊢
  rw [← h]
  congr 1
  · omega
  · omega
theorem cut_get {b : List UInt8} {i n : Int} {s : Nat} (h0 : 0 ≤ i) (hs : (s : Int) < n) (h : n ≤ (b.length : Int) - i) : b.getD (i + (s : Int)).toNat 0 = ((b.take (i + n).toNat).drop i.toNat).getD s 0 := by
  simp only [List.getD_eq_getElem?_getD, List.getElem?_drop]
  rw [List.getElem?_take_of_lt (by omega), show (i + (s : Int)).toNat = i.toNat + s from by omega]
theorem getF_longU {b : List UInt8} {i n : Int} (h : 0 ≤ i) (h1 : i ≤ b.length) (h2 : n = 1 ∨ n = 2 ∨ n = 4 ∨ n = 8) (h3 : n ≤ (b.length : Int) - i) (h4 : 9223372036854775807 < (UInt64.ofNat (beN ((b.take (i + n).toNat).drop i.toNat))).toNat) : getF b i n = (0, 0, 112) := by
  have hs := @beN_small ((b.take (i + n).toNat).drop i.toNat) 8 (by rw [cut_len h (by omega) h3]; omega) (by omega)
  rw [UInt64.toNat_ofNat', Nat.mod_eq_of_lt (by simpa using hs)] at h4
  unfold getF; rw [if_neg (by omega), if_neg (by omega), if_pos (by omega)]
theorem getF_okU {b : List UInt8} {i n : Int} (h : 0 ≤ i) (h1 : i ≤ b.length) (h2 : n = 1 ∨ n = 2 ∨ n = 4 ∨ n = 8) (h3 : n ≤ (b.length : Int) - i) (h4 : ¬ 9223372036854775807 < (UInt64.ofNat (beN ((b.take (i + n).toNat).drop i.toNat))).toNat) :
    getF b i n = (IntKind.i64.wrap ((UInt64.ofNat (beN ((b.take (i + n).toNat).drop i.toNat))).toNat : Int), i + n, 0) := by
  have hs := @beN_small ((b.take (i + n).toNat).drop i.toNat) 8 (by rw [cut_len h (by omega) h3]; omega) (by omega)
  have e2 : (UInt64.ofNat (beN ((b.take (i + n).toNat).drop i.toNat))).toNat = beN ((b.take (i + n).toNat).drop i.toNat) := by rw [UInt64.toNat_ofNat', Nat.mod_eq_of_lt (by simpa using hs)]
  rw [e2] at h4
  rw [e2, wrap_i64 (by omega) (by omega)]
  unfold getF; rw [if_neg (by omega), if_neg (by omega), if_neg (by omega)]
theorem shr_zero {n k : Int} (hk : k = 1 ∨ k = 2 ∨ k = 4) (hn : 0 ≤ n) : iShr .i64 n (8 * k).toNat = 0 ↔ ¬ iShl .i64 1 (8 * k).toNat ≤ n := by
  rw [shl_one hk]
  rcases hk with rfl | rfl | rfl
  · show n / 2 ^ (min 8 64) = 0 ↔ ¬ (256 : Int) ^ 1 ≤ n
    simp only [show min 8 64 = 8 from rfl, show ((2 : Int) ^ 8) = 256 from rfl, show ((256 : Int) ^ 1) = 256 from rfl]; omega
  · show n / 2 ^ (min 16 64) = 0 ↔ ¬ (256 : Int) ^ 2 ≤ n
    simp only [show min 16 64 = 16 from rfl, show ((2 : Int) ^ 16) = 65536 from rfl, show ((256 : Int) ^ 2) = 65536 from rfl]; omega
  · show n / 2 ^ (min 32 64) = 0 ↔ ¬ (256 : Int) ^ 4 ≤ n
    simp only [show min 32 64 = 32 from rfl, show ((2 : Int) ^ 32) = 4294967296 from rfl, show ((256 : Int) ^ 4) = 4294967296 from rfl]; omega
theorem numB_take {n : Int} {k s : Nat} (h : s < k) (h8 : k ≤ 8) : (numB n k).take s ++ [UInt8.ofInt (iShr .i64 n (8 * (k - 1 - s)))] = (numB n k).take (s + 1) := by
  rw [shr_byte n _ (by omega), List.take_add_one, numB_get h]; rfl
end Go.Vw

/- The plain law of layer 11, continued: the reference's lengths. -/
set_option linter.unusedVariables false
namespace Go.Vw
open Go Go.Vc

theorem iAnd_mask {a : Int} {m : Nat} (h0 : 0 ≤ a) (h1 : a ≤ 9223372036854775807) (hm : m ≤ 62) : iAnd .i64 a ((2 : Int) ^ m - 1) = a % 2 ^ m := by
  obtain ⟨q, rfl⟩ := Int.eq_ofNat_of_zero_le h0
  have hp : 0 < 2 ^ m := Nat.two_pow_pos m
  have e1 : (2 : Int) ^ m - 1 = ((2 ^ m - 1 : Nat) : Int) := by
    have : ((2 : Int) ^ m) = ((2 ^ m : Nat) : Int) := by push_cast; rfl
    omega
  have hb : 2 ^ m ≤ 2 ^ 62 := Nat.pow_le_pow_right (by omega) hm
  have e2 : (BitVec.ofInt 64 (q : Int) &&& BitVec.ofInt 64 ((2 ^ m - 1 : Nat) : Int)).toNat = q % 2 ^ m := by
    rw [ofInt_nat, ofInt_nat, BitVec.toNat_and]
    simp only [BitVec.toNat_ofNat]
    rw [Nat.mod_eq_of_lt (show q < 2 ^ 64 by omega), Nat.mod_eq_of_lt (show 2 ^ m - 1 < 2 ^ 64 by omega), Nat.and_two_pow_sub_one_eq_mod]
  rw [e1]
  show IntKind.i64.wrap ((BitVec.ofInt 64 (q : Int) &&& BitVec.ofInt 64 ((2 ^ m - 1 : Nat) : Int)).toNat : Int) = _
  rw [e2]
  have := Nat.mod_lt q hp
  rw [wrap_i64 (by omega) (by omega)]
  push_cast; rfl

def hdF (b : List UInt8) (i : Int) : Int × Int × Int := ((spanF b i).2.1 - (spanF b i).1, (spanF b i).1, (spanF b i).2.2)
def szOf (c : UInt8) : Int := if 128 ≤ c.toNat then 4 else if 64 ≤ c.toNat then 2 else 1
/-- The number that stands there, of s bytes. -/
def lenN (b : List UInt8) (i : Int) (s : Nat) : Nat := (b.getD i.toNat 0).toNat % 64 * 256 ^ (s - 1) + beN ((b.drop (i.toNat + 1)).take (s - 1))
theorem lenN_step {b : List UInt8} {i : Int} {s : Nat} (h0 : 0 ≤ i) (h1 : 1 ≤ s) (h : i + s < b.length) : lenN b i (s + 1) = lenN b i s * 256 + (b.getD (i + (s : Int)).toNat 0).toNat := by
  unfold lenN
  obtain ⟨r, rfl⟩ : ∃ r, s = r + 1 := ⟨s - 1, by omega⟩
  simp only [Nat.add_sub_cancel]
  rw [beN_take (by simp; omega), Nat.pow_succ]
  have e : (b.drop (i.toNat + 1)).getD r 0 = b.getD (i + ((r + 1 : Nat) : Int)).toNat 0 := by
    simp only [List.getD_eq_getElem?_getD, List.getElem?_drop]
    rw [show (i + ((r + 1 : Nat) : Int)).toNat = i.toNat + 1 + r from by omega]
  rw [e]
  generalize (b.getD i.toNat 0).toNat % 64 = x
  generalize 256 ^ r = y
  rw [← Nat.mul_assoc]
  omega
theorem lenN_one (b : List UInt8) (i : Int) : lenN b i 1 = (b.getD i.toNat 0).toNat % 64 := by simp [lenN, beN]
theorem lenN_lt {b : List UInt8} {i : Int} {s : Nat} (h1 : 1 ≤ s) : lenN b i s < 64 * 256 ^ (s - 1) := by
  unfold lenN
  have h2 := beN_lt ((b.drop (i.toNat + 1)).take (s - 1))
  have h3 : 256 ^ ((b.drop (i.toNat + 1)).take (s - 1)).length ≤ 256 ^ (s - 1) := Nat.pow_le_pow_right (by omega) (by simp; omega)
  have h4 := Nat.mod_lt (b.getD i.toNat 0).toNat (show 0 < 64 by omega)
  have h5 : (b.getD i.toNat 0).toNat % 64 * 256 ^ (s - 1) ≤ 63 * 256 ^ (s - 1) := Nat.mul_le_mul_right _ (by omega)
  omega
theorem cut_be {b : List UInt8} {i : Int} {s : Nat} (h0 : 0 ≤ i) (h1 : 1 ≤ s) (h : i + s ≤ b.length) : beN ((b.take (i + (s : Int)).toNat).drop i.toNat) = (b.getD i.toNat 0).toNat * 256 ^ (s - 1) + beN ((b.drop (i.toNat + 1)).take (s - 1)) := by
  have hi : i.toNat < b.length := by omega
  have e : (b.take (i + (s : Int)).toNat).drop i.toNat = b.getD i.toNat 0 :: (b.drop (i.toNat + 1)).take (s - 1) := by
    rw [show (i + (s : Int)).toNat = i.toNat + s from by omega, List.drop_take, show i.toNat + s - i.toNat = (s - 1) + 1 from by omega, List.drop_eq_getElem_cons hi, List.take_succ_cons]
    simp [List.getD_eq_getElem?_getD, List.getElem?_eq_getElem hi]
  rw [e, beN_cons]
  congr 2
  congr 1
  simp; omega
theorem getF_small {b : List UInt8} {i n : Int} (h : 0 ≤ i) (h2 : n = 1 ∨ n = 2 ∨ n = 4) (h3 : i + n ≤ b.length) : getF b i n = ((beN ((b.take (i + n).toNat).drop i.toNat) : Int), i + n, 0) := by
  have hs : beN ((b.take (i + n).toNat).drop i.toNat) < 256 ^ 4 := by
    refine Nat.lt_of_lt_of_le (beN_lt _) (Nat.pow_le_pow_right (by omega) ?_)
    rw [cut_len h (by omega) (by omega)]; omega
  unfold getF; rw [if_neg (by omega), if_neg (by omega), if_neg (by omega)]
/-- What the program computes, where the bytes are there. -/
theorem span_val {b : List UInt8} {i : Int} {k : Nat} (h0 : 0 ≤ i) (hk : k < 3) (hc : (b.getD i.toNat 0).toNat / 64 = k) (h : i + ((2 ^ k : Nat) : Int) ≤ b.length) :
    spanF b i = spanN b (k : Int) (lenN b i (2 ^ k) : Int) (i + ((2 ^ k : Nat) : Int)) 0 := by
  have hcu := cut_be (b := b) (i := i) (s := 2 ^ k) h0 Nat.one_le_two_pow h
  have hs6 := shr6 (b.getD i.toNat 0)
  have hrest := beN_lt ((b.drop (i.toNat + 1)).take (2 ^ k - 1))
  have hrl : 256 ^ ((b.drop (i.toNat + 1)).take (2 ^ k - 1)).length ≤ 256 ^ (2 ^ k - 1) := Nat.pow_le_pow_right (by omega) (by simp; omega)
  have hc8 := (b.getD i.toNat 0).toNat_lt
  have hk1 := Nat.one_le_two_pow (n := k)
  unfold spanF
  rw [if_neg (by omega), if_neg (by omega), hs6, show ((b.getD i.toNat 0).toNat : Int) / 64 = (k : Int) from by omega]
  unfold spanK lenN
  rw [if_neg (by omega)]
  generalize beN ((b.drop (i.toNat + 1)).take (2 ^ k - 1)) = r at *
  generalize (b.getD i.toNat 0).toNat = c at *
  obtain rfl | rfl | rfl : k = 0 ∨ k = 1 ∨ k = 2 := by omega
  · have e1 : iShl .i64 1 ((0 : Nat) : Int).toNat = 1 := by decide
    have e2 : iShl .i64 1 (([6, 14, 30] : List Int).getD ((0 : Nat) : Int).toNat 0).toNat - 1 = (2 : Int) ^ 6 - 1 := by decide
    rw [e1, e2, getF_small h0 (by omega) (by simpa using h)]
    simp only [Nat.pow_zero, Nat.sub_self, Nat.mul_one, Int.natCast_one] at hcu hrest hrl ⊢
    rw [hcu, iAnd_mask (by omega) (by omega) (by omega)]
    congr 1; omega
  · have e1 : iShl .i64 1 ((1 : Nat) : Int).toNat = 2 := by decide
    have e2 : iShl .i64 1 (([6, 14, 30] : List Int).getD ((1 : Nat) : Int).toNat 0).toNat - 1 = (2 : Int) ^ 14 - 1 := by decide
    rw [e1, e2, getF_small h0 (by omega) (by simpa using h)]
    have e3 : ((2 ^ 1 : Nat) : Int) = 2 := rfl
    simp only [e3, Nat.pow_one, Nat.reduceSub, Nat.reducePow] at hcu hrest hrl ⊢
    rw [hcu, iAnd_mask (by omega) (by omega) (by omega)]
    congr 1; omega
  · have e1 : iShl .i64 1 ((2 : Nat) : Int).toNat = 4 := by decide
    have e2 : iShl .i64 1 (([6, 14, 30] : List Int).getD ((2 : Nat) : Int).toNat 0).toNat - 1 = (2 : Int) ^ 30 - 1 := by decide
    rw [e1, e2, getF_small h0 (by omega) (by simpa using h)]
    have e3 : ((2 ^ 2 : Nat) : Int) = 4 := rfl
    simp only [e3, Nat.reduceSub, Nat.reducePow] at hcu hrest hrl ⊢
    rw [hcu, iAnd_mask (by omega) (by omega) (by omega)]
    congr 1; omega

/-! ### The cases of the reference -/
theorem sz_k (c : UInt8) (h : c.toNat < 192) : ∃ k : Nat, k < 3 ∧ c.toNat / 64 = k ∧ szOf c = ((2 ^ k : Nat) : Int) := by
  unfold szOf
  refine ⟨c.toNat / 64, by omega, rfl, ?_⟩
  have h1 : c.toNat / 64 = 0 ∨ c.toNat / 64 = 1 ∨ c.toNat / 64 = 2 := by omega
  rcases h1 with h1 | h1 | h1 <;> rw [h1]
  · rw [if_neg (by omega), if_neg (by omega)]; rfl
  · rw [if_neg (by omega), if_pos (by omega)]; rfl
  · rw [if_pos (by omega)]; rfl
theorem hd_arg {b : List UInt8} {i : Int} (h : i < 0 ∨ (b.length : Int) < i) : hdF b i = (0, 0, 1) := by unfold hdF spanF; rw [if_pos h]; rfl
theorem hd_end {b : List UInt8} {i : Int} (h : i = b.length) : hdF b i = (0, 0, 111) := by unfold hdF spanF; rw [if_neg (by omega), if_pos h]; rfl
theorem hd_192 {b : List UInt8} {i : Int} (h0 : 0 ≤ i) (h1 : i < b.length) (h : 192 ≤ (b.getD i.toNat 0).toNat) : hdF b i = (0, 0, 112) := by
  have hs6 := shr6 (b.getD i.toNat 0)
  have := (b.getD i.toNat 0).toNat_lt
  unfold hdF spanF
  rw [if_neg (by omega), if_neg (by omega)]
  unfold spanK
  rw [if_pos (by omega)]; rfl
theorem hd_short {b : List UInt8} {i : Int} (h0 : 0 ≤ i) (h1 : i < b.length) (h : (b.getD i.toNat 0).toNat < 192) (h2 : (b.length : Int) - i < szOf (b.getD i.toNat 0)) : hdF b i = (0, 0, 111) := by
  obtain ⟨k, hk, hc, hz⟩ := sz_k _ h
  have hs6 := shr6 (b.getD i.toNat 0)
  rw [hz] at h2
  have hg : getF b i ((2 ^ k : Nat) : Int) = (0, 0, 111) := getF_end h0 (by omega) (by
    obtain rfl | rfl | rfl : k = 0 ∨ k = 1 ∨ k = 2 := by omega
    all_goals decide) h2
  have e : iShl .i64 1 (k : Int).toNat = ((2 ^ k : Nat) : Int) := by
    obtain rfl | rfl | rfl : k = 0 ∨ k = 1 ∨ k = 2 := by omega
    all_goals decide
  unfold hdF spanF
  rw [if_neg (by omega), if_neg (by omega), show ((u8Shr (b.getD i.toNat 0) 6).toNat : Int) = (k : Int) from by omega]
  unfold spanK
  rw [if_neg (by omega), e, hg]
  rfl
theorem hd_val {b : List UInt8} {i : Int} {s : Nat} (h0 : 0 ≤ i) (h : (b.getD i.toNat 0).toNat < 192) (hs : (s : Int) = szOf (b.getD i.toNat 0)) (h2 : i + s ≤ b.length) :
    ((((lenF (lenN b i s)).length : Int) ≠ s → hdF b i = (0, 0, 112)) ∧ (((lenF (lenN b i s)).length : Int) = s → 1048576 < lenN b i s → hdF b i = (0, 0, 2)) ∧
    (((lenF (lenN b i s)).length : Int) = s → lenN b i s ≤ 1048576 → (b.length : Int) - i - s < lenN b i s → hdF b i = (0, 0, 111)) ∧
    (((lenF (lenN b i s)).length : Int) = s → lenN b i s ≤ 1048576 → lenN b i s ≤ (b.length : Int) - i - s → hdF b i = ((lenN b i s : Int), i + s, 0))) := by
  obtain ⟨k, hk, hc, hz⟩ := sz_k _ h
  have hsk : s = 2 ^ k := by omega
  subst hsk
  have hlt := lenN_lt (b := b) (i := i) (s := 2 ^ k) Nat.one_le_two_pow
  have hv := span_val h0 hk hc h2
  unfold hdF
  rw [hv]
  generalize lenN b i (2 ^ k) = n at *
  have hl := lenF_len (n : Int)
  unfold spanN
  simp only [ne_eq, not_true_eq_false, if_false]
  obtain rfl | rfl | rfl : k = 0 ∨ k = 1 ∨ k = 2 := by omega
  · simp only [Nat.pow_zero, Nat.sub_self, Nat.mul_one] at hlt
    rw [if_pos (by omega)] at hl
    rw [hl]
    refine ⟨fun h => absurd rfl h, fun _ h => by omega, fun _ _ h => ?_, fun _ _ h => ?_⟩
    · rw [if_neg (by omega), if_neg (by omega), if_pos (by omega)]; rfl
    · rw [if_neg (by omega), if_neg (by omega), if_neg (by omega)]; simp; omega
  · have e : iShl .i64 1 (([6, 14, 30] : List Int).getD (((1 : Nat) : Int) - 1).toNat 0).toNat = 64 := by decide
    simp only [Nat.pow_one, Nat.reduceSub, Nat.reducePow] at hlt
    rw [e]
    refine ⟨fun h => ?_, fun h1 h => by omega, fun h1 _ h => ?_, fun h1 _ h => ?_⟩
    · rw [if_pos]
      · rfl
      · refine ⟨by decide, ?_⟩
        by_cases h3 : (n : Int) < 64
        · exact h3
        · rw [if_neg h3, if_pos (by omega)] at hl; omega
    · rw [if_neg, if_neg (by omega), if_pos (by omega)]; rfl
      rintro ⟨_, h3⟩; rw [if_pos h3] at hl; omega
    · rw [if_neg, if_neg (by omega), if_neg (by omega)]; simp; omega
      rintro ⟨_, h3⟩; rw [if_pos h3] at hl; omega
  · have e : iShl .i64 1 (([6, 14, 30] : List Int).getD (((2 : Nat) : Int) - 1).toNat 0).toNat = 16384 := by decide
    rw [e]
    have e3 : ((2 ^ 2 : Nat) : Int) = 4 := rfl
    have e4 : ∀ h : ((lenF n).length : Int) = ((2 ^ 2 : Nat) : Int), ¬ ((0 : Int) < ((2 : Nat) : Int) ∧ (n : Int) < 16384) := by
      rintro h1 ⟨_, h3⟩
      rw [hl, e3] at h1
      split at h1
      · omega
      · first | omega | (rw [if_pos h3] at h1; omega)
    refine ⟨fun h => ?_, fun h1 h => ?_, fun h1 _ h => ?_, fun h1 _ h => ?_⟩
    · rw [if_pos]
      · rfl
      · refine ⟨by decide, ?_⟩
        by_cases h3 : (n : Int) < 16384
        · exact h3
        · rw [if_neg (by omega), if_neg h3] at hl; omega
    · rw [if_neg (e4 h1), if_pos (by omega)]; rfl
    · rw [if_neg (e4 h1), if_neg (by omega), if_pos (by omega)]; rfl
    · rw [if_neg (e4 h1), if_neg (by omega), if_neg (by omega)]; simp; omega
theorem u8_add64 (a : Int) : UInt8.ofInt a + 64 = UInt8.ofInt (a + 64) := u8_add a 64
theorem u8_add128 (a : Int) : UInt8.ofInt a + 128 = UInt8.ofInt (a + 128) := u8_add a 128
theorem szOf_v (c : UInt8) : szOf c = 1 ∨ szOf c = 2 ∨ szOf c = 4 := by unfold szOf; split <;> (try split) <;> simp
theorem hdF_ok (b : List UInt8) (i : Int) (h : (hdF b i).2.2 = 0) : 0 ≤ i ∧ i < (hdF b i).2.1 ∧ 0 ≤ (hdF b i).1 ∧ (hdF b i).2.1 + (hdF b i).1 ≤ b.length ∧ (hdF b i).1 ≤ 1048576 := by
  have := spanF_ok b i h
  unfold hdF; simp only; omega
theorem len_or {b : List UInt8} {i : Int} {s : Nat} (h0 : 0 ≤ i) (h1 : 1 ≤ s) (h3 : s < 4) (h : i + s < b.length) (hl : lenN b i s < 64 * 256 ^ (s - 1)) : iOr .i64 ((lenN b i s : Int) * 256) ((b.getD (i + (s : Int)).toNat 0).toNat : Int) = (lenN b i (s + 1) : Int) := by
  have hc := (b.getD (i + (s : Int)).toNat 0).toNat_lt
  rw [lenN_step h0 h1 h]
  have h4 : lenN b i s < 64 * 256 ^ 2 := Nat.lt_of_lt_of_le hl (Nat.mul_le_mul_left _ (Nat.pow_le_pow_right (by omega) (by omega)))
  have := i64_step (lenN b i s) (b.getD (i + (s : Int)).toNat 0)
  rw [wrap_i64 (n := ((lenN b i s : Nat) : Int)) (by omega) (by omega), wrap_i64 (n := ((lenN b i s * 256 + (b.getD (i + (s : Int)).toNat 0).toNat : Nat) : Int)) (by omega) (by omega)] at this
  rw [← this]
  congr 1
  show _ = IntKind.i64.wrap ((lenN b i s : Int) * 256)
  rw [wrap_i64 (by omega) (by omega)]
theorem lenN_b {b : List UInt8} {i : Int} {s : Nat} (h1 : 1 ≤ s) (h4 : s ≤ 4) : lenN b i s < 1073741824 := by
  refine Nat.lt_of_lt_of_le (lenN_lt h1) ?_
  exact Nat.le_trans (Nat.mul_le_mul_left _ (Nat.pow_le_pow_right (show 0 < 256 by omega) (show s - 1 ≤ 3 by omega))) (by decide)
theorem hd_to (b : List UInt8) (i : Int) : (hdF b i).2.1 + (hdF b i).1 = (spanF b i).2.1 := by unfold hdF; simp only; omega
theorem hd_to2 (b : List UInt8) (i : Int) : (spanF b i).1 + (hdF b i).1 = (spanF b i).2.1 := by unfold hdF; simp only; omega
theorem hd_from (b : List UInt8) (i : Int) : (hdF b i).2.1 = (spanF b i).1 := rfl
theorem getText_e (b : List UInt8) (i : Int) : (getTextF b i).2.2 = (spanF b i).2.2 := by
  unfold getTextF; split
  · rfl
  · rename_i h; simp only; omega
theorem getText_all {b : List UInt8} {i : Int} (h : (spanF b i).2.2 = 0) : (getTextF b i).1 = allOf b i ∧ (getTextF b i).2.1 = (spanF b i).2.1 := by
  unfold getTextF; rw [if_neg (by omega)]; exact ⟨rfl, rfl⟩
theorem glr_e0 {b : List UInt8} {i : Int} (h : ¬ (getTextF b i).2.2 = 0) : getListF b i = ([], 0, (getTextF b i).2.2) := by
  rw [getText_e] at h ⊢; exact gl_e0 h
theorem glr_e1 {b : List UInt8} {i : Int} {s : List (List UInt8) × Int} (h : (getTextF b i).2.2 = 0) (hp : PL (getTextF b i).1 s) (hi : s.2 < ((getTextF b i).1.length : Int)) (he : ¬ (getTextF (getTextF b i).1 s.2).2.2 = 0) : getListF b i = ([], 0, (getTextF (getTextF b i).1 s.2).2.2) := by
  rw [getText_e] at h
  rw [(getText_all h).1] at hp hi he ⊢
  exact gl_e1 h hp hi he
theorem glr_fin {b : List UInt8} {i : Int} {s : List (List UInt8) × Int} (h : (getTextF b i).2.2 = 0) (hp : PL (getTextF b i).1 s) (hi : ¬ s.2 < ((getTextF b i).1.length : Int)) : getListF b i = (s.1, (getTextF b i).2.1, 0) := by
  rw [getText_e] at h
  rw [(getText_all h).1] at hp hi
  rw [(getText_all h).2]
  exact gl_fin h hp hi
theorem same_step {l m : List (List UInt8)} {s : Nat} (h : ∀ j, j < s → l.getD j [] = m.getD j []) (h1 : l.getD s [] = m.getD s []) : ∀ j, j < s + 1 → l.getD j [] = m.getD j [] := by
  intro j hj
  by_cases e : j = s
  · subst e; exact h1
  · exact h j (by omega)
theorem same_all {l m : List (List UInt8)} {s : Nat} (hl : l.length = m.length) (hs : l.length ≤ s) (h : ∀ j, j < s → l.getD j [] = m.getD j []) : l = m := by
  apply List.ext_getElem hl
  intro j h1 h2
  have := h j (by omega)
  simpa [List.getD_eq_getElem?_getD, List.getElem?_eq_getElem h1, List.getElem?_eq_getElem h2] using this
end Go.Vw

/- Wire's laws, in plain Lean: sizes. -/
set_option linter.unusedVariables false
set_option linter.unusedSimpArgs false
namespace Go.Vw
open Go Go.Vc
def want1 (k : Int) : Int := if 64 ≤ k then k + 2 else k + 1
def want2 (k : Int) : Int := if 16384 ≤ k then k + 4 else want1 k
def szC (c : UInt8) : Int := iShl .i64 1 ((c % 4).toNat : Int).toNat
theorem szC_v (c : UInt8) : szC c = 1 ∨ szC c = 2 ∨ szC c = 4 ∨ szC c = 8 := by
  have h : (c % 4).toNat < 4 := by rw [UInt8.toNat_mod]; exact Nat.mod_lt _ (by decide)
  unfold szC
  rw [Int.toNat_natCast]
  generalize (c % 4).toNat = j at h ⊢
  match j, h with
  | 0, _ => exact .inl (by decide)
  | 1, _ => exact .inr (.inl (by decide))
  | 2, _ => exact .inr (.inr (.inl (by decide)))
  | 3, _ => exact .inr (.inr (.inr (by decide)))
def mC (n : UInt32) (c : UInt8) : Int := if szC c < 4 then iAnd .i64 (n.toNat : Int) (iShl .i64 1 (8 * szC c).toNat - 1) else (n.toNat : Int)
theorem mC_v (n : UInt32) (c : UInt8) : 0 ≤ mC n c ∧ mC n c < 256 ^ (szC c).toNat ∧ mC n c < 4294967296 := by
  have hn := n.toNat_lt
  have hs := szC_v c
  unfold mC
  split
  · rename_i h
    rw [shl_one (by omega)]
    have e : ((256 : Int) ^ (szC c).toNat) - 1 = 2 ^ (8 * (szC c).toNat) - 1 := by
      rw [show (256 : Int) = 2 ^ 8 by decide, ← Int.pow_mul]
    rw [e, iAnd_mask (by omega) (by omega) (by omega)]
    have hp : (0 : Int) < 2 ^ (8 * (szC c).toNat) := Int.pow_pos (by decide)
    have h1 := Int.emod_nonneg (n.toNat : Int) (show (2 : Int) ^ (8 * (szC c).toNat) ≠ 0 by omega)
    have h2 := Int.emod_lt_of_pos (n.toNat : Int) hp
    have h3 : ((n.toNat : Int)) % 2 ^ (8 * (szC c).toNat) ≤ (n.toNat : Int) := by
      have := Int.emod_add_mul_ediv (n.toNat : Int) (2 ^ (8 * (szC c).toNat))
      have h4 : 0 ≤ (2 : Int) ^ (8 * (szC c).toNat) * ((n.toNat : Int) / 2 ^ (8 * (szC c).toNat)) := Int.mul_nonneg (by omega) (Int.ediv_nonneg (by omega) (by omega))
      omega
    refine ⟨h1, ?_, by omega⟩
    rw [show (256 : Int) = 2 ^ 8 by decide, ← Int.pow_mul]
    exact h2
  · rename_i h
    refine ⟨by omega, ?_, by omega⟩
    rcases hs with h1 | h1 | h1 | h1
    · omega
    · omega
    · rw [h1]; show (n.toNat : Int) < 4294967296; omega
    · rw [h1]; show (n.toNat : Int) < 18446744073709551616; omega
/-- What is written is read. -/
theorem beN_numB {n : Int} {k : Nat} (h0 : 0 ≤ n) (h : n < 256 ^ k) : (beN (numB n k) : Int) = n := by
  induction k generalizing n with
  | zero =>
    have : n < 1 := by simpa using h
    have e : n = 0 := by omega
    subst e
    rfl
  | succ k ih =>
    have e : numB n (k + 1) = numB (n / 256) k ++ [UInt8.ofInt n] := by
      refine List.ext_getElem? fun j => ?_
      by_cases hj : j < k
      · rw [List.getElem?_append_left (by rw [numB_len]; exact hj), numB_get (by omega), numB_get hj]
        congr 2
        rw [show k + 1 - 1 - j = (k - 1 - j) + 1 by omega, Int.pow_succ, Int.mul_comm, ← Int.ediv_ediv_of_nonneg (by decide)]
      · by_cases hj2 : j = k
        · subst hj2
          rw [List.getElem?_append_right (by rw [numB_len]; omega), numB_get (by omega), numB_len]
          simp
        · rw [List.getElem?_eq_none (by rw [numB_len]; omega), List.getElem?_eq_none (by simp [numB_len]; omega)]
    rw [e, beN_snoc]
    have h2 := ih (n := n / 256) (by omega) (by rw [Int.pow_succ] at h; exact Int.ediv_lt_of_lt_mul (by decide) h)
    have h3 := u8_toNat n
    rw [Int.natCast_add, Int.natCast_mul, h2, h3]
    omega
theorem get_num {n k : Int} (hk : k = 1 ∨ k = 2 ∨ k = 4 ∨ k = 8) (h0 : 0 ≤ n) (h : n < 256 ^ k.toNat) (hm : n ≤ 9223372036854775807) : getF (numF n k) 0 k = (n, k, 0) := by
  have e : numF n k = numB n k.toNat := numF_ok hk h0 (by
    rintro ⟨h8, h9⟩
    rw [shl_one (by omega)] at h9
    omega)
  have hb : beN (((numB n k.toNat).take (0 + k).toNat).drop (0 : Int).toNat) = beN (numB n k.toNat) := by
    rw [Int.zero_add, List.take_of_length_le (by rw [numB_len]; omega)]
    rfl
  have hv := beN_numB h0 h
  have hc : beN (((numB n k.toNat).take (0 + k).toNat).drop (0 : Int).toNat) ≤ 9223372036854775807 := by rw [hb]; omega
  have hu : ((UInt64.ofNat (beN (numB n k.toNat))).toNat : Int) = n := by
    rw [UInt64.toNat_ofNat', Nat.mod_eq_of_lt (by omega), hv]
  rw [e, getF_okU (by omega) (by omega) hk (by rw [numB_len]; omega) (by rw [hb]; omega), hb, hu, i64_eq, if_neg (by omega), Int.emod_eq_of_lt h0 (by omega), Int.zero_add]
theorem want2_ok {k : Nat} (h : k < 20000) : ((textF (List.replicate k 0)).length : Int) = want2 (k : Int) := by
  unfold textF want2 want1
  rw [if_neg (by simp; omega)]
  simp only [List.length_append, lenF_len, List.length_replicate]
  split <;> split <;> (try split) <;> omega
theorem shl8 (c : UInt8) (h : szC c < 4) : 1 ≤ iShl .i64 1 (8 * szC c).toNat ∧ iShl .i64 1 (8 * szC c).toNat ≤ 65536 := by
  rcases szC_v c with h1 | h1 | h1 | h1
  · rw [h1]; decide
  · rw [h1]; decide
  · omega
  · omega
theorem cut_rep (n : UInt32) : ((List.replicate ((n.toNat : Int) % 20000).toNat (0 : UInt8)).drop 0).take ((n.toNat : Int) % 20000).toNat = List.replicate (n.toNat % 20000) 0 := by
  rw [List.drop_zero, List.take_of_length_le (by simp)]
  congr 1
theorem textE_rep (n : UInt32) : textE (List.replicate (n.toNat % 20000) 0) = 0 := by
  have := Nat.mod_lt n.toNat (show 0 < 20000 by decide)
  unfold textE
  rw [if_neg (by simp; omega)]
theorem textF_rep (n : UInt32) : ((textF (List.replicate (n.toNat % 20000) 0)).length : Int) = want2 ((n.toNat : Int) % 20000) := by
  rw [want2_ok (Nat.mod_lt n.toNat (show 0 < 20000 by decide))]
  congr 1
theorem row_all {l : List (List UInt8)} (h : okT l) : listE l = 0 ∧ textE (catT l) = 0 ∧ listF l = textF (catT l) := by
  have h1 := listF_yes (l := l) (s := l.length) (by rw [List.take_length]; exact h) (Nat.le_refl _)
  have h2 := listE_yes (l := l) (s := l.length) (by rw [List.take_length]; exact h) (Nat.le_refl _)
  rw [List.take_length] at h1 h2
  have h3 : textE (catT l) = 0 := by
    have := h.2
    unfold textE
    rw [if_neg (by omega)]
  exact ⟨by rw [← h2, h3], h3, h1.symm⟩
theorem catT_one (d : List UInt8) : catT [d] = textF d := by simp [catT]
theorem row_one {d : List UInt8} (h : textE d = 0) (h2 : textE (textF d) = 0) : listE [d] = 0 ∧ listF [d] = textF (textF d) := by
  have hk : okT [d] := ⟨fun s hs => by
    have e : s = d := by simpa using hs
    subst e
    exact textE_eq h, by rw [catT_one]; exact textE_eq h2⟩
  have := row_all hk
  rw [catT_one] at this
  exact ⟨this.1, this.2.2⟩
theorem listE_nil : listE [] = 0 := (row_all okT_nil).1
theorem listF_nil : listF [] = [0] := by
  rw [(row_all okT_nil).2.2]
  rfl
theorem le_row1 {d : List UInt8} {z : PV} : (BV.p (.sl 1 1 (fun j => (fun j => ([PV.bs d]).getD j z) (0 + j)))).le (.p (.sl [d].length 1 (fun j => .bs ([d].getD j [])))) :=
  le_sl rfl fun j hj => by
    have : j = 0 := by omega
    subst this
    rfl
theorem cutO {c : List UInt8} {m f t : Nat} (h : t ≤ m) : (c.drop (0 + f * 1)).take (t - f) = ((c.take m).take t).drop f := by
  rw [List.take_take, Nat.min_eq_left h, List.drop_take]
  congr 2
  omega
def incF (s : Nat) (b : List UInt8) : List UInt8 := (b.take s).map (· + 1) ++ b.drop s
theorem incF_len (s : Nat) (b : List UInt8) : (incF s b).length = b.length := by simp [incF]; omega
theorem inc_step {s : Nat} {b : List UInt8} (h : s < b.length) : (incF s b).set s ((incF s b).getD s 0 + 1) = incF (s + 1) b := by
  refine List.ext_getElem? fun j => ?_
  have h1 : ∀ j, (incF s b)[j]? = if j < s then (b[j]?).map (· + 1) else b[j]? := fun j => by
    unfold incF
    split
    · rw [List.getElem?_append_left (by simp; omega)]; simp [*]
    · rw [List.getElem?_append_right (by simp; omega)]; simp; congr 1; omega
  have h2 : ∀ j, (incF (s + 1) b)[j]? = if j < s + 1 then (b[j]?).map (· + 1) else b[j]? := fun j => by
    unfold incF
    split
    · rw [List.getElem?_append_left (by simp; omega)]; simp [*]
    · rw [List.getElem?_append_right (by simp; omega)]; simp; congr 1; omega
  rw [h2, List.getElem?_set]
  by_cases hj : s = j
  · subst hj
    rw [if_pos rfl, if_pos (by rw [incF_len]; exact h), if_pos (by omega), List.getD_eq_getElem?_getD, h1, if_neg (by omega), List.getElem?_eq_getElem h]
    rfl
  · rw [if_neg hj, h1]
    by_cases h3 : j < s
    · rw [if_pos h3, if_pos (by omega)]
    · rw [if_neg h3, if_neg (by omega)]
theorem le_offB {L : List (List UInt8)} : (BV.p (.sl L.length 1 (fun j => (fun j => PV.bs (L.getD j [])) (0 + j)))).le (.p (.sl L.length 1 (fun j => .bs (L.getD j [])))) := le_sl rfl (fun j _ => by rw [Nat.zero_add])
theorem num_neg (k : Int) : numF (-1) k = [] := numF_bad (.inr (by decide))
theorem get_m (n : UInt32) (c : UInt8) : getF (numF (mC n c) (szC c)) 0 (szC c) = (mC n c, szC c, 0) := by
  have h := mC_v n c
  exact get_num (szC_v c) h.1 h.2.1 (by omega)
end Go.Vw

/- Wire's laws, in plain Lean: what is written is read; what is read is written. -/
set_option linter.unusedVariables false
set_option linter.unusedSimpArgs false
namespace Go.Vw
open Go Go.Vc

theorem u8_ext {a b : UInt8} (h : (a.toNat : Int) = b.toNat) : a = b := UInt8.toNat_inj.1 (by omega)
theorem be3 (b c d : UInt8) : beN [b, c, d] = b.toNat * 65536 + c.toNat * 256 + d.toNat := by
  show ((0 * 256 + b.toNat) * 256 + c.toNat) * 256 + d.toNat = _
  omega
theorem lenF_back {c : UInt8} {tl : List UInt8} {m r : Nat} (hr : tl.length = r) (hm : m = c.toNat % 64 * 256 ^ r + beN tl) (hs : ((r + 1 : Nat) : Int) = szOf c) (hc : c.toNat < 192) (hL : (lenF (m : Int)).length = r + 1) :
    lenF (m : Int) = c :: tl := by
  have hll := lenF_len (m : Int)
  rw [hL] at hll
  have hsz : (r = 0 ∧ c.toNat < 64) ∨ (r = 1 ∧ 64 ≤ c.toNat ∧ c.toNat < 128) ∨ (r = 3 ∧ 128 ≤ c.toNat) := by
    unfold szOf at hs
    split at hs
    · omega
    · split at hs <;> omega
  clear hs hL
  rcases hsz with ⟨rfl, h1⟩ | ⟨rfl, h1, h2⟩ | ⟨rfl, h1⟩
  · have e := List.eq_nil_of_length_eq_zero hr
    subst e
    rw [beN_nil, Nat.pow_zero] at hm
    unfold lenF
    rw [if_pos (by omega)]
    have e1 : UInt8.ofInt (m : Int) = c := u8_ext (by rw [u8_toNat]; omega)
    rw [e1]
  · obtain ⟨t0, rfl⟩ := List.length_eq_one_iff.1 hr
    have h0 := t0.toNat_lt
    rw [show beN [t0] = 0 * 256 + t0.toNat from rfl, Nat.pow_one] at hm
    clear hr
    unfold lenF
    by_cases h3 : (m : Int) < 64
    · rw [if_pos h3] at hll; omega
    rw [if_neg h3] at hll
    by_cases h4 : (m : Int) < 16384
    case neg => rw [if_neg h4] at hll; omega
    rw [if_neg h3, if_pos h4]
    have e1 : UInt8.ofInt ((m : Int) / 256 + 64) = c := u8_ext (by rw [u8_toNat]; omega)
    have e2 : UInt8.ofInt (m : Int) = t0 := u8_ext (by rw [u8_toNat]; omega)
    rw [e1, e2]
  · obtain ⟨t0, t1, t2, rfl⟩ : ∃ a b c, tl = [a, b, c] := by
      rcases tl with _ | ⟨a, _ | ⟨b, _ | ⟨d, _ | ⟨e, r⟩⟩⟩⟩
      · simp at hr
      · simp at hr
      · simp at hr
      · exact ⟨a, b, d, rfl⟩
      · simp at hr
    have h0 := t0.toNat_lt
    have h2 := t1.toNat_lt
    have h5 := t2.toNat_lt
    rw [be3, show 256 ^ 3 = 16777216 from rfl] at hm
    clear hr
    unfold lenF
    by_cases h3 : (m : Int) < 64
    · rw [if_pos h3] at hll; omega
    rw [if_neg h3] at hll
    by_cases h4 : (m : Int) < 16384
    · rw [if_pos h4] at hll; omega
    rw [if_neg h3, if_neg h4]
    have e1 : UInt8.ofInt ((m : Int) / 16777216 + 128) = c := u8_ext (by rw [u8_toNat]; omega)
    have e2 : UInt8.ofInt ((m : Int) / 65536) = t0 := u8_ext (by rw [u8_toNat]; omega)
    have e3 : UInt8.ofInt ((m : Int) / 256) = t1 := u8_ext (by rw [u8_toNat]; omega)
    have e4 : UInt8.ofInt (m : Int) = t2 := u8_ext (by rw [u8_toNat]; omega)
    rw [e1, e2, e3, e4]
/-- A length's first byte, and those behind it. -/
theorem lenF_cons {n : Nat} (h : n ≤ 1048576) : ∃ c tl, lenF (n : Int) = c :: tl ∧ c.toNat < 192 ∧ szOf c = ((tl.length + 1 : Nat) : Int) ∧ c.toNat % 64 * 256 ^ tl.length + beN tl = n := by
  unfold lenF szOf
  split
  · rename_i h1
    have := u8_toNat (n : Int)
    refine ⟨_, [], rfl, by omega, by rw [if_neg (by omega), if_neg (by omega)]; rfl, ?_⟩
    simp only [List.length_nil, Nat.pow_zero, Nat.mul_one]
    show _ + 0 = _
    omega
  · split
    · rename_i h1 h2
      have h3 := u8_toNat ((n : Int) / 256 + 64)
      have h4 := u8_toNat (n : Int)
      refine ⟨_, [UInt8.ofInt (n : Int)], rfl, by omega, by rw [if_neg (by omega), if_pos (by omega)]; rfl, ?_⟩
      show _ % 64 * 256 + (0 * 256 + _) = _
      omega
    · rename_i h1 h2
      have h3 := u8_toNat ((n : Int) / 16777216 + 128)
      have h4 := u8_toNat ((n : Int) / 65536)
      have h5 := u8_toNat ((n : Int) / 256)
      have h6 := u8_toNat (n : Int)
      refine ⟨_, [UInt8.ofInt ((n : Int) / 65536), UInt8.ofInt ((n : Int) / 256), UInt8.ofInt (n : Int)], rfl, by omega, by rw [if_pos (by omega)]; rfl, ?_⟩
      rw [be3, List.length_cons, List.length_cons, List.length_cons, List.length_nil, show 256 ^ (0 + 1 + 1 + 1) = 16777216 from rfl]
      omega
theorem lenN_app {A R : List UInt8} {c : UInt8} {tl : List UInt8} : lenN (A ++ (c :: tl) ++ R) (A.length : Int) (tl.length + 1) = c.toNat % 64 * 256 ^ tl.length + beN tl ∧ (A ++ (c :: tl) ++ R).getD ((A.length : Int)).toNat 0 = c := by
  have e1 : (A ++ (c :: tl) ++ R).getD ((A.length : Int)).toNat 0 = c := by
    rw [Int.toNat_natCast, List.getD_eq_getElem?_getD, List.append_assoc, List.getElem?_append_right (Nat.le_refl _)]
    simp
  refine ⟨?_, e1⟩
  unfold lenN
  rw [e1, Int.toNat_natCast, Nat.add_sub_cancel]
  congr 2
  rw [List.append_assoc, ← List.drop_drop, List.drop_left]
  simp
theorem hd_enc {A R : List UInt8} {n : Nat} (h : n ≤ 1048576) (hr : n ≤ R.length) : hdF (A ++ lenF (n : Int) ++ R) (A.length : Int) = ((n : Int), (A.length : Int) + (lenF (n : Int)).length, 0) := by
  obtain ⟨c, tl, e, h1, h2, h3⟩ := lenF_cons h
  have hl := @lenN_app A R c tl
  rw [h3] at hl
  have hlen : (lenF (n : Int)).length = tl.length + 1 := by rw [e]; rfl
  rw [e]
  have hv := (hd_val (b := A ++ (c :: tl) ++ R) (i := (A.length : Int)) (s := tl.length + 1) (by omega) (by rw [hl.2]; exact h1) (by rw [hl.2, h2]) (by simp; omega)).2.2.2
  rw [hl.1] at hv
  rw [hv (by rw [hlen]) h (by simp; omega)]
  rfl
theorem span_enc {A R : List UInt8} {n : Nat} (h : n ≤ 1048576) (hr : n ≤ R.length) : spanF (A ++ lenF (n : Int) ++ R) (A.length : Int) = ((A.length : Int) + (lenF (n : Int)).length, (A.length : Int) + (lenF (n : Int)).length + n, 0) := by
  have hh := @hd_enc A R n h hr
  have h1 := hd_to (A ++ lenF (n : Int) ++ R) (A.length : Int)
  have h2 := hd_from (A ++ lenF (n : Int) ++ R) (A.length : Int)
  have h3 : (hdF (A ++ lenF (n : Int) ++ R) (A.length : Int)).2.2 = (spanF (A ++ lenF (n : Int) ++ R) (A.length : Int)).2.2 := rfl
  rw [hh] at h1 h2 h3
  refine Prod.ext h2.symm (Prod.ext ?_ h3.symm)
  simpa using h1.symm
/-- What is written is read. -/
theorem text_enc {A s R : List UInt8} (h : textE s = 0) : getTextF (A ++ textF s ++ R) (A.length : Int) = (s, (A.length : Int) + (textF s).length, 0) := by
  have hl := textE_eq h
  have e : textF s = lenF (s.length : Int) ++ s := by unfold textF; rw [if_neg (by omega)]
  have hs := @span_enc A (s ++ R) s.length hl (by simp)
  have e2 : A ++ textF s ++ R = A ++ lenF (s.length : Int) ++ (s ++ R) := by rw [e]; simp
  rw [e2]
  unfold getTextF
  rw [hs, if_neg (by simp)]
  refine Prod.ext ?_ (Prod.ext ?_ rfl)
  · show List.drop ((A.length : Int) + (lenF (s.length : Int)).length).toNat (List.take ((A.length : Int) + (lenF (s.length : Int)).length + (s.length : Int)).toNat _) = s
    rw [show ((A.length : Int) + (lenF (s.length : Int)).length).toNat = (A ++ lenF (s.length : Int)).length by simp; omega,
      show ((A.length : Int) + (lenF (s.length : Int)).length + (s.length : Int)).toNat = (A ++ lenF (s.length : Int)).length + s.length by simp; omega]
    rw [List.take_length_add_append, List.drop_left, List.take_left]
  · show (A.length : Int) + (lenF (s.length : Int)).length + (s.length : Int) = _
    rw [e]; simp; omega
theorem hd_dec {b : List UInt8} {i : Int} (h : (spanF b i).2.2 = 0) : ∃ n : Nat, n ≤ 1048576 ∧ spanF b i = (i + (lenF (n : Int)).length, i + (lenF (n : Int)).length + n, 0) ∧ 0 ≤ i ∧ i + (lenF (n : Int)).length + n ≤ b.length ∧ (b.drop i.toNat).take (lenF (n : Int)).length = lenF (n : Int) := by
  have h3 : (hdF b i).2.2 = 0 := h
  by_cases ha : i < 0 ∨ (b.length : Int) < i
  · rw [hd_arg ha] at h3; cases h3
  by_cases hb : i = b.length
  · rw [hd_end hb] at h3; cases h3
  by_cases hc : 192 ≤ (b.getD i.toNat 0).toNat
  · rw [hd_192 (by omega) (by omega) hc] at h3; cases h3
  by_cases hd : (b.length : Int) - i < szOf (b.getD i.toNat 0)
  · rw [hd_short (by omega) (by omega) (by omega) hd] at h3; cases h3
  have hz := szOf_v (b.getD i.toNat 0)
  obtain ⟨s, hs⟩ : ∃ s : Nat, (s : Int) = szOf (b.getD i.toNat 0) := ⟨(szOf (b.getD i.toNat 0)).toNat, by omega⟩
  obtain ⟨v1, v2, v3, v4⟩ := hd_val (b := b) (i := i) (s := s) (by omega) (by omega) hs (by omega)
  by_cases e1 : ((lenF (lenN b i s)).length : Int) = s
  case neg => rw [v1 e1] at h3; cases h3
  by_cases e2 : lenN b i s ≤ 1048576
  case neg => rw [v2 e1 (by omega)] at h3; cases h3
  by_cases e3 : lenN b i s ≤ (b.length : Int) - i - s
  case neg => rw [v3 e1 e2 (by omega)] at h3; cases h3
  have v := v4 e1 e2 e3
  have w1 := hd_to b i
  have w2 := hd_from b i
  rw [v] at w1 w2
  refine ⟨lenN b i s, e2, ?_, by omega, by omega, ?_⟩
  · refine Prod.ext ?_ (Prod.ext ?_ h)
    · rw [← w2]; simp only; omega
    · rw [← w1]; simp only; omega
  · have hi : i.toNat < b.length := by omega
    have hg : b.getD i.toNat 0 = b[i.toNat] := by simp [List.getD, List.getElem?_eq_getElem hi]
    obtain ⟨r, rfl⟩ : ∃ r, s = r + 1 := ⟨s - 1, by omega⟩
    have hL : (lenF ((lenN b i (r + 1) : Nat) : Int)).length = r + 1 := by omega
    rw [hL, List.drop_eq_getElem_cons hi, List.take_succ_cons, ← hg]
    have hn : lenN b i (r + 1) = (b.getD i.toNat 0).toNat % 64 * 256 ^ r + beN ((b.drop (i.toNat + 1)).take r) := rfl
    have htl : ((b.drop (i.toNat + 1)).take r).length = r := by simp; omega
    exact (lenF_back htl hn hs (by omega) hL).symm
/-- What is read is written. -/
theorem text_dec {b : List UInt8} {i : Int} (h : (getTextF b i).2.2 = 0) : textE (getTextF b i).1 = 0 ∧ 0 ≤ i ∧ (getTextF b i).2.1 = i + (textF (getTextF b i).1).length ∧ (getTextF b i).2.1 ≤ b.length ∧
    (b.drop i.toNat).take (textF (getTextF b i).1).length = textF (getTextF b i).1 := by
  rw [getText_e] at h
  obtain ⟨n, h1, h2, h3, h4, h5⟩ := hd_dec h
  have ht := getText_all h
  unfold allOf at ht
  rw [h2] at ht
  simp only at ht
  have hlen : (getTextF b i).1.length = n := by rw [ht.1]; simp; omega
  have e : textF (getTextF b i).1 = lenF (n : Int) ++ (getTextF b i).1 := by unfold textF; rw [hlen, if_neg (by omega)]
  have hE : textE (getTextF b i).1 = 0 := by unfold textE; rw [hlen, if_neg (by omega)]
  refine ⟨hE, h3, ?_, by omega, ?_⟩
  · rw [ht.2, e, List.length_append, hlen]; omega
  · rw [e, List.length_append, List.take_add, h5]
    congr 1
    rw [hlen, ht.1, List.drop_drop]
    rw [show (i + ((lenF (n : Int)).length : Int) + (n : Int)).toNat = (i.toNat + (lenF (n : Int)).length) + n by omega, show (i + ((lenF (n : Int)).length : Int)).toNat = i.toNat + (lenF (n : Int)).length by omega, List.drop_take, Nat.add_sub_cancel_left]

/-! ### Lists -/
theorem catT_app (l m : List (List UInt8)) : catT (l ++ m) = catT l ++ catT m := by simp [catT]
theorem catT_cons (s : List UInt8) (m : List (List UInt8)) : catT (s :: m) = textF s ++ catT m := by simp [catT]
theorem textE_of {s : List UInt8} (h : s.length ≤ 1048576) : textE s = 0 := by unfold textE; rw [if_neg (by omega)]
theorem textF_pos {s : List UInt8} (h : textE s = 0) : 1 ≤ (textF s).length := by
  have := textE_eq h
  unfold textF
  rw [if_neg (by omega), List.length_append, lenF_len]
  split <;> (try split) <;> omega
theorem parse_enc : ∀ (r : List (List UInt8)) (P : List UInt8) (out : List (List UInt8)), (∀ s, s ∈ r → s.length ≤ 1048576) → parse (P ++ catT r) (P.length : Int) out = (out ++ r, 0)
  | [], P, out, _ => by
    rw [parse_end (by omega) (by simp [catT]) (by simp [catT])]
    simp
  | s :: r, P, out, h => by
    have hs := textE_of (h s (by simp))
    have hp := textF_pos hs
    have he := text_enc (A := P) (s := s) (R := catT r) hs
    have e : P ++ catT (s :: r) = P ++ textF s ++ catT r := by rw [catT_cons, List.append_assoc]
    rw [e]
    rw [parse_step (by omega) (by simp; omega) (by rw [he]), he]
    have := parse_enc r (P ++ textF s) (out ++ [s]) (fun t ht => h t (by simp [ht]))
    rw [List.length_append, Int.natCast_add] at this
    rw [this]
    simp
theorem list_enc {A R : List UInt8} {l : List (List UInt8)} (h : okT l) : getListF (A ++ listF l ++ R) (A.length : Int) = (l, (A.length : Int) + (listF l).length, 0) := by
  obtain ⟨h1, h2, h3⟩ := row_all h
  have ht := text_enc (A := A) (s := catT l) (R := R) h2
  rw [← h3] at ht
  have he : (spanF (A ++ listF l ++ R) (A.length : Int)).2.2 = 0 := by rw [← getText_e, ht]
  have ha := getText_all he
  rw [ht] at ha
  have hp := parse_enc l [] [] h.1
  simp only [List.nil_append, List.length_nil] at hp
  unfold getListF
  rw [if_neg (by rw [he]; simp), ← ha.1, ← ha.2]
  rw [show ((0 : Nat) : Int) = 0 from rfl] at hp
  simp only [hp]
  simp
theorem parse_dec (b : List UInt8) : ∀ (n : Nat) (i : Int) (out : List (List UInt8)), 0 ≤ i → i ≤ b.length → b.length < n + i → (parse b i out).2 = 0 → ∃ r, parse b i out = (out ++ r, 0) ∧ b.drop i.toNat = catT r ∧ ∀ s, s ∈ r → s.length ≤ 1048576
  | 0, i, out, h0, h1, hn, _ => by omega
  | n + 1, i, out, h0, h1, hn, h => by
    by_cases hi : i < b.length
    · by_cases he : (getTextF b i).2.2 = 0
      · obtain ⟨d1, d2, d3, d4, d5⟩ := text_dec he
        have hp := textF_pos d1
        rw [parse_step h0 hi he] at h ⊢
        obtain ⟨r, r1, r2, r3⟩ := parse_dec b n _ _ (by omega) d4 (by omega) h
        refine ⟨(getTextF b i).1 :: r, by rw [r1]; simp, ?_, fun s hs => ?_⟩
        · rw [catT_cons, ← r2, d3]
          rw [show (i + ((textF (getTextF b i).1).length : Int)).toNat = i.toNat + (textF (getTextF b i).1).length by omega, ← List.drop_drop]
          conv => lhs; rw [← List.take_append_drop (textF (getTextF b i).1).length (b.drop i.toNat), d5]
        · rcases List.mem_cons.1 hs with rfl | hs
          · exact textE_eq d1
          · exact r3 s hs
      · rw [parse_err h0 hi he] at h
        exact absurd h he
    · refine ⟨[], by rw [parse_end h0 hi h1]; simp, ?_, fun s hs => by simp at hs⟩
      rw [List.drop_eq_nil_of_le (by omega)]
      rfl
theorem list_dec {b : List UInt8} {i : Int} (h : (getListF b i).2.2 = 0) : okT (getListF b i).1 ∧ 0 ≤ i ∧ (getListF b i).2.1 = i + (listF (getListF b i).1).length ∧ (getListF b i).2.1 ≤ b.length ∧
    (b.drop i.toNat).take (listF (getListF b i).1).length = listF (getListF b i).1 := by
  by_cases h1 : (spanF b i).2.2 = 0
  case neg => rw [gl_e0 h1] at h; exact absurd h h1
  by_cases h2 : (parse (allOf b i) 0 []).2 = 0
  case neg =>
    unfold getListF at h
    rw [if_neg (by simpa using h1), if_pos h2] at h
    exact absurd h h2
  have e : getListF b i = ((parse (allOf b i) 0 []).1, (spanF b i).2.1, 0) := by
    unfold getListF
    rw [if_neg (by simpa using h1), if_neg (by simpa using h2)]
  obtain ⟨d1, d2, d3, d4, d5⟩ := text_dec (b := b) (i := i) (by rw [getText_e]; exact h1)
  have ha := getText_all h1
  obtain ⟨r, r1, r2, r3⟩ := parse_dec (allOf b i) _ 0 [] (Int.le_refl _) (by omega) (show (allOf b i).length < (((allOf b i).length + 1 : Nat) : Int) + 0 by omega) h2
  have e1 : (getListF b i).1 = r := by rw [e, r1]; simp
  have e2 : (getTextF b i).1 = catT r := by rw [ha.1, ← r2]; simp
  have hk : okT r := ⟨r3, by rw [← e2]; exact textE_eq d1⟩
  rw [e1]
  obtain ⟨_, _, k3⟩ := row_all hk
  rw [e2, ← k3] at d3 d5
  refine ⟨hk, d2, ?_, ?_, d5⟩
  · rw [e]; simp only; rw [← ha.2]; exact d3
  · rw [e]; simp only; rw [← ha.2]; exact d4
theorem list_err {b : List UInt8} {i : Int} (h : ¬ (getListF b i).2.2 = 0) : (getListF b i).1 = [] ∧ (getListF b i).2.1 = 0 := by
  unfold getListF at h ⊢
  split
  · exact ⟨rfl, rfl⟩
  · rename_i h1
    rw [if_neg h1] at h
    split
    · exact ⟨rfl, rfl⟩
    · rename_i h2
      rw [if_neg h2] at h
      exact absurd rfl h
/-! ### Apart -/
theorem text_pre {s t : List UInt8} (hs : textE s = 0) (ht : textE t = 0) (h : (textF s).take (textF t).length = textF t) : s = t := by
  have e : textF s = textF t ++ (textF s).drop (textF t).length := by
    conv => lhs; rw [← List.take_append_drop (textF t).length (textF s), h]
  have h1 := text_enc (A := []) (s := s) (R := []) hs
  have h2 := text_enc (A := []) (s := t) (R := (textF s).drop (textF t).length) ht
  simp only [List.nil_append, List.append_nil] at h1 h2
  rw [← e, h1] at h2
  exact (Prod.mk.inj h2).1
theorem listE_ok {l : List (List UInt8)} (h : listE l = 0) : okT l := by
  refine Classical.byContradiction fun hn => ?_
  rw [listE_no hn] at h
  cases h
theorem list_pre {l m : List (List UInt8)} (hl : okT l) (hm : okT m) (h : (listF l).take (listF m).length = listF m) : l = m := by
  have e : listF l = listF m ++ (listF l).drop (listF m).length := by
    conv => lhs; rw [← List.take_append_drop (listF m).length (listF l), h]
  have h1 := list_enc (A := []) (R := []) hl
  have h2 := list_enc (A := []) (R := (listF l).drop (listF m).length) hm
  simp only [List.nil_append, List.append_nil] at h1 h2
  rw [← e, h1] at h2
  exact (Prod.mk.inj h2).1
theorem span_short {s : List UInt8} {k : Nat} (hs : textE s = 0) (hk : k < (textF s).length) : (spanF ((textF s).take k) 0).2.2 = 111 := by
  have hl := textE_eq hs
  have e : textF s = lenF (s.length : Int) ++ s := by unfold textF; rw [if_neg (by omega)]
  obtain ⟨c, tl, e1, h1, h2, h3⟩ := lenF_cons hl
  rw [e, e1] at hk ⊢
  simp only [List.length_append, List.length_cons] at hk
  have hlen : (lenF ((s.length : Nat) : Int)).length = tl.length + 1 := by rw [e1]; rfl
  by_cases k0 : k = 0
  · subst k0
    rfl
  obtain ⟨j, rfl⟩ : ∃ j, k = j + 1 := ⟨k - 1, by omega⟩
  have hb : ((c :: tl ++ s).take (j + 1)) = c :: (tl ++ s).take j := rfl
  have hlb : (c :: (tl ++ s).take j).length = j + 1 := by simp; omega
  rw [hb]
  show (hdF (c :: (tl ++ s).take j) 0).2.2 = 111
  have hg : (c :: (tl ++ s).take j).getD (0 : Int).toNat 0 = c := rfl
  by_cases hj : j + 1 < tl.length + 1
  · rw [hd_short (Int.le_refl _) (by omega) (by rw [hg]; exact h1) (by rw [hg, h2]; omega)]
  · have hv := (hd_val (b := c :: (tl ++ s).take j) (i := 0) (s := tl.length + 1) (Int.le_refl _) (by rw [hg]; exact h1) (by rw [hg, h2]) (by omega)).2.2.1
    have hn : lenN (c :: (tl ++ s).take j) 0 (tl.length + 1) = s.length := by
      rw [← h3]
      show c.toNat % 64 * 256 ^ tl.length + beN (((tl ++ s).take j).take tl.length) = _
      rw [List.take_take, Nat.min_eq_left (by omega), List.take_left]
    rw [hn] at hv
    rw [hv (by rw [hlen]) hl (by omega)]
theorem list_cut {l : List (List UInt8)} {k : Nat} (h : okT l) (hk : k < (listF l).length) : (getListF ((listF l).take k) 0).2.2 = 111 := by
  obtain ⟨h1, h2, h3⟩ := row_all h
  rw [h3] at hk ⊢
  have := span_short h2 hk
  rw [gl_e0 (by omega)]
  exact this
theorem listF_pos {l : List (List UInt8)} (h : okT l) : 1 ≤ (listF l).length := by
  obtain ⟨h1, h2, h3⟩ := row_all h
  rw [h3]
  exact textF_pos h2
theorem kept1 {b : List UInt8} (h : (getTextF b 0).2.2 = 0) : textE (getTextF b 0).1 = 0 ∧ 0 ≤ (getTextF b 0).2.1 ∧ (getTextF b 0).2.1 ≤ b.length ∧ b.take (getTextF b 0).2.1.toNat = textF (getTextF b 0).1 := by
  obtain ⟨h1, h2, h3, h4, h5⟩ := text_dec h
  refine ⟨h1, by omega, h4, ?_⟩
  rw [← h5, h3]
  simp
theorem kept2 {b : List UInt8} (h : (getListF b 0).2.2 = 0) : listE (getListF b 0).1 = 0 ∧ 0 ≤ (getListF b 0).2.1 ∧ (getListF b 0).2.1 ≤ b.length ∧ b.take (getListF b 0).2.1.toNat = listF (getListF b 0).1 := by
  obtain ⟨h1, h2, h3, h4, h5⟩ := list_dec h
  refine ⟨(row_all h1).1, by omega, h4, ?_⟩
  rw [← h5, h3]
  simp
theorem num_enc {A R : List UInt8} {n k : Int} (hk : k = 1 ∨ k = 2 ∨ k = 4 ∨ k = 8) (h0 : 0 ≤ n) (h : n < 256 ^ k.toNat) (hm : n ≤ 9223372036854775807) : getF (A ++ numF n k ++ R) (A.length : Int) k = (n, (A.length : Int) + k, 0) ∧ (numF n k).length = k := by
  have e : numF n k = numB n k.toNat := numF_ok hk h0 (by
    rintro ⟨h8, h9⟩
    rw [shl_one (by omega)] at h9
    omega)
  have hl : (numB n k.toNat).length = k.toNat := numB_len _ _
  have hb : (((A ++ numB n k.toNat ++ R).take ((A.length : Int) + k).toNat).drop (A.length : Int).toNat) = numB n k.toNat := by
    rw [show ((A.length : Int) + k).toNat = A.length + (numB n k.toNat).length by rw [hl]; omega, List.append_assoc, List.take_length_add_append, List.take_left, Int.toNat_natCast, List.drop_left]
  have hv := beN_numB h0 h
  have hu : ((UInt64.ofNat (beN (numB n k.toNat))).toNat : Int) = n := by
    rw [UInt64.toNat_ofNat', Nat.mod_eq_of_lt (by omega), hv]
  refine ⟨?_, by rw [e, hl]; omega⟩
  rw [e, getF_okU (by omega) (by simp; omega) hk (by simp [hl]; omega) (by rw [hb]; omega), hb, hu, i64_eq, if_neg (by omega), Int.emod_eq_of_lt h0 (by omega)]
end Go.Vw

/- Wire's laws, in plain Lean: one behind the other. -/
set_option linter.unusedVariables false
namespace Go.Vw
open Go Go.Vc
theorem listF_len (l : List (List UInt8)) : (listF l).length ≤ 1048580 := by
  unfold listF
  split
  · exact textF_len _
  · simp
theorem back0 (n : UInt32) : (numF (n.toNat : Int) 4).length = 4 ∧ (0 : Int) ≤ n.toNat ∧ (n.toNat : Int) < 256 ^ (4 : Int).toNat ∧ (n.toNat : Int) ≤ 9223372036854775807 := by
  have := n.toNat_lt
  have h1 : (n.toNat : Int) < 256 ^ (4 : Int).toNat := by show (n.toNat : Int) < 4294967296; omega
  have h2 := (num_enc (A := []) (R := []) (n := (n.toNat : Int)) (k := 4) (by omega) (by omega) h1 (by omega)).2
  exact ⟨by omega, by omega, h1, by omega⟩
theorem back1 {a s z : List UInt8} {n : UInt32} {l : List (List UInt8)} : getF (a ++ numF (n.toNat : Int) 4 ++ textF s ++ listF l ++ z) (a.length : Int) 4 = ((n.toNat : Int), (a.length : Int) + 4, 0) := by
  have h := back0 n
  rw [show a ++ numF (n.toNat : Int) 4 ++ textF s ++ listF l ++ z = a ++ numF (n.toNat : Int) 4 ++ (textF s ++ listF l ++ z) by simp only [List.append_assoc]]
  exact (num_enc (by omega) h.2.1 h.2.2.1 h.2.2.2).1
theorem back2 {a s z : List UInt8} {n : UInt32} {l : List (List UInt8)} (hs : textE s = 0) : getTextF (a ++ numF (n.toNat : Int) 4 ++ textF s ++ listF l ++ z) ((a.length : Int) + 4) = (s, (a.length : Int) + 4 + (textF s).length, 0) := by
  have h := back0 n
  have ht := text_enc (A := a ++ numF (n.toNat : Int) 4) (s := s) (R := listF l ++ z) hs
  rw [List.length_append, h.1] at ht
  rw [show a ++ numF (n.toNat : Int) 4 ++ textF s ++ listF l ++ z = a ++ numF (n.toNat : Int) 4 ++ textF s ++ (listF l ++ z) by simp only [List.append_assoc]]
  exact ht
theorem back3 {a s z : List UInt8} {n : UInt32} {l : List (List UInt8)} (hl : listE l = 0) : getListF (a ++ numF (n.toNat : Int) 4 ++ textF s ++ listF l ++ z) ((a.length : Int) + 4 + (textF s).length) = (l, (a.length : Int) + 4 + (textF s).length + (listF l).length, 0) := by
  have h := back0 n
  have ht := list_enc (A := a ++ numF (n.toNat : Int) 4 ++ textF s) (R := z) (listE_ok hl)
  rw [List.length_append, List.length_append, h.1] at ht
  exact ht
theorem back4 {a s z : List UInt8} {n : UInt32} {l : List (List UInt8)} : ((a ++ numF (n.toNat : Int) 4 ++ textF s ++ listF l ++ z).length : Int) = (a.length : Int) + 4 + (textF s).length + (listF l).length + z.length := by
  have h := back0 n
  simp only [List.length_append, h.1]
  omega
theorem apartA {s t : List UInt8} (hs : textE s = 0) (ht : textE t = 0) (hn : ¬ s = t) (h : (textF t).length ≤ (textF s).length ∧ (textF s).take (textF t).length = textF t) : False := hn (text_pre hs ht h.2)
theorem apartB {s t : List UInt8} (hs : textE s = 0) (ht : textE t = 0) (hn : ¬ s = t) (h : (textF s).length ≤ (textF t).length ∧ (textF t).take (textF s).length = textF s) : False := hn (text_pre ht hs h.2).symm
theorem apartC {l m : List (List UInt8)} (hs : listE l = 0) (ht : listE m = 0) (hn : ¬ l = m) (h : (listF m).length ≤ (listF l).length ∧ (listF l).take (listF m).length = listF m) : False := hn (list_pre (listE_ok hs) (listE_ok ht) h.2)
theorem apartD {l m : List (List UInt8)} (hs : listE l = 0) (ht : listE m = 0) (hn : ¬ l = m) (h : (listF l).length ≤ (listF m).length ∧ (listF m).take (listF l).length = listF l) : False := hn (list_pre (listE_ok ht) (listE_ok hs) h.2).symm
theorem u32_toNat (n : Int) : ((UInt32.ofInt n).toNat : Int) = n % 4294967296 := by
  simp only [UInt32.ofInt, UInt32.toNat_ofNat']
  omega
theorem cut_nz {k : Nat} (h1 : 1 ≤ k) (h2 : k ≤ 1048580) : UInt32.ofInt (k : Int) ≠ 0 := by
  intro h
  have h3 := u32_toNat (k : Int)
  rw [h] at h3
  have h4 : ((0 : UInt32).toNat : Int) = 0 := rfl
  omega
theorem cut_lt {k : Nat} (n : UInt32) (h1 : 1 ≤ k) (h2 : k ≤ 1048580) : (n % UInt32.ofInt (k : Int)).toNat < k := by
  rw [UInt32.toNat_mod]
  have h3 := u32_toNat (k : Int)
  have h4 : (UInt32.ofInt (k : Int)).toNat = k := by omega
  rw [h4]
  exact Nat.mod_lt _ (by omega)
end Go.Vw
