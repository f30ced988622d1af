/- What is proved: plain facts on lists of bytes and on numbers, for the laws of this seat; no condition. -/
import Derived.Test.YthooffbjfpehhaaDoorFrame2
set_option linter.unusedVariables false
set_option linter.unusedSimpArgs false
/- The plain law of layer 11: numbers, lengths, texts, lists, as plain functions. -/
set_option linter.unusedVariables false
namespace Go.Vw
open Go Go.Vc

/-! ### Numbers -/
def fitsF (n : Int) : Bool := decide (n = 1 ∨ n = 2 ∨ n = 4 ∨ n = 8)
theorem fitsT {n : Int} (h : fitsF n = true) : n = 1 ∨ n = 2 ∨ n = 4 ∨ n = 8 := by simpa [fitsF] using h
theorem fitsN {n : Int} (h : fitsF n = false) : ¬ (n = 1 ∨ n = 2 ∨ n = 4 ∨ n = 8) := by simpa [fitsF] using h
theorem fits_t {n : Int} (h : n = 1 ∨ n = 2 ∨ n = 4 ∨ n = 8) : true = fitsF n := by simp [fitsF, h]
theorem fits_f {n : Int} (h : ¬ (n = 1 ∨ n = 2 ∨ n = 4 ∨ n = 8)) : false = fitsF n := by simp only [fitsF]; exact (decide_eq_false h).symm

/-- The number that bytes are, the first the greatest. -/
def beN (l : List UInt8) : Nat := l.foldl (fun n c => n * 256 + c.toNat) 0
theorem beN_nil : beN [] = 0 := rfl
theorem beN_snoc (l : List UInt8) (c : UInt8) : beN (l ++ [c]) = beN l * 256 + c.toNat := by simp [beN, List.foldl_append]
theorem beN_take {l : List UInt8} {s : Nat} (h : s < l.length) : beN (l.take (s + 1)) = beN (l.take s) * 256 + (l.getD s 0).toNat := by
  rw [List.take_add_one, List.getElem?_eq_getElem h, List.getD_eq_getElem?_getD, List.getElem?_eq_getElem h]
  exact beN_snoc _ _
theorem foldl_be (l : List UInt8) (a : Nat) : l.foldl (fun n c => n * 256 + c.toNat) a = a * 256 ^ l.length + beN l := by
  induction l generalizing a with
  | nil => simp [beN]
  | cons c r ih =>
    simp only [List.foldl_cons, beN, List.length_cons]
    rw [ih, ih (0 * 256 + c.toNat)]
    rw [Nat.pow_succ, Nat.add_mul]
    simp only [Nat.zero_mul, Nat.zero_add]
    rw [Nat.mul_assoc, Nat.mul_comm 256]
    omega
theorem beN_cons (c : UInt8) (l : List UInt8) : beN (c :: l) = c.toNat * 256 ^ l.length + beN l := by
  show l.foldl _ (0 * 256 + c.toNat) = _
  rw [foldl_be]; simp
theorem beN_append (l m : List UInt8) : beN (l ++ m) = beN l * 256 ^ m.length + beN m := by
  show (l ++ m).foldl _ 0 = _
  rw [List.foldl_append, foldl_be]; rfl
theorem beN_lt (l : List UInt8) : beN l < 256 ^ l.length := by
  induction l with
  | nil => simp [beN]
  | cons c r ih =>
    rw [beN_cons, List.length_cons, Nat.pow_succ]
    have := c.toNat_lt
    have h1 : c.toNat * 256 ^ r.length ≤ 255 * 256 ^ r.length := Nat.mul_le_mul_right _ (by omega)
    omega

/-! ### 64 bits -/
theorem i64_eq (n : Int) : IntKind.i64.wrap n = if 9223372036854775808 ≤ n % 18446744073709551616 then n % 18446744073709551616 - 18446744073709551616 else n % 18446744073709551616 := by
  simp [IntKind.wrap, IntKind.bits, IntKind.signed]
theorem i64_mod (n : Int) : IntKind.i64.wrap n % 18446744073709551616 = n % 18446744073709551616 := by
  rw [i64_eq]; split <;> omega
theorem i64_congr {a b : Int} (h : a % 18446744073709551616 = b % 18446744073709551616) : IntKind.i64.wrap a = IntKind.i64.wrap b := by
  rw [i64_eq, i64_eq, h]
theorem ofInt_congr {a b : Int} (h : a % 18446744073709551616 = b % 18446744073709551616) : BitVec.ofInt 64 a = BitVec.ofInt 64 b := by
  apply BitVec.eq_of_toNat_eq
  simp only [BitVec.toNat_ofInt]
  have e : ((2 ^ 64 : Nat) : Int) = 18446744073709551616 := by decide
  rw [e, h]
theorem ofInt_nat (n : Nat) : BitVec.ofInt 64 (n : Int) = BitVec.ofNat 64 n := by simp
set_option maxRecDepth 100000 in
theorem or_byte (m c : Nat) (hc : c < 256) : BitVec.ofNat 64 (m * 256) ||| BitVec.ofNat 64 c = BitVec.ofNat 64 (m * 256 + c) := by
  apply BitVec.eq_of_toNat_eq
  simp only [BitVec.toNat_or, BitVec.toNat_ofNat, Nat.reducePow]
  have e1 : c % 18446744073709551616 = c := Nat.mod_eq_of_lt (by omega)
  have e2 : m * 256 % 18446744073709551616 = (m % 72057594037927936) <<< 8 := by simp only [Nat.shiftLeft_eq, Nat.reducePow]; omega
  have e3 : (m * 256 + c) % 18446744073709551616 = (m % 72057594037927936) <<< 8 + c := by simp only [Nat.shiftLeft_eq, Nat.reducePow]; omega
  rw [e1, e2, e3, Nat.shiftLeft_add_eq_or_of_lt (by simpa using hc)]
/-- One byte more, in 64 bits. -/
theorem i64_step (m : Nat) (c : UInt8) : iOr .i64 (iShl .i64 (IntKind.i64.wrap (m : Int)) 8) (c.toNat : Int) = IntKind.i64.wrap ((m * 256 + c.toNat : Nat) : Int) := by
  have hc := c.toNat_lt
  have e1 : iShl .i64 (IntKind.i64.wrap (m : Int)) 8 = IntKind.i64.wrap ((m * 256 : Nat) : Int) := by
    show IntKind.i64.wrap (IntKind.i64.wrap (m : Int) * 256) = _
    apply i64_congr
    have := i64_mod m
    omega
  rw [e1]
  show IntKind.i64.wrap ((BitVec.ofInt 64 (IntKind.i64.wrap ((m * 256 : Nat) : Int)) ||| BitVec.ofInt 64 (c.toNat : Int)).toNat : Int) = _
  rw [ofInt_congr (i64_mod _), ofInt_nat, ofInt_nat, or_byte _ _ hc]
  apply i64_congr
  simp only [BitVec.toNat_ofNat, Nat.reducePow]
  omega

/-! ### Numbers that are read -/
def getF (b : List UInt8) (i n : Int) : Int × Int × Int :=
  if i < 0 ∨ (b.length : Int) < i ∨ ¬ (n = 1 ∨ n = 2 ∨ n = 4 ∨ n = 8) then (0, 0, 1)
  else if (b.length : Int) - i < n then (0, 0, 111)
  else if 9223372036854775808 ≤ beN ((b.take (i + n).toNat).drop i.toNat) then (0, 0, 112)
  else ((beN ((b.take (i + n).toNat).drop i.toNat) : Int), i + n, 0)
theorem getF_arg {b : List UInt8} {i n : Int} (h : i < 0 ∨ (b.length : Int) < i ∨ ¬ (n = 1 ∨ n = 2 ∨ n = 4 ∨ n = 8)) : getF b i n = (0, 0, 1) := if_pos h
theorem getF_end {b : List UInt8} {i n : Int} (h : 0 ≤ i) (h1 : i ≤ b.length) (h2 : n = 1 ∨ n = 2 ∨ n = 4 ∨ n = 8) (h3 : (b.length : Int) - i < n) : getF b i n = (0, 0, 111) := by
  unfold getF; rw [if_neg (by omega), if_pos h3]
theorem beN_small {l : List UInt8} {n : Nat} (h : l.length ≤ n) (h8 : n ≤ 8) : beN l < 18446744073709551616 := by
  refine Nat.lt_of_lt_of_le (beN_lt l) ?_
  exact Nat.le_trans (Nat.pow_le_pow_right (by omega) (Nat.le_trans h h8)) (by decide)
theorem cut_len {b : List UInt8} {i n : Int} (h : 0 ≤ i) (hn : 0 ≤ n) (h3 : n ≤ (b.length : Int) - i) : ((b.take (i + n).toNat).drop i.toNat).length = n.toNat := by
  simp; omega
theorem getF_long {b : List UInt8} {i n : Int} (h : 0 ≤ i) (h1 : i ≤ b.length) (h2 : n = 1 ∨ n = 2 ∨ n = 4 ∨ n = 8) (h3 : n ≤ (b.length : Int) - i) (h4 : IntKind.i64.wrap (beN ((b.take (i + n).toNat).drop i.toNat) : Int) < 0) : getF b i n = (0, 0, 112) := by
  have hs := @beN_small ((b.take (i + n).toNat).drop i.toNat) 8 (by rw [cut_len h (by omega) h3]; omega) (by omega)
  rw [i64_eq] at h4
  unfold getF; rw [if_neg (by omega), if_neg (by omega), if_pos]
  split at h4 <;> omega
theorem getF_ok {b : List UInt8} {i n : Int} (h : 0 ≤ i) (h1 : i ≤ b.length) (h2 : n = 1 ∨ n = 2 ∨ n = 4 ∨ n = 8) (h3 : n ≤ (b.length : Int) - i) (h4 : ¬ IntKind.i64.wrap (beN ((b.take (i + n).toNat).drop i.toNat) : Int) < 0) :
    getF b i n = (IntKind.i64.wrap (beN ((b.take (i + n).toNat).drop i.toNat) : Int), i + n, 0) := by
  have hs := @beN_small ((b.take (i + n).toNat).drop i.toNat) 8 (by rw [cut_len h (by omega) h3]; omega) (by omega)
  have e : IntKind.i64.wrap (beN ((b.take (i + n).toNat).drop i.toNat) : Int) = (beN ((b.take (i + n).toNat).drop i.toNat) : Int) := by
    rw [i64_eq] at h4 ⊢
    split at h4 <;> rename_i h5
    · omega
    · rw [if_neg h5]; omega
  unfold getF; rw [if_neg (by omega), if_neg (by omega), if_neg, e]
  rw [i64_eq] at h4
  split at h4 <;> omega

/-! ### Numbers that are written -/
def numB (n : Int) (k : Nat) : List UInt8 := (List.range k).map fun j => UInt8.ofInt (n / 256 ^ (k - 1 - j))
def numF (n size : Int) : List UInt8 :=
  if ¬ (size = 1 ∨ size = 2 ∨ size = 4 ∨ size = 8) ∨ n < 0 ∨ (size < 8 ∧ (256 : Int) ^ size.toNat ≤ n) then [] else numB n size.toNat
theorem numB_len (n : Int) (k : Nat) : (numB n k).length = k := by simp [numB]
theorem numF_len (n k : Int) : (numF n k).length ≤ 8 := by
  unfold numF; split
  · simp
  · rw [numB_len]; omega
theorem numB_get {n : Int} {k j : Nat} (h : j < k) : (numB n k)[j]? = some (UInt8.ofInt (n / 256 ^ (k - 1 - j))) := by simp [numB, h]
theorem shr_byte (n : Int) (j : Nat) (h : j ≤ 8) : iShr .i64 n (8 * j) = n / 256 ^ j := by
  simp only [iShr, IntKind.bits]
  rw [Nat.min_eq_left (by omega)]
  congr 1
  rw [Int.pow_mul]; rfl
theorem shl_one {k : Int} (hk : k = 1 ∨ k = 2 ∨ k = 4) : iShl .i64 1 (8 * k).toNat = (256 : Int) ^ k.toNat := by
  rcases hk with rfl | rfl | rfl <;> decide
theorem numB_step {n : Int} {k s : Nat} (h : s < k) (h8 : k ≤ 8) : (List.replicate (k - s) 0 ++ (numB n k).drop (k - s)).set (k - 1 - s) (UInt8.ofInt (iShr .i64 n (8 * s))) = List.replicate (k - (s + 1)) 0 ++ (numB n k).drop (k - (s + 1)) := by
  rw [shr_byte n s (by omega)]
  apply List.ext_getElem?
  intro j
  have hl := numB_len n k
  rcases Nat.lt_trichotomy j (k - 1 - s) with h1 | h1 | h1
  · rw [List.getElem?_set_ne (by omega), List.getElem?_append_left (by simp; omega), List.getElem?_append_left (by simp; omega)]
    simp [show j < k - s by omega, show j < k - (s + 1) by omega]
  · subst h1
    rw [List.getElem?_set_self (by simp [hl]; omega), List.getElem?_append_right (by simp; omega), List.getElem?_drop, numB_get (by simp; omega)]
    congr 4
    simp; omega
  · rw [List.getElem?_set_ne (by omega), List.getElem?_append_right (by simp; omega), List.getElem?_append_right (by simp; omega), List.getElem?_drop, List.getElem?_drop]
    congr 1
    simp; omega
theorem numF_bad {n k : Int} (h : ¬ (k = 1 ∨ k = 2 ∨ k = 4 ∨ k = 8) ∨ n < 0) : numF n k = [] := by
  unfold numF; rw [if_pos]; omega
theorem numF_big {n k : Int} (h : k = 1 ∨ k = 2 ∨ k = 4) (h2 : iShl .i64 1 (8 * k).toNat ≤ n) : numF n k = [] := by
  rw [shl_one h] at h2
  unfold numF; rw [if_pos]; exact .inr (.inr ⟨by omega, h2⟩)
theorem numF_ok {n k : Int} (h : k = 1 ∨ k = 2 ∨ k = 4 ∨ k = 8) (h1 : 0 ≤ n) (h2 : ¬ (k < 8 ∧ iShl .i64 1 (8 * k).toNat ≤ n)) : numF n k = numB n k.toNat := by
  unfold numF; rw [if_neg]
  rintro (h3 | h3 | ⟨h3, h4⟩)
  · exact h3 h
  · omega
  · refine h2 ⟨h3, ?_⟩
    rw [shl_one (by omega)]; exact h4
theorem num_step {n k : Int} {s : Nat} (h : s < k.toNat) (h8 : k ≤ 8) : (List.replicate (k.toNat - s) 0 ++ (numB n k.toNat).drop (k.toNat - s)).set (k - 1 - (s : Int)).toNat (UInt8.ofInt (iShr .i64 n (8 * (s : Int)).toNat)) = List.replicate (k.toNat - (s + 1)) 0 ++ (numB n k.toNat).drop (k.toNat - (s + 1)) := by
  rw [show (k - 1 - (s : Int)).toNat = k.toNat - 1 - s from by omega, show (8 * (s : Int)).toNat = 8 * s from by omega]
  exact numB_step h (by omega)
theorem num_fin {n k : Int} {s : Nat} (h : s = k.toNat) : List.replicate (k.toNat - s) (0 : UInt8) ++ (numB n k.toNat).drop (k.toNat - s) = numB n k.toNat := by
  subst h; simp
end Go.Vw

/- The plain law of layer 11, continued: lengths, texts, lists. -/
set_option linter.unusedVariables false
namespace Go.Vw
open Go Go.Vc

/-! ### Lengths -/
def tblI (k : Int) : Int := ([6, 14, 30] : List Int).getD k.toNat 0
theorem shl_tbl {k : Int} (h0 : 0 ≤ k) (h : k < 3) : 64 ≤ iShl .i64 1 (([6, 14, 30] : List Int).getD k.toNat 0).toNat ∧ iShl .i64 1 (([6, 14, 30] : List Int).getD k.toNat 0).toNat ≤ 1073741824 := by
  obtain rfl | rfl | rfl : k = 0 ∨ k = 1 ∨ k = 2 := by omega
  all_goals decide
theorem tbl_nn (k : Int) : 0 ≤ ([6, 14, 30] : List Int).getD k.toNat 0 := by
  match k.toNat with
  | 0 => decide
  | 1 => decide
  | 2 => decide
  | n + 3 => simp
theorem shl_cls {k : Int} (h0 : 0 ≤ k) (h : k < 3) : iShl .i64 1 k.toNat = 1 ∨ iShl .i64 1 k.toNat = 2 ∨ iShl .i64 1 k.toNat = 4 := by
  obtain rfl | rfl | rfl : k = 0 ∨ k = 1 ∨ k = 2 := by omega
  all_goals decide
theorem shr6 (c : UInt8) : ((u8Shr c 6).toNat : Int) = (c.toNat : Int) / 64 := by
  have := c.toNat_lt
  simp only [u8Shr, UInt8.toNat_ofNat']
  omega
theorem shr6_le (c : UInt8) : (u8Shr c 6).toNat ≤ 3 := by
  have := c.toNat_lt
  have := shr6 c
  omega
theorem iAnd_bound (a : Int) {m : Int} (h0 : 0 ≤ m) (h1 : m ≤ 9223372036854775807) : 0 ≤ iAnd .i64 a m ∧ iAnd .i64 a m ≤ m := by
  have hle : (BitVec.ofInt 64 a &&& BitVec.ofInt 64 m).toNat ≤ m.toNat := by
    rw [BitVec.toNat_and]
    refine Nat.le_trans Nat.and_le_right ?_
    simp only [BitVec.toNat_ofInt]
    have e : ((2 ^ 64 : Nat) : Int) = 18446744073709551616 := by decide
    rw [e, Int.emod_eq_of_lt h0 (by omega)]
    omega
  have e : iAnd .i64 a m = ((BitVec.ofInt 64 a &&& BitVec.ofInt 64 m).toNat : Int) := by
    show IntKind.i64.wrap ((BitVec.ofInt 64 a &&& BitVec.ofInt 64 m).toNat : Int) = _
    exact wrap_i64 (by omega) (by omega)
  rw [e]; omega

def lenF (n : Int) : List UInt8 :=
  if n < 64 then [UInt8.ofInt n] else if n < 16384 then [UInt8.ofInt (n / 256 + 64), UInt8.ofInt n]
  else [UInt8.ofInt (n / 16777216 + 128), UInt8.ofInt (n / 65536), UInt8.ofInt (n / 256), UInt8.ofInt n]
theorem lenF_len (n : Int) : (lenF n).length = if n < 64 then 1 else if n < 16384 then 2 else 4 := by
  unfold lenF; split
  · rfl
  · split <;> rfl
theorem lenF_le (n : Int) : (lenF n).length ≤ 4 := by rw [lenF_len]; split <;> (try split) <;> omega
theorem u8_congr {a b : Int} (h : a % 256 = b % 256) : UInt8.ofInt a = UInt8.ofInt b := by
  apply UInt8.toNat_inj.1
  have e : ∀ n : Int, ((UInt8.ofInt n).toNat : Int) = n % 256 := by
    intro n
    simp only [UInt8.ofInt, UInt8.toNat_ofNat']
    omega
  have h1 := e a
  have h2 := e b
  omega
theorem u8_toNat (n : Int) : ((UInt8.ofInt n).toNat : Int) = n % 256 := by
  simp only [UInt8.ofInt, UInt8.toNat_ofNat']
  omega
theorem u8_add (a : Int) (c : Nat) : UInt8.ofInt a + UInt8.ofNat c = UInt8.ofInt (a + c) := by
  apply UInt8.toNat_inj.1
  rw [UInt8.toNat_add]
  have h1 := u8_toNat a
  have h2 := u8_toNat (a + c)
  simp only [UInt8.toNat_ofNat']
  omega
theorem iOr_add {a b : Int} {i : Nat} (h0 : 0 ≤ a) (h1 : a < 2 ^ i) (hb : 0 ≤ b) (h2 : a + b * 2 ^ i ≤ 9223372036854775807) : iOr .i64 a (b * 2 ^ i) = a + b * 2 ^ i := by
  obtain ⟨m, rfl⟩ := Int.eq_ofNat_of_zero_le h0
  obtain ⟨q, rfl⟩ := Int.eq_ofNat_of_zero_le hb
  have e0 : (q : Int) * 2 ^ i = ((q * 2 ^ i : Nat) : Int) := by push_cast; rfl
  rw [e0] at h2 ⊢
  have hm : m < 2 ^ i := by
    have : ((2 : Int) ^ i) = ((2 ^ i : Nat) : Int) := by push_cast; rfl
    rw [this] at h1; omega
  have e1 : (BitVec.ofInt 64 (m : Int) ||| BitVec.ofInt 64 ((q * 2 ^ i : Nat) : Int)).toNat = m + q * 2 ^ i := by
    rw [ofInt_nat, ofInt_nat, BitVec.toNat_or]
    simp only [BitVec.toNat_ofNat, Nat.reducePow]
    rw [Nat.mod_eq_of_lt (by omega), Nat.mod_eq_of_lt (by omega), Nat.or_comm, ← Nat.shiftLeft_eq, ← Nat.shiftLeft_add_eq_or_of_lt hm]
    omega
  show IntKind.i64.wrap ((BitVec.ofInt 64 (m : Int) ||| BitVec.ofInt 64 ((q * 2 ^ i : Nat) : Int)).toNat : Int) = _
  rw [e1, wrap_i64 (by omega) (by omega)]
  push_cast; rfl

theorem numB1 (n : Int) : numB n 1 = [UInt8.ofInt n] := by simp [numB, List.range_succ]
theorem numB2 (n : Int) : numB n 2 = [UInt8.ofInt (n / 256), UInt8.ofInt n] := by simp [numB, List.range_succ]
theorem numB4 (n : Int) : numB n 4 = [UInt8.ofInt (n / 16777216), UInt8.ofInt (n / 65536), UInt8.ofInt (n / 256), UInt8.ofInt n] := by simp [numB, List.range_succ]
theorem lenP {n s : Int} (h0 : 0 ≤ n) (hn : n < 1073741824) (hs : 0 ≤ s) (hs2 : s ≤ 2) (h1 : 0 < s → 64 ≤ n) (h2 : 1 < s → 16384 ≤ n) (h3 : n < iShl .i64 1 (([6, 14, 30] : List Int).getD s.toNat 0).toNat) :
    numF (iOr .i64 n (iShl .i64 s (([6, 14, 30] : List Int).getD s.toNat 0).toNat)) (iShl .i64 1 s.toNat) = lenF n := by
  obtain rfl | rfl | rfl : s = 0 ∨ s = 1 ∨ s = 2 := by omega
  · have e : iShl .i64 1 (([6, 14, 30] : List Int).getD (0 : Int).toNat 0).toNat = 64 := by decide
    rw [e] at h3
    have e2 : iShl .i64 0 (([6, 14, 30] : List Int).getD (0 : Int).toNat 0).toNat = 0 * 2 ^ 6 := by decide
    have e3 : iShl .i64 1 (0 : Int).toNat = 1 := by decide
    have e4 : iShl .i64 1 (8 * (1 : Int)).toNat = 256 := by decide
    rw [e2, e3, iOr_add h0 (by omega) (by omega) (by omega), numF_ok (by omega) (by omega) (by rw [e4]; omega)]
    unfold lenF
    rw [if_pos h3, show (1 : Int).toNat = 1 from rfl, numB1]
    simp
  · have e : iShl .i64 1 (([6, 14, 30] : List Int).getD (1 : Int).toNat 0).toNat = 16384 := by decide
    rw [e] at h3
    have e2 : iShl .i64 1 (([6, 14, 30] : List Int).getD (1 : Int).toNat 0).toNat = 1 * 2 ^ 14 := by decide
    have e3 : iShl .i64 1 (1 : Int).toNat = 2 := by decide
    have e4 : iShl .i64 1 (8 * (2 : Int)).toNat = 65536 := by decide
    have h4 := h1 (by omega)
    rw [e2, e3, iOr_add h0 (by omega) (by omega) (by omega), numF_ok (by omega) (by omega) (by rw [e4]; omega)]
    unfold lenF
    rw [if_neg (by omega), if_pos h3, show (2 : Int).toNat = 2 from rfl, numB2]
    rw [u8_congr (a := (n + 1 * 2 ^ 14) / 256) (b := n / 256 + 64) (by omega), u8_congr (a := n + 1 * 2 ^ 14) (b := n) (by omega)]
  · have e2 : iShl .i64 2 (([6, 14, 30] : List Int).getD (2 : Int).toNat 0).toNat = 2 * 2 ^ 30 := by decide
    have e3 : iShl .i64 1 (2 : Int).toNat = 4 := by decide
    have e4 : iShl .i64 1 (8 * (4 : Int)).toNat = 4294967296 := by decide
    have h4 := h2 (by omega)
    rw [e2, e3, iOr_add h0 (by omega) (by omega) (by omega), numF_ok (by omega) (by omega) (by rw [e4]; omega)]
    unfold lenF
    rw [if_neg (by omega), if_neg (by omega), show (4 : Int).toNat = 4 from rfl, numB4]
    rw [u8_congr (a := (n + 2 * 2 ^ 30) / 16777216) (b := n / 16777216 + 128) (by omega), u8_congr (a := (n + 2 * 2 ^ 30) / 65536) (b := n / 65536) (by omega), u8_congr (a := (n + 2 * 2 ^ 30) / 256) (b := n / 256) (by omega),
      u8_congr (a := n + 2 * 2 ^ 30) (b := n) (by omega)]

theorem shl_v (s : Int) : (s = 0 → iShl .i64 1 (([6, 14, 30] : List Int).getD s.toNat 0).toNat = 64) ∧ (s = 1 → iShl .i64 1 (([6, 14, 30] : List Int).getD s.toNat 0).toNat = 16384) ∧ (s = 2 → iShl .i64 1 (([6, 14, 30] : List Int).getD s.toNat 0).toNat = 1073741824) := by
  refine ⟨?_, ?_, ?_⟩ <;> rintro rfl <;> decide

/-! ### What stands at a place -/
def spanN (b : List UInt8) (k n from' e : Int) : Int × Int × Int :=
  if e ≠ 0 then (0, 0, e) else if 0 < k ∧ n < iShl .i64 1 (([6, 14, 30] : List Int).getD (k - 1).toNat 0).toNat then (0, 0, 112) else if 1048576 < n then (0, 0, 2)
  else if (b.length : Int) - from' < n then (0, 0, 111) else (from', from' + n, 0)
def spanK (b : List UInt8) (i k : Int) : Int × Int × Int :=
  if k = 3 then (0, 0, 112) else
  spanN b k (iAnd .i64 (getF b i (iShl .i64 1 k.toNat)).1 (iShl .i64 1 (([6, 14, 30] : List Int).getD k.toNat 0).toNat - 1)) (getF b i (iShl .i64 1 k.toNat)).2.1 (getF b i (iShl .i64 1 k.toNat)).2.2
def spanF (b : List UInt8) (i : Int) : Int × Int × Int :=
  if i < 0 ∨ (b.length : Int) < i then (0, 0, 1) else if i = b.length then (0, 0, 111) else spanK b i ((u8Shr (b.getD i.toNat 0) 6).toNat : Int)
theorem getF_from (b : List UInt8) (i n : Int) : 0 ≤ (getF b i n).2.1 ∧ (getF b i n).2.1 ≤ b.length ∧ ((getF b i n).2.2 = 0 → (getF b i n).2.1 = i + n ∧ 0 ≤ i ∧ 1 ≤ n) := by
  unfold getF
  split
  · simp <;> omega
  · split
    · simp <;> omega
    · split
      · simp <;> omega
      · simp <;> omega
theorem spanF_ok (b : List UInt8) (i : Int) (h : (spanF b i).2.2 = 0) : 0 ≤ i ∧ i < (spanF b i).1 ∧ (spanF b i).1 ≤ (spanF b i).2.1 ∧ (spanF b i).2.1 ≤ b.length ∧ (spanF b i).2.1 - (spanF b i).1 ≤ 1048576 := by
  unfold spanF at h ⊢
  split at h
  · simp at h
  rename_i h1
  rw [if_neg h1]
  split at h
  · simp at h
  rename_i h2
  rw [if_neg h2]
  unfold spanK at h ⊢
  split at h
  · simp at h
  rename_i h3
  rw [if_neg h3]
  have hk := shr6_le (b.getD i.toNat 0)
  have hk0 : (0 : Int) ≤ ((u8Shr (b.getD i.toNat 0) 6).toNat : Int) := by omega
  have hk3 : ((u8Shr (b.getD i.toNat 0) 6).toNat : Int) < 3 := by omega
  have h14 := shl_tbl hk0 hk3
  generalize ((u8Shr (b.getD i.toNat 0) 6).toNat : Int) = k at *
  have hg := getF_from b i (iShl .i64 1 k.toNat)
  have ha := iAnd_bound (getF b i (iShl .i64 1 k.toNat)).1 (m := iShl .i64 1 (([6, 14, 30] : List Int).getD k.toNat 0).toNat - 1) (by omega) (by omega)
  have hc := shl_cls hk0 hk3
  generalize iAnd .i64 (getF b i (iShl .i64 1 k.toNat)).1 (iShl .i64 1 (([6, 14, 30] : List Int).getD k.toNat 0).toNat - 1) = n at *
  unfold spanN at h ⊢
  split at h
  · rename_i h4; exact absurd h h4
  rename_i h4
  rw [if_neg h4]
  split at h
  · simp at h
  rename_i h5
  rw [if_neg h5]
  split at h
  · simp at h
  rename_i h6
  rw [if_neg h6]
  split at h
  · simp at h
  rename_i h7
  rw [if_neg h7]
  have h8 := hg.2.2 (by omega)
  show 0 ≤ i ∧ i < (getF b i (iShl .i64 1 k.toNat)).2.1 ∧ _ ≤ _ + n ∧ _ + n ≤ _ ∧ _ + n - _ ≤ _
  omega

/-! ### Texts -/
def textF (s : List UInt8) : List UInt8 := if 1048576 < s.length then [] else lenF s.length ++ s
def textE (s : List UInt8) : Int := if 1048576 < s.length then 2 else 0
def getTextF (b : List UInt8) (i : Int) : List UInt8 × Int × Int :=
  if (spanF b i).2.2 ≠ 0 then ([], 0, (spanF b i).2.2) else ((b.take (spanF b i).2.1.toNat).drop (spanF b i).1.toNat, (spanF b i).2.1, 0)
theorem getTextF_ok (b : List UInt8) (i : Int) (h : (getTextF b i).2.2 = 0) : 0 ≤ i ∧ i < (getTextF b i).2.1 ∧ (getTextF b i).2.1 ≤ b.length := by
  unfold getTextF at h ⊢
  split at h
  · rename_i h1; exact absurd h h1
  · rename_i h1
    have := spanF_ok b i (by omega)
    rw [if_neg h1]
    simp only
    omega
theorem getTextF_len (b : List UInt8) (i : Int) : (getTextF b i).1.length ≤ 1048576 := by
  unfold getTextF
  split
  · simp
  · rename_i h1
    have := spanF_ok b i (by omega)
    simp; omega
theorem textF_len (s : List UInt8) : (textF s).length ≤ 1048580 := by
  unfold textF; split
  · simp
  · have := lenF_le s.length
    simp; omega
end Go.Vw

/- The plain law of layer 11, continued: lists; what the reference computes. -/
set_option linter.unusedVariables false
namespace Go.Vw
open Go Go.Vc

/-! ### Lists -/
def catT (l : List (List UInt8)) : List UInt8 := l.flatMap textF
def okT (l : List (List UInt8)) : Prop := (∀ s, s ∈ l → s.length ≤ 1048576) ∧ (catT l).length ≤ 1048576
instance (l : List (List UInt8)) : Decidable (okT l) := inferInstanceAs (Decidable (_ ∧ _))
def listF (l : List (List UInt8)) : List UInt8 := if okT l then textF (catT l) else []
def listE (l : List (List UInt8)) : Int := if okT l then textE (catT l) else 2
theorem catT_take {l : List (List UInt8)} {s : Nat} (h : s < l.length) : catT (l.take (s + 1)) = catT (l.take s) ++ textF (l.getD s []) := by
  unfold catT
  rw [List.take_add_one, List.flatMap_append, List.getElem?_eq_getElem h, List.getD_eq_getElem?_getD, List.getElem?_eq_getElem h]
  simp
theorem catT_pre (l : List (List UInt8)) (s : Nat) : (catT (l.take s)).length ≤ (catT l).length := by
  have e : catT l = catT (l.take s) ++ catT (l.drop s) := by
    unfold catT; rw [← List.flatMap_append, List.take_append_drop]
  rw [e]; simp
theorem okT_take {l : List (List UInt8)} {s : Nat} (h : s < l.length) (h1 : okT (l.take s)) (h2 : (l.getD s []).length ≤ 1048576) (h3 : (catT (l.take s)).length + (textF (l.getD s [])).length ≤ 1048576) : okT (l.take (s + 1)) := by
  refine ⟨fun x hx => ?_, by rw [catT_take h]; simpa using h3⟩
  rw [List.take_add_one, List.getElem?_eq_getElem h] at hx
  rcases List.mem_append.1 hx with hx | hx
  · exact h1.1 x hx
  · rw [List.getD_eq_getElem?_getD, List.getElem?_eq_getElem h] at h2
    simp at hx; subst hx; simpa using h2
theorem okT_not1 {l : List (List UInt8)} {s : Nat} (h : s < l.length) (h1 : 1048576 < (l.getD s []).length) : ¬ okT l := by
  rintro ⟨h2, _⟩
  rw [List.getD_eq_getElem?_getD, List.getElem?_eq_getElem h] at h1
  have := h2 _ (List.getElem_mem h)
  simp at h1; omega
theorem okT_not2 {l : List (List UInt8)} {s : Nat} (h : s < l.length) (h1 : 1048576 < (catT (l.take s)).length + (textF (l.getD s [])).length) : ¬ okT l := by
  rintro ⟨_, h2⟩
  have := catT_pre l (s + 1)
  rw [catT_take h, List.length_append] at this
  omega
theorem textE_ne {s : List UInt8} (h : ¬ textE s = 0) : 1048576 < s.length := by
  unfold textE at h; split at h
  · assumption
  · simp at h
theorem textE_eq {s : List UInt8} (h : textE s = 0) : s.length ≤ 1048576 := by
  unfold textE at h; split at h
  · simp at h
  · omega
theorem textE_two {s : List UInt8} (h : ¬ textE s = 0) : textE s = 2 := by
  unfold textE at h ⊢; split
  · rfl
  · rename_i h1; rw [if_neg h1] at h; simp at h
theorem listF_no {l : List (List UInt8)} (h : ¬ okT l) : listF l = [] := if_neg h
theorem listE_no {l : List (List UInt8)} (h : ¬ okT l) : listE l = 2 := if_neg h
theorem listF_yes {l : List (List UInt8)} {s : Nat} (h : okT (l.take s)) (hs : l.length ≤ s) : textF (catT (l.take s)) = listF l := by
  rw [List.take_of_length_le hs] at h ⊢; exact (if_pos h).symm
theorem listE_yes {l : List (List UInt8)} {s : Nat} (h : okT (l.take s)) (hs : l.length ≤ s) : textE (catT (l.take s)) = listE l := by
  rw [List.take_of_length_le hs] at h ⊢; exact (if_pos h).symm
theorem okT_nil : okT [] := ⟨fun s h => by simp at h, by simp [catT]⟩
theorem take_full (l m : List UInt8) (n k : Nat) (hn : l.length ≤ n) (hk : m.length ≤ k) : (l.drop 0).take n ++ (m.drop 0).take k = l ++ m := by
  simp [List.take_of_length_le hn, List.take_of_length_le hk]

/-- The texts from a place on. -/
def parseF (b : List UInt8) : Nat → Int → List (List UInt8) → List (List UInt8) × Int
  | 0, _, out => (out, 0)
  | f + 1, i, out => if i < b.length then (if (getTextF b i).2.2 ≠ 0 then ([], (getTextF b i).2.2) else parseF b f (getTextF b i).2.1 (out ++ [(getTextF b i).1])) else (out, 0)
theorem parseF_fuel (b : List UInt8) : ∀ (f g : Nat) (i : Int) (out : List (List UInt8)), 0 ≤ i → b.length < f + i → b.length < g + i → parseF b f i out = parseF b g i out
  | 0, 0, i, out, _, _, _ => rfl
  | 0, g + 1, i, out, h0, h, h1 => by simp only [parseF]; rw [if_neg (by omega)]
  | f + 1, 0, i, out, h0, h, h1 => by simp only [parseF]; rw [if_neg (by omega)]
  | f + 1, g + 1, i, out, h0, h, h1 => by
    simp only [parseF]
    by_cases hi : i < b.length
    · rw [if_pos hi, if_pos hi]
      by_cases he : (getTextF b i).2.2 ≠ 0
      · rw [if_pos he, if_pos he]
      · rw [if_neg he, if_neg he]
        have := getTextF_ok b i (by omega)
        exact parseF_fuel b f g _ _ (by omega) (by omega) (by omega)
    · rw [if_neg hi, if_neg hi]
def parse (b : List UInt8) (i : Int) (out : List (List UInt8)) : List (List UInt8) × Int := parseF b (b.length + 1 - i.toNat) i out
theorem parse_err {b : List UInt8} {i : Int} {out : List (List UInt8)} (h0 : 0 ≤ i) (h : i < b.length) (he : ¬ (getTextF b i).2.2 = 0) : parse b i out = ([], (getTextF b i).2.2) := by
  unfold parse
  rw [show b.length + 1 - i.toNat = (b.length - i.toNat) + 1 from by omega]
  simp only [parseF]; rw [if_pos h, if_pos he]
theorem parse_step {b : List UInt8} {i : Int} {out : List (List UInt8)} (h0 : 0 ≤ i) (h : i < b.length) (he : (getTextF b i).2.2 = 0) : parse b i out = parse b (getTextF b i).2.1 (out ++ [(getTextF b i).1]) := by
  have := getTextF_ok b i he
  unfold parse
  rw [show b.length + 1 - i.toNat = (b.length - i.toNat) + 1 from by omega]
  simp only [parseF]; rw [if_pos h, if_neg (by omega)]
  exact parseF_fuel b _ _ _ _ (by omega) (by omega) (by omega)
theorem parse_end {b : List UInt8} {i : Int} {out : List (List UInt8)} (h0 : 0 ≤ i) (h : ¬ i < b.length) (h1 : i ≤ b.length) : parse b i out = (out, 0) := by
  unfold parse
  rw [show b.length + 1 - i.toNat = 0 + 1 from by omega]
  simp only [parseF]; rw [if_neg h]
abbrev allOf (b : List UInt8) (i : Int) : List UInt8 := (b.take (spanF b i).2.1.toNat).drop (spanF b i).1.toNat
def getListF (b : List UInt8) (i : Int) : List (List UInt8) × Int × Int :=
  if (spanF b i).2.2 ≠ 0 then ([], 0, (spanF b i).2.2)
  else if (parse (allOf b i) 0 []).2 ≠ 0 then ([], 0, (parse (allOf b i) 0 []).2) else ((parse (allOf b i) 0 []).1, (spanF b i).2.1, 0)
/-- Where the reading stands: what is out, and the place. -/
def PL (b : List UInt8) (s : List (List UInt8) × Int) : Prop := 0 ≤ s.2 ∧ s.2 ≤ b.length ∧ s.1.length ≤ s.2 ∧ parse b s.2 s.1 = parse b 0 []
theorem PL_step {b : List UInt8} {s : List (List UInt8) × Int} (h : PL b s) (hi : s.2 < b.length) (he : (getTextF b s.2).2.2 = 0) : PL b (s.1 ++ [(getTextF b s.2).1], (getTextF b s.2).2.1) := by
  obtain ⟨h1, h2, h3, h4⟩ := h
  have := getTextF_ok b s.2 he
  refine ⟨by simp only; omega, by simp only; omega, by simp; omega, ?_⟩
  rw [← h4, parse_step h1 hi he]
theorem gl_e0 {b : List UInt8} {i : Int} (h : ¬ (spanF b i).2.2 = 0) : getListF b i = ([], 0, (spanF b i).2.2) := if_pos h
theorem gl_e1 {b : List UInt8} {i : Int} {s : List (List UInt8) × Int} (h : (spanF b i).2.2 = 0) (hp : PL (allOf b i) s) (hi : s.2 < (allOf b i).length) (he : ¬ (getTextF (allOf b i) s.2).2.2 = 0) : getListF b i = ([], 0, (getTextF (allOf b i) s.2).2.2) := by
  unfold getListF
  rw [if_neg (by omega), ← hp.2.2.2, parse_err hp.1 hi he, if_pos he]
theorem gl_fin {b : List UInt8} {i : Int} {s : List (List UInt8) × Int} (h : (spanF b i).2.2 = 0) (hp : PL (allOf b i) s) (hi : ¬ s.2 < (allOf b i).length) : getListF b i = (s.1, (spanF b i).2.1, 0) := by
  unfold getListF
  rw [if_neg (by omega), ← hp.2.2.2, parse_end hp.1 hi hp.2.1, if_neg (by simp)]
theorem PL_0 (b : List UInt8) : PL b ([], 0) := ⟨by simp, by simp, by simp, rfl⟩

/-! ### The reference's numbers -/
set_option maxRecDepth 100000 in
theorem u64_step (m : Nat) (c : UInt8) : u64Shl (UInt64.ofNat m) 8 ||| c.toUInt64 = UInt64.ofNat (m * 256 + c.toNat) := by
  apply UInt64.toNat_inj.1
  have hc := c.toNat_lt
  have h := congrArg BitVec.toNat (or_byte m c.toNat hc)
  simp only [BitVec.toNat_or, BitVec.toNat_ofNat, Nat.reducePow] at h
  simp only [UInt64.toNat_or, u64Shl, UInt64.toNat_ofNat', UInt8.toNat_toUInt64, Nat.reducePow] at h ⊢
  rw [← h]
  congr 1
  · omega
  · omega
theorem cut_get {b : List UInt8} {i n : Int} {s : Nat} (h0 : 0 ≤ i) (hs : (s : Int) < n) (h : n ≤ (b.length : Int) - i) : b.getD (i + (s : Int)).toNat 0 = ((b.take (i + n).toNat).drop i.toNat).getD s 0 := by
  simp only [List.getD_eq_getElem?_getD, List.getElem?_drop]
  rw [List.getElem?_take_of_lt (by omega), show (i + (s : Int)).toNat = i.toNat + s from by omega]
theorem getF_longU {b : List UInt8} {i n : Int} (h : 0 ≤ i) (h1 : i ≤ b.length) (h2 : n = 1 ∨ n = 2 ∨ n = 4 ∨ n = 8) (h3 : n ≤ (b.length : Int) - i) (h4 : 9223372036854775807 < (UInt64.ofNat (beN ((b.take (i + n).toNat).drop i.toNat))).toNat) : getF b i n = (0, 0, 112) := by
  have hs := @beN_small ((b.take (i + n).toNat).drop i.toNat) 8 (by rw [cut_len h (by omega) h3]; omega) (by omega)
  rw [UInt64.toNat_ofNat', Nat.mod_eq_of_lt (by simpa using hs)] at h4
  unfold getF; rw [if_neg (by omega), if_neg (by omega), if_pos (by omega)]
theorem getF_okU {b : List UInt8} {i n : Int} (h : 0 ≤ i) (h1 : i ≤ b.length) (h2 : n = 1 ∨ n = 2 ∨ n = 4 ∨ n = 8) (h3 : n ≤ (b.length : Int) - i) (h4 : ¬ 9223372036854775807 < (UInt64.ofNat (beN ((b.take (i + n).toNat).drop i.toNat))).toNat) :
    getF b i n = (IntKind.i64.wrap ((UInt64.ofNat (beN ((b.take (i + n).toNat).drop i.toNat))).toNat : Int), i + n, 0) := by
  have hs := @beN_small ((b.take (i + n).toNat).drop i.toNat) 8 (by rw [cut_len h (by omega) h3]; omega) (by omega)
  have e2 : (UInt64.ofNat (beN ((b.take (i + n).toNat).drop i.toNat))).toNat = beN ((b.take (i + n).toNat).drop i.toNat) := by rw [UInt64.toNat_ofNat', Nat.mod_eq_of_lt (by simpa using hs)]
  rw [e2] at h4
  rw [e2, wrap_i64 (by omega) (by omega)]
  unfold getF; rw [if_neg (by omega), if_neg (by omega), if_neg (by omega)]
theorem shr_zero {n k : Int} (hk : k = 1 ∨ k = 2 ∨ k = 4) (hn : 0 ≤ n) : iShr .i64 n (8 * k).toNat = 0 ↔ ¬ iShl .i64 1 (8 * k).toNat ≤ n := by
  rw [shl_one hk]
  rcases hk with rfl | rfl | rfl
  · show n / 2 ^ (min 8 64) = 0 ↔ ¬ (256 : Int) ^ 1 ≤ n
    simp only [show min 8 64 = 8 from rfl, show ((2 : Int) ^ 8) = 256 from rfl, show ((256 : Int) ^ 1) = 256 from rfl]; omega
  · show n / 2 ^ (min 16 64) = 0 ↔ ¬ (256 : Int) ^ 2 ≤ n
    simp only [show min 16 64 = 16 from rfl, show ((2 : Int) ^ 16) = 65536 from rfl, show ((256 : Int) ^ 2) = 65536 from rfl]; omega
  · show n / 2 ^ (min 32 64) = 0 ↔ ¬ (256 : Int) ^ 4 ≤ n
    simp only [show min 32 64 = 32 from rfl, show ((2 : Int) ^ 32) = 4294967296 from rfl, show ((256 : Int) ^ 4) = 4294967296 from rfl]; omega
theorem numB_take {n : Int} {k s : Nat} (h : s < k) (h8 : k ≤ 8) : (numB n k).take s ++ [UInt8.ofInt (iShr .i64 n (8 * (k - 1 - s)))] = (numB n k).take (s + 1) := by
  rw [shr_byte n _ (by omega), List.take_add_one, numB_get h]; rfl
end Go.Vw

/- The plain law of layer 11, continued: the reference's lengths. -/
set_option linter.unusedVariables false
namespace Go.Vw
open Go Go.Vc

theorem iAnd_mask {a : Int} {m : Nat} (h0 : 0 ≤ a) (h1 : a ≤ 9223372036854775807) (hm : m ≤ 62) : iAnd .i64 a ((2 : Int) ^ m - 1) = a % 2 ^ m := by
  obtain ⟨q, rfl⟩ := Int.eq_ofNat_of_zero_le h0
  have hp : 0 < 2 ^ m := Nat.two_pow_pos m
  have e1 : (2 : Int) ^ m - 1 = ((2 ^ m - 1 : Nat) : Int) := by
    have : ((2 : Int) ^ m) = ((2 ^ m : Nat) : Int) := by push_cast; rfl
    omega
  have hb : 2 ^ m ≤ 2 ^ 62 := Nat.pow_le_pow_right (by omega) hm
  have e2 : (BitVec.ofInt 64 (q : Int) &&& BitVec.ofInt 64 ((2 ^ m - 1 : Nat) : Int)).toNat = q % 2 ^ m := by
    rw [ofInt_nat, ofInt_nat, BitVec.toNat_and]
    simp only [BitVec.toNat_ofNat]
    rw [Nat.mod_eq_of_lt (show q < 2 ^ 64 by omega), Nat.mod_eq_of_lt (show 2 ^ m - 1 < 2 ^ 64 by omega), Nat.and_two_pow_sub_one_eq_mod]
  rw [e1]
  show IntKind.i64.wrap ((BitVec.ofInt 64 (q : Int) &&& BitVec.ofInt 64 ((2 ^ m - 1 : Nat) : Int)).toNat : Int) = _
  rw [e2]
  have := Nat.mod_lt q hp
  rw [wrap_i64 (by omega) (by omega)]
  push_cast; rfl

def hdF (b : List UInt8) (i : Int) : Int × Int × Int := ((spanF b i).2.1 - (spanF b i).1, (spanF b i).1, (spanF b i).2.2)
def szOf (c : UInt8) : Int := if 128 ≤ c.toNat then 4 else if 64 ≤ c.toNat then 2 else 1
/-- The number that stands there, of s bytes. -/
def lenN (b : List UInt8) (i : Int) (s : Nat) : Nat := (b.getD i.toNat 0).toNat % 64 * 256 ^ (s - 1) + beN ((b.drop (i.toNat + 1)).take (s - 1))
theorem lenN_step {b : List UInt8} {i : Int} {s : Nat} (h0 : 0 ≤ i) (h1 : 1 ≤ s) (h : i + s < b.length) : lenN b i (s + 1) = lenN b i s * 256 + (b.getD (i + (s : Int)).toNat 0).toNat := by
  unfold lenN
  obtain ⟨r, rfl⟩ : ∃ r, s = r + 1 := ⟨s - 1, by omega⟩
  simp only [Nat.add_sub_cancel]
  rw [beN_take (by simp; omega), Nat.pow_succ]
  have e : (b.drop (i.toNat + 1)).getD r 0 = b.getD (i + ((r + 1 : Nat) : Int)).toNat 0 := by
    simp only [List.getD_eq_getElem?_getD, List.getElem?_drop]
    rw [show (i + ((r + 1 : Nat) : Int)).toNat = i.toNat + 1 + r from by omega]
  rw [e]
  generalize (b.getD i.toNat 0).toNat % 64 = x
  generalize 256 ^ r = y
  rw [← Nat.mul_assoc]
  omega
theorem lenN_one (b : List UInt8) (i : Int) : lenN b i 1 = (b.getD i.toNat 0).toNat % 64 := by simp [lenN, beN]
theorem lenN_lt {b : List UInt8} {i : Int} {s : Nat} (h1 : 1 ≤ s) : lenN b i s < 64 * 256 ^ (s - 1) := by
  unfold lenN
  have h2 := beN_lt ((b.drop (i.toNat + 1)).take (s - 1))
  have h3 : 256 ^ ((b.drop (i.toNat + 1)).take (s - 1)).length ≤ 256 ^ (s - 1) := Nat.pow_le_pow_right (by omega) (by simp; omega)
  have h4 := Nat.mod_lt (b.getD i.toNat 0).toNat (show 0 < 64 by omega)
  have h5 : (b.getD i.toNat 0).toNat % 64 * 256 ^ (s - 1) ≤ 63 * 256 ^ (s - 1) := Nat.mul_le_mul_right _ (by omega)
  omega
theorem cut_be {b : List UInt8} {i : Int} {s : Nat} (h0 : 0 ≤ i) (h1 : 1 ≤ s) (h : i + s ≤ b.length) : beN ((b.take (i + (s : Int)).toNat).drop i.toNat) = (b.getD i.toNat 0).toNat * 256 ^ (s - 1) + beN ((b.drop (i.toNat + 1)).take (s - 1)) := by
  have hi : i.toNat < b.length := by omega
  have e : (b.take (i + (s : Int)).toNat).drop i.toNat = b.getD i.toNat 0 :: (b.drop (i.toNat + 1)).take (s - 1) := by
    rw [show (i + (s : Int)).toNat = i.toNat + s from by omega, List.drop_take, show i.toNat + s - i.toNat = (s - 1) + 1 from by omega, List.drop_eq_getElem_cons hi, List.take_succ_cons]
    simp [List.getD_eq_getElem?_getD, List.getElem?_eq_getElem hi]
  rw [e, beN_cons]
  congr 2
  congr 1
  simp; omega
theorem getF_small {b : List UInt8} {i n : Int} (h : 0 ≤ i) (h2 : n = 1 ∨ n = 2 ∨ n = 4) (h3 : i + n ≤ b.length) : getF b i n = ((beN ((b.take (i + n).toNat).drop i.toNat) : Int), i + n, 0) := by
  have hs : beN ((b.take (i + n).toNat).drop i.toNat) < 256 ^ 4 := by
    refine Nat.lt_of_lt_of_le (beN_lt _) (Nat.pow_le_pow_right (by omega) ?_)
    rw [cut_len h (by omega) (by omega)]; omega
  unfold getF; rw [if_neg (by omega), if_neg (by omega), if_neg (by omega)]
/-- What the program computes, where the bytes are there. -/
theorem span_val {b : List UInt8} {i : Int} {k : Nat} (h0 : 0 ≤ i) (hk : k < 3) (hc : (b.getD i.toNat 0).toNat / 64 = k) (h : i + ((2 ^ k : Nat) : Int) ≤ b.length) :
    spanF b i = spanN b (k : Int) (lenN b i (2 ^ k) : Int) (i + ((2 ^ k : Nat) : Int)) 0 := by
  have hcu := cut_be (b := b) (i := i) (s := 2 ^ k) h0 Nat.one_le_two_pow h
  have hs6 := shr6 (b.getD i.toNat 0)
  have hrest := beN_lt ((b.drop (i.toNat + 1)).take (2 ^ k - 1))
  have hrl : 256 ^ ((b.drop (i.toNat + 1)).take (2 ^ k - 1)).length ≤ 256 ^ (2 ^ k - 1) := Nat.pow_le_pow_right (by omega) (by simp; omega)
  have hc8 := (b.getD i.toNat 0).toNat_lt
  have hk1 := Nat.one_le_two_pow (n := k)
  unfold spanF
  rw [if_neg (by omega), if_neg (by omega), hs6, show ((b.getD i.toNat 0).toNat : Int) / 64 = (k : Int) from by omega]
  unfold spanK lenN
  rw [if_neg (by omega)]
  generalize beN ((b.drop (i.toNat + 1)).take (2 ^ k - 1)) = r at *
  generalize (b.getD i.toNat 0).toNat = c at *
  obtain rfl | rfl | rfl : k = 0 ∨ k = 1 ∨ k = 2 := by omega
  · have e1 : iShl .i64 1 ((0 : Nat) : Int).toNat = 1 := by decide
    have e2 : iShl .i64 1 (([6, 14, 30] : List Int).getD ((0 : Nat) : Int).toNat 0).toNat - 1 = (2 : Int) ^ 6 - 1 := by decide
    rw [e1, e2, getF_small h0 (by omega) (by simpa using h)]
    simp only [Nat.pow_zero, Nat.sub_self, Nat.mul_one, Int.natCast_one] at hcu hrest hrl ⊢
    rw [hcu, iAnd_mask (by omega) (by omega) (by omega)]
    congr 1; omega
  · have e1 : iShl .i64 1 ((1 : Nat) : Int).toNat = 2 := by decide
    have e2 : iShl .i64 1 (([6, 14, 30] : List Int).getD ((1 : Nat) : Int).toNat 0).toNat - 1 = (2 : Int) ^ 14 - 1 := by decide
    rw [e1, e2, getF_small h0 (by omega) (by simpa using h)]
    have e3 : ((2 ^ 1 : Nat) : Int) = 2 := rfl
    simp only [e3, Nat.pow_one, Nat.reduceSub, Nat.reducePow] at hcu hrest hrl ⊢
    rw [hcu, iAnd_mask (by omega) (by omega) (by omega)]
    congr 1; omega
  · have e1 : iShl .i64 1 ((2 : Nat) : Int).toNat = 4 := by decide
    have e2 : iShl .i64 1 (([6, 14, 30] : List Int).getD ((2 : Nat) : Int).toNat 0).toNat - 1 = (2 : Int) ^ 30 - 1 := by decide
    rw [e1, e2, getF_small h0 (by omega) (by simpa using h)]
    have e3 : ((2 ^ 2 : Nat) : Int) = 4 := rfl
    simp only [e3, Nat.reduceSub, Nat.reducePow] at hcu hrest hrl ⊢
    rw [hcu, iAnd_mask (by omega) (by omega) (by omega)]
    congr 1; omega

/-! ### The cases of the reference -/
theorem sz_k (c : UInt8) (h : c.toNat < 192) : ∃ k : Nat, k < 3 ∧ c.toNat / 64 = k ∧ szOf c = ((2 ^ k : Nat) : Int) := by
  unfold szOf
  refine ⟨c.toNat / 64, by omega, rfl, ?_⟩
  have h1 : c.toNat / 64 = 0 ∨ c.toNat / 64 = 1 ∨ c.toNat / 64 = 2 := by omega
  rcases h1 with h1 | h1 | h1 <;> rw [h1]
  · rw [if_neg (by omega), if_neg (by omega)]; rfl
  · rw [if_neg (by omega), if_pos (by omega)]; rfl
  · rw [if_pos (by omega)]; rfl
theorem hd_arg {b : List UInt8} {i : Int} (h : i < 0 ∨ (b.length : Int) < i) : hdF b i = (0, 0, 1) := by unfold hdF spanF; rw [if_pos h]; rfl
theorem hd_end {b : List UInt8} {i : Int} (h : i = b.length) : hdF b i = (0, 0, 111) := by unfold hdF spanF; rw [if_neg (by omega), if_pos h]; rfl
theorem hd_192 {b : List UInt8} {i : Int} (h0 : 0 ≤ i) (h1 : i < b.length) (h : 192 ≤ (b.getD i.toNat 0).toNat) : hdF b i = (0, 0, 112) := by
  have hs6 := shr6 (b.getD i.toNat 0)
  have := (b.getD i.toNat 0).toNat_lt
  unfold hdF spanF
  rw [if_neg (by omega), if_neg (by omega)]
  unfold spanK
  rw [if_pos (by omega)]; rfl
theorem hd_short {b : List UInt8} {i : Int} (h0 : 0 ≤ i) (h1 : i < b.length) (h : (b.getD i.toNat 0).toNat < 192) (h2 : (b.length : Int) - i < szOf (b.getD i.toNat 0)) : hdF b i = (0, 0, 111) := by
  obtain ⟨k, hk, hc, hz⟩ := sz_k _ h
  have hs6 := shr6 (b.getD i.toNat 0)
  rw [hz] at h2
  have hg : getF b i ((2 ^ k : Nat) : Int) = (0, 0, 111) := getF_end h0 (by omega) (by
    obtain rfl | rfl | rfl : k = 0 ∨ k = 1 ∨ k = 2 := by omega
    all_goals decide) h2
  have e : iShl .i64 1 (k : Int).toNat = ((2 ^ k : Nat) : Int) := by
    obtain rfl | rfl | rfl : k = 0 ∨ k = 1 ∨ k = 2 := by omega
    all_goals decide
  unfold hdF spanF
  rw [if_neg (by omega), if_neg (by omega), show ((u8Shr (b.getD i.toNat 0) 6).toNat : Int) = (k : Int) from by omega]
  unfold spanK
  rw [if_neg (by omega), e, hg]
  rfl
theorem hd_val {b : List UInt8} {i : Int} {s : Nat} (h0 : 0 ≤ i) (h : (b.getD i.toNat 0).toNat < 192) (hs : (s : Int) = szOf (b.getD i.toNat 0)) (h2 : i + s ≤ b.length) :
    ((((lenF (lenN b i s)).length : Int) ≠ s → hdF b i = (0, 0, 112)) ∧ (((lenF (lenN b i s)).length : Int) = s → 1048576 < lenN b i s → hdF b i = (0, 0, 2)) ∧
    (((lenF (lenN b i s)).length : Int) = s → lenN b i s ≤ 1048576 → (b.length : Int) - i - s < lenN b i s → hdF b i = (0, 0, 111)) ∧
    (((lenF (lenN b i s)).length : Int) = s → lenN b i s ≤ 1048576 → lenN b i s ≤ (b.length : Int) - i - s → hdF b i = ((lenN b i s : Int), i + s, 0))) := by
  obtain ⟨k, hk, hc, hz⟩ := sz_k _ h
  have hsk : s = 2 ^ k := by omega
  subst hsk
  have hlt := lenN_lt (b := b) (i := i) (s := 2 ^ k) Nat.one_le_two_pow
  have hv := span_val h0 hk hc h2
  unfold hdF
  rw [hv]
  generalize lenN b i (2 ^ k) = n at *
  have hl := lenF_len (n : Int)
  unfold spanN
  simp only [ne_eq, not_true_eq_false, if_false]
  obtain rfl | rfl | rfl : k = 0 ∨ k = 1 ∨ k = 2 := by omega
  · simp only [Nat.pow_zero, Nat.sub_self, Nat.mul_one] at hlt
    rw [if_pos (by omega)] at hl
    rw [hl]
    refine ⟨fun h => absurd rfl h, fun _ h => by omega, fun _ _ h => ?_, fun _ _ h => ?_⟩
    · rw [if_neg (by omega), if_neg (by omega), if_pos (by omega)]; rfl
    · rw [if_neg (by omega), if_neg (by omega), if_neg (by omega)]; simp; omega
  · have e : iShl .i64 1 (([6, 14, 30] : List Int).getD (((1 : Nat) : Int) - 1).toNat 0).toNat = 64 := by decide
    simp only [Nat.pow_one, Nat.reduceSub, Nat.reducePow] at hlt
    rw [e]
    refine ⟨fun h => ?_, fun h1 h => by omega, fun h1 _ h => ?_, fun h1 _ h => ?_⟩
    · rw [if_pos]
      · rfl
      · refine ⟨by decide, ?_⟩
        by_cases h3 : (n : Int) < 64
        · exact h3
        · rw [if_neg h3, if_pos (by omega)] at hl; omega
    · rw [if_neg, if_neg (by omega), if_pos (by omega)]; rfl
      rintro ⟨_, h3⟩; rw [if_pos h3] at hl; omega
    · rw [if_neg, if_neg (by omega), if_neg (by omega)]; simp; omega
      rintro ⟨_, h3⟩; rw [if_pos h3] at hl; omega
  · have e : iShl .i64 1 (([6, 14, 30] : List Int).getD (((2 : Nat) : Int) - 1).toNat 0).toNat = 16384 := by decide
    rw [e]
    have e3 : ((2 ^ 2 : Nat) : Int) = 4 := rfl
    have e4 : ∀ h : ((lenF n).length : Int) = ((2 ^ 2 : Nat) : Int), ¬ ((0 : Int) < ((2 : Nat) : Int) ∧ (n : Int) < 16384) := by
      rintro h1 ⟨_, h3⟩
      rw [hl, e3] at h1
      split at h1
      · omega
      · first | omega | (rw [if_pos h3] at h1; omega)
    refine ⟨fun h => ?_, fun h1 h => ?_, fun h1 _ h => ?_, fun h1 _ h => ?_⟩
    · rw [if_pos]
      · rfl
      · refine ⟨by decide, ?_⟩
        by_cases h3 : (n : Int) < 16384
        · exact h3
        · rw [if_neg (by omega), if_neg h3] at hl; omega
    · rw [if_neg (e4 h1), if_pos (by omega)]; rfl
    · rw [if_neg (e4 h1), if_neg (by omega), if_pos (by omega)]; rfl
    · rw [if_neg (e4 h1), if_neg (by omega), if_neg (by omega)]; simp; omega
theorem u8_add64 (a : Int) : UInt8.ofInt a + 64 = UInt8.ofInt (a + 64) := u8_add a 64
theorem u8_add128 (a : Int) : UInt8.ofInt a + 128 = UInt8.ofInt (a + 128) := u8_add a 128
theorem szOf_v (c : UInt8) : szOf c = 1 ∨ szOf c = 2 ∨ szOf c = 4 := by unfold szOf; split <;> (try split) <;> simp
theorem hdF_ok (b : List UInt8) (i : Int) (h : (hdF b i).2.2 = 0) : 0 ≤ i ∧ i < (hdF b i).2.1 ∧ 0 ≤ (hdF b i).1 ∧ (hdF b i).2.1 + (hdF b i).1 ≤ b.length ∧ (hdF b i).1 ≤ 1048576 := by
  have := spanF_ok b i h
  unfold hdF; simp only; omega
theorem len_or {b : List UInt8} {i : Int} {s : Nat} (h0 : 0 ≤ i) (h1 : 1 ≤ s) (h3 : s < 4) (h : i + s < b.length) (hl : lenN b i s < 64 * 256 ^ (s - 1)) : iOr .i64 ((lenN b i s : Int) * 256) ((b.getD (i + (s : Int)).toNat 0).toNat : Int) = (lenN b i (s + 1) : Int) := by
  have hc := (b.getD (i + (s : Int)).toNat 0).toNat_lt
  rw [lenN_step h0 h1 h]
  have h4 : lenN b i s < 64 * 256 ^ 2 := Nat.lt_of_lt_of_le hl (Nat.mul_le_mul_left _ (Nat.pow_le_pow_right (by omega) (by omega)))
  have := i64_step (lenN b i s) (b.getD (i + (s : Int)).toNat 0)
  rw [wrap_i64 (n := ((lenN b i s : Nat) : Int)) (by omega) (by omega), wrap_i64 (n := ((lenN b i s * 256 + (b.getD (i + (s : Int)).toNat 0).toNat : Nat) : Int)) (by omega) (by omega)] at this
  rw [← this]
  congr 1
  show _ = IntKind.i64.wrap ((lenN b i s : Int) * 256)
  rw [wrap_i64 (by omega) (by omega)]
theorem lenN_b {b : List UInt8} {i : Int} {s : Nat} (h1 : 1 ≤ s) (h4 : s ≤ 4) : lenN b i s < 1073741824 := by
  refine Nat.lt_of_lt_of_le (lenN_lt h1) ?_
  exact Nat.le_trans (Nat.mul_le_mul_left _ (Nat.pow_le_pow_right (show 0 < 256 by omega) (show s - 1 ≤ 3 by omega))) (by decide)
theorem hd_to (b : List UInt8) (i : Int) : (hdF b i).2.1 + (hdF b i).1 = (spanF b i).2.1 := by unfold hdF; simp only; omega
theorem hd_to2 (b : List UInt8) (i : Int) : (spanF b i).1 + (hdF b i).1 = (spanF b i).2.1 := by unfold hdF; simp only; omega
theorem hd_from (b : List UInt8) (i : Int) : (hdF b i).2.1 = (spanF b i).1 := rfl
theorem getText_e (b : List UInt8) (i : Int) : (getTextF b i).2.2 = (spanF b i).2.2 := by
  unfold getTextF; split
  · rfl
  · rename_i h; simp only; omega
theorem getText_all {b : List UInt8} {i : Int} (h : (spanF b i).2.2 = 0) : (getTextF b i).1 = allOf b i ∧ (getTextF b i).2.1 = (spanF b i).2.1 := by
  unfold getTextF; rw [if_neg (by omega)]; exact ⟨rfl, rfl⟩
theorem glr_e0 {b : List UInt8} {i : Int} (h : ¬ (getTextF b i).2.2 = 0) : getListF b i = ([], 0, (getTextF b i).2.2) := by
  rw [getText_e] at h ⊢; exact gl_e0 h
theorem glr_e1 {b : List UInt8} {i : Int} {s : List (List UInt8) × Int} (h : (getTextF b i).2.2 = 0) (hp : PL (getTextF b i).1 s) (hi : s.2 < ((getTextF b i).1.length : Int)) (he : ¬ (getTextF (getTextF b i).1 s.2).2.2 = 0) : getListF b i = ([], 0, (getTextF (getTextF b i).1 s.2).2.2) := by
  rw [getText_e] at h
  rw [(getText_all h).1] at hp hi he ⊢
  exact gl_e1 h hp hi he
theorem glr_fin {b : List UInt8} {i : Int} {s : List (List UInt8) × Int} (h : (getTextF b i).2.2 = 0) (hp : PL (getTextF b i).1 s) (hi : ¬ s.2 < ((getTextF b i).1.length : Int)) : getListF b i = (s.1, (getTextF b i).2.1, 0) := by
  rw [getText_e] at h
  rw [(getText_all h).1] at hp hi
  rw [(getText_all h).2]
  exact gl_fin h hp hi
theorem same_step {l m : List (List UInt8)} {s : Nat} (h : ∀ j, j < s → l.getD j [] = m.getD j []) (h1 : l.getD s [] = m.getD s []) : ∀ j, j < s + 1 → l.getD j [] = m.getD j [] := by
  intro j hj
  by_cases e : j = s
  · subst e; exact h1
  · exact h j (by omega)
theorem same_all {l m : List (List UInt8)} {s : Nat} (hl : l.length = m.length) (hs : l.length ≤ s) (h : ∀ j, j < s → l.getD j [] = m.getD j []) : l = m := by
  apply List.ext_getElem hl
  intro j h1 h2
  have := h j (by omega)
  simpa [List.getD_eq_getElem?_getD, List.getElem?_eq_getElem h1, List.getElem?_eq_getElem h2] using this
end Go.Vw

/- Kpke, in plain Lean. -/
set_option linter.unusedVariables false
namespace Go.Vk
open Go Go.Vc
def sqF (d n : Int) : Int := if d < 1 ∨ 11 < d then 0 else ((n % 3329) * 2 ^ d.toNat + 1664) / 3329 % 2 ^ d.toNat
def stF (d n : Int) : Int := if d < 1 ∨ 11 < d then 0 else ((n % 2 ^ d.toNat) * 3329 + 2 ^ (d.toNat - 1)) / 2 ^ d.toNat
theorem mod_pos {n m : Int} (h0 : 0 < m) (h : ¬ n.tmod m < 0) : n.tmod m = n % m := by
  rw [Int.emod_eq_tmod]
  split
  · omega
  · rename_i h2
    exfalso
    have h3 : n < 0 := by
      rcases Int.lt_or_le n 0 with h4 | h4
      · exact h4
      · exact absurd (Or.inl h4) h2
    have h5 : n.tmod m = -((-n).tmod m) := by rw [Int.neg_tmod]; omega
    have h6 := Int.tmod_nonneg m (show 0 ≤ -n by omega)
    have h7 : n.tmod m = 0 := by omega
    exact h2 (Or.inr (Int.dvd_of_tmod_eq_zero h7))
theorem mod_neg {n m : Int} (h0 : 0 < m) (h : n.tmod m < 0) : n.tmod m + m = n % m := by
  rw [Int.emod_eq_tmod]
  split
  · rename_i h2
    rcases h2 with h2 | h2
    · have := Int.tmod_nonneg m h2; omega
    · rw [Int.tmod_eq_zero_of_dvd h2] at h; omega
  · omega
theorem shl_pow {a : Int} {k : Nat} (h0 : 0 ≤ a) (hk : k ≤ 60) (h : a * 2 ^ k ≤ 9223372036854775807) : iShl .i64 a k = a * 2 ^ k := by
  unfold iShl
  have hb : IntKind.i64.bits = 64 := rfl
  rw [hb, Nat.min_eq_left (by omega)]
  have hp : (0 : Int) < 2 ^ k := Int.pow_pos (by decide)
  have := Int.mul_nonneg h0 (Int.le_of_lt hp)
  exact wrap_i64 (by omega) (by omega)
theorem shr_pow {a : Int} {k : Nat} (hk : k ≤ 60) : iShr .i64 a k = a / 2 ^ k := by
  unfold iShr
  have hb : IntKind.i64.bits = 64 := rfl
  rw [hb, Nat.min_eq_left (by omega)]
theorem pow11 {d : Int} (h1 : 1 ≤ d) (h2 : d ≤ 11) : (2 : Int) ≤ 2 ^ d.toNat ∧ (2 : Int) ^ d.toNat ≤ 2048 := by
  obtain ⟨k, hk⟩ : ∃ k : Nat, d.toNat = k := ⟨_, rfl⟩
  rw [hk]
  have h3 : 1 ≤ k := by omega
  have h4 : k ≤ 11 := by omega
  clear hk h1 h2
  match k, h3, h4 with
  | 1, _, _ => decide
  | 2, _, _ => decide
  | 3, _, _ => decide
  | 4, _, _ => decide
  | 5, _, _ => decide
  | 6, _, _ => decide
  | 7, _, _ => decide
  | 8, _, _ => decide
  | 9, _, _ => decide
  | 10, _, _ => decide
  | 11, _, _ => decide
theorem sq_shl {d : Int} (n : Int) (h1 : ¬ d < 1) (h2 : ¬ 11 < d) : iShl .i64 (n % 3329) d.toNat = (n % 3329) * 2 ^ d.toNat ∧ 0 ≤ (n % 3329) * 2 ^ d.toNat ∧ (n % 3329) * 2 ^ d.toNat ≤ 6815744 ∧ iShl .i64 1 d.toNat = 2 ^ d.toNat ∧ (2 : Int) ≤ 2 ^ d.toNat ∧ (2 : Int) ^ d.toNat ≤ 2048 := by
  have hp := pow11 (d := d) (by omega) (by omega)
  have h3 := Int.emod_nonneg n (show (3329 : Int) ≠ 0 by decide)
  have h4 := Int.emod_lt_of_pos n (show (0 : Int) < 3329 by decide)
  have h5 : 0 ≤ (n % 3329) * 2 ^ d.toNat := Int.mul_nonneg h3 (by omega)
  have h6 : (n % 3329) * 2 ^ d.toNat ≤ 3328 * 2048 := Int.mul_le_mul (by omega) hp.2 (by omega) (by decide)
  refine ⟨shl_pow h3 (by omega) (by omega), h5, by omega, ?_, hp⟩
  rw [shl_pow (by decide) (by omega) (by omega), Int.one_mul]
theorem sq_ret {d n : Int} (h1 : ¬ d < 1) (h2 : ¬ 11 < d) : iAnd .i64 ((iShl .i64 (n % 3329) d.toNat + 1664) / 3329) (iShl .i64 1 d.toNat - 1) = sqF d n := by
  obtain ⟨a1, a2, a3, a4, a5, a6⟩ := sq_shl n h1 h2
  unfold sqF
  rw [if_neg (by omega), a1, a4, Go.Vw.iAnd_mask (by omega) (by omega) (by omega)]
theorem st_shl {d : Int} (n : Int) (h1 : ¬ d < 1) (h2 : ¬ 11 < d) : iShl .i64 1 d.toNat = 2 ^ d.toNat ∧ (2 : Int) ≤ 2 ^ d.toNat ∧ (2 : Int) ^ d.toNat ≤ 2048 ∧ 0 ≤ n % iShl .i64 1 d.toNat ∧ n % iShl .i64 1 d.toNat ≤ 2047 ∧ iShl .i64 1 (d - 1).toNat = 2 ^ (d.toNat - 1) ∧ 0 ≤ iShl .i64 1 (d - 1).toNat ∧ iShl .i64 1 (d - 1).toNat ≤ 2048 := by
  have hp := pow11 (d := d) (by omega) (by omega)
  have e1 : iShl .i64 1 d.toNat = 2 ^ d.toNat := by rw [shl_pow (by decide) (by omega) (by omega), Int.one_mul]
  have h3 := Int.emod_nonneg n (show (2 : Int) ^ d.toNat ≠ 0 by omega)
  have h4 := Int.emod_lt_of_pos n (show (0 : Int) < 2 ^ d.toNat by omega)
  have e0 : (d - 1).toNat = d.toNat - 1 := by omega
  have hq : (0 : Int) < 2 ^ (d.toNat - 1) := Int.pow_pos (by decide)
  have hq2 : (2 : Int) ^ d.toNat = 2 ^ (d.toNat - 1) * 2 := by
    rw [← Int.pow_succ]
    congr 1
    omega
  have e2 : iShl .i64 1 (d - 1).toNat = 2 ^ (d.toNat - 1) := by rw [e0, shl_pow (by decide) (by omega) (by omega), Int.one_mul]
  rw [e1, e2]
  exact ⟨rfl, hp.1, hp.2, h3, by omega, rfl, by omega, by omega⟩
theorem st_ret {d n : Int} (h1 : ¬ d < 1) (h2 : ¬ 11 < d) : iShr .i64 (n % iShl .i64 1 d.toNat * 3329 + iShl .i64 1 (d - 1).toNat) d.toNat = stF d n := by
  obtain ⟨a1, a2, a3, a4, a5, a6, a7, a8⟩ := st_shl n h1 h2
  unfold stF
  rw [if_neg (by omega), a1, a6, shr_pow (by omega)]
/-! ### Encoding -/
def mOf (d : Int) : Int := if d = 12 then 3329 else 2 ^ d.toNat
def cof (d : Int) (p : Nat → Int) (s : Nat) : Nat := (p s % mOf d).toNat
def encV (D : Nat) (c : Nat → Nat) : Nat → Nat
  | 0 => 0
  | s + 1 => encV D c s + c s * 2 ^ (D * s)
def leB (v k : Nat) : List UInt8 := (List.range k).map fun i => UInt8.ofNat (v / 2 ^ (8 * i))
def encF (d : Int) (p : Nat → Int) : List UInt8 := if d < 1 ∨ 12 < d then [] else leB (encV d.toNat (cof d p) 256) (d.toNat * 256 / 8)
theorem leB_len (v k : Nat) : (leB v k).length = k := by simp [leB]
theorem mOf_b {d : Int} (h1 : ¬ d < 1) (h2 : ¬ 12 < d) : 2 ≤ mOf d ∧ mOf d ≤ 4096 ∧ mOf d ≤ 2 ^ d.toNat ∧ iShl .i64 1 d.toNat = 2 ^ d.toNat ∧ (2 : Int) ^ d.toNat ≤ 4096 := by
  by_cases e : d = 12
  · subst e; unfold mOf; rw [if_pos rfl]; decide
  · have hp := pow11 (d := d) (by omega) (by omega)
    unfold mOf
    rw [if_neg e, shl_pow (by decide) (by omega) (by omega), Int.one_mul]
    omega
theorem cof_lt {d : Int} (p : Nat → Int) (s : Nat) (h1 : ¬ d < 1) (h2 : ¬ 12 < d) : cof d p s < 2 ^ d.toNat ∧ ((cof d p s : Nat) : Int) = p s % mOf d ∧ cof d p s < 4096 := by
  have hm := mOf_b h1 h2
  have h3 := Int.emod_nonneg (p s) (show mOf d ≠ 0 by omega)
  have h4 := Int.emod_lt_of_pos (p s) (show 0 < mOf d by omega)
  have h5 : ((2 ^ d.toNat : Nat) : Int) = 2 ^ d.toNat := by simp
  unfold cof
  omega
theorem encV_lt {d : Int} (p : Nat → Int) (h1 : ¬ d < 1) (h2 : ¬ 12 < d) : ∀ s, encV d.toNat (cof d p) s < 2 ^ (d.toNat * s)
  | 0 => by simp [encV]
  | s + 1 => by
    have ih := encV_lt p h1 h2 s
    have hc := (cof_lt p s h1 h2).1
    show encV d.toNat (cof d p) s + cof d p s * 2 ^ (d.toNat * s) < _
    rw [Nat.mul_succ, Nat.pow_add]
    have h3 : (cof d p s + 1) * 2 ^ (d.toNat * s) ≤ 2 ^ d.toNat * 2 ^ (d.toNat * s) := Nat.mul_le_mul_right _ hc
    rw [Nat.add_mul, Nat.one_mul] at h3
    rw [Nat.mul_comm (2 ^ (d.toNat * s))]
    omega
theorem enc_or {d : Int} (p : Nat → Int) {s : Nat} (h1 : ¬ d < 1) (h2 : ¬ 12 < d) :
    iOr .i64 ((encV d.toNat (cof d p) s / 2 ^ (8 * (d.toNat * s / 8)) : Nat) : Int) (iShl .i64 (p s % mOf d) ((d.toNat * s - 8 * (d.toNat * s / 8) : Nat) : Int).toNat) = ((encV d.toNat (cof d p) (s + 1) / 2 ^ (8 * (d.toNat * s / 8 + 0)) : Nat) : Int) := by
  have hv := encV_lt p h1 h2 s
  obtain ⟨hc, hc2, hc3⟩ := cof_lt p s h1 h2
  generalize hV : encV d.toNat (cof d p) s = V at *
  generalize hX : d.toNat * s = X at *
  have hk : X = 8 * (X / 8) + (X - 8 * (X / 8)) := by omega
  have hb : X - 8 * (X / 8) < 8 := by omega
  generalize hB : X - 8 * (X / 8) = B at *
  generalize hK : 8 * (X / 8) = K at *
  have e1 : encV d.toNat (cof d p) (s + 1) = V + cof d p s * 2 ^ X := by rw [← hV, ← hX]; rfl
  rw [e1, Int.toNat_natCast, ← hc2]
  have hpB : (2 : Nat) ^ B ≤ 2 ^ 7 := Nat.pow_le_pow_right (by decide) (by omega)
  have h5 : cof d p s * 2 ^ B ≤ 524160 := Nat.le_trans (Nat.mul_le_mul (show cof d p s ≤ 4095 by omega) hpB) (by decide)
  have h6 : ((cof d p s : Nat) : Int) * 2 ^ B = ((cof d p s * 2 ^ B : Nat) : Int) := by rw [Int.natCast_mul, Int.natCast_pow]; rfl
  have h60 : ((cof d p s * 2 ^ B : Nat) : Int) ≤ 524160 := Int.ofNat_le.2 h5
  have h7 : V / 2 ^ K < 2 ^ B := Nat.div_lt_of_lt_mul (by rw [← Nat.pow_add, ← hk]; exact hv)
  have h8 : (((2 : Nat) ^ B : Nat) : Int) = 2 ^ B := by simp
  have h9 : (2 : Nat) ^ B ≤ 128 := hpB
  have h10 : ((V / 2 ^ K : Nat) : Int) < 2 ^ B := by rw [← h8]; exact_mod_cast h7
  have h11 : (0 : Int) ≤ ((V / 2 ^ K : Nat) : Int) := Int.natCast_nonneg _
  have h12 : ((V / 2 ^ K : Nat) : Int) ≤ 128 := by
    have : V / 2 ^ K ≤ 128 := by omega
    exact Int.ofNat_le.2 this
  generalize hW : V / 2 ^ K = W at *
  rw [shl_pow (by omega) (by omega) (by rw [h6]; omega), Go.Vw.iOr_add h11 h10 (by omega) (by rw [h6]; omega), h6, hk, Nat.pow_add, ← Nat.mul_assoc, Nat.mul_right_comm, Nat.add_mul_div_right _ _ (Nat.pow_pos (by decide)), hW]
  simp
theorem enc_shr {V k : Nat} : iShr .i64 ((V / 2 ^ (8 * k) : Nat) : Int) 8 = ((V / 2 ^ (8 * (k + 1)) : Nat) : Int) := by
  rw [shr_pow (by decide), Nat.mul_succ, Nat.pow_add, ← Nat.div_div_eq_div_mul]
  simp
theorem leB_snoc {v k : Nat} : leB v k ++ [UInt8.ofInt ((v / 2 ^ (8 * k) : Nat) : Int)] = leB v (k + 1) := by
  unfold leB
  rw [List.range_succ, List.map_append]
  congr 1
  simp only [List.map_cons, List.map_nil, List.cons.injEq, and_true]
  refine UInt8.toNat_inj.1 ?_
  have h1 := Go.Vw.u8_toNat ((v / 2 ^ (8 * k) : Nat) : Int)
  rw [UInt8.toNat_ofNat']
  omega
theorem leB_low {d : Int} (p : Nat → Int) (s : Nat) : leB (encV d.toNat (cof d p) s) (d.toNat * s / 8) = leB (encV d.toNat (cof d p) (s + 1)) (d.toNat * s / 8 + 0) := by
  unfold leB
  refine List.map_congr_left fun i hi => ?_
  have hi' : i < d.toNat * s / 8 := by simpa using hi
  refine UInt8.toNat_inj.1 ?_
  rw [UInt8.toNat_ofNat', UInt8.toNat_ofNat']
  show _ = (encV d.toNat (cof d p) s + cof d p s * 2 ^ (d.toNat * s)) / 2 ^ (8 * i) % 2 ^ 8
  obtain ⟨t, ht⟩ : ∃ t, d.toNat * s = 8 * i + (8 + t) := ⟨d.toNat * s - 8 * i - 8, by omega⟩
  rw [ht, Nat.pow_add, Nat.pow_add, Nat.mul_comm (2 ^ (8 * i)), ← Nat.mul_assoc, Nat.add_mul_div_right _ _ (Nat.pow_pos (by decide)), Nat.mul_left_comm, Nat.add_mul_mod_self_left]
theorem tmod_lb {n m : Int} (h0 : 0 < m) : -m ≤ n.tmod m ∧ n.tmod m < m := by
  have h := @Int.emod_eq_tmod n m
  have h1 := Int.emod_nonneg n (show m ≠ 0 by omega)
  have h2 := Int.emod_lt_of_pos n h0
  split at h <;> omega
end Go.Vk

/- Kpke, in plain Lean: decoding. -/
set_option linter.unusedVariables false
namespace Go.Vk
open Go Go.Vc
/-- The number that bytes make, the first one least. -/
def leN : List UInt8 → Nat
  | [] => 0
  | c :: r => c.toNat + 256 * leN r
theorem leN_snoc : ∀ (l : List UInt8) (c : UInt8), leN (l ++ [c]) = leN l + c.toNat * 2 ^ (8 * l.length)
  | [], c => by simp [leN]
  | a :: r, c => by
    show a.toNat + 256 * leN (r ++ [c]) = a.toNat + 256 * leN r + c.toNat * 2 ^ (8 * (r.length + 1))
    rw [leN_snoc r c, Nat.mul_succ, Nat.pow_add, Nat.mul_add, show (2 : Nat) ^ 8 = 256 from rfl, ← Nat.mul_assoc c.toNat, Nat.mul_comm (c.toNat * 2 ^ (8 * r.length)) 256]
    omega
theorem leN_lt : ∀ l : List UInt8, leN l < 2 ^ (8 * l.length)
  | [] => by simp [leN]
  | a :: r => by
    have := leN_lt r
    have ha := a.toNat_lt
    show a.toNat + 256 * leN r < 2 ^ (8 * (r.length + 1))
    rw [Nat.mul_succ, Nat.pow_add, show (2 : Nat) ^ 8 = 256 from rfl]
    omega
theorem leN_app : ∀ (l m : List UInt8), leN (l ++ m) = leN l + 2 ^ (8 * l.length) * leN m
  | [], m => by simp [leN]
  | a :: r, m => by
    show a.toNat + 256 * leN (r ++ m) = a.toNat + 256 * leN r + 2 ^ (8 * (r.length + 1)) * leN m
    rw [leN_app r m, Nat.mul_succ, Nat.pow_add, show (2 : Nat) ^ 8 = 256 from rfl, Nat.mul_add, ← Nat.mul_assoc, Nat.mul_comm 256 (2 ^ (8 * r.length))]
    omega
def decN (d : Int) (b : List UInt8) (j : Nat) : Nat := leN b / 2 ^ (d.toNat * j) % 2 ^ d.toNat
def decP (d : Int) (b : List UInt8) (j : Nat) : Int := if d = 12 then (decN d b j : Int) % 3329 else (decN d b j : Int)
def decF (d : Int) (b : List UInt8) : (Nat → Int) × Int := if d < 1 ∨ 12 < d then (fun _ => 0, 1) else if (b.length : Int) ≠ 32 * d then (fun _ => 0, 52) else (decP d b, 0)
theorem dec_or {b : List UInt8} {k X : Nat} (hk : k < b.length) (hX : X ≤ 8 * k) (hB : 8 * k - X ≤ 20) :
    iOr .i64 ((leN (b.take k) / 2 ^ X : Nat) : Int) (iShl .i64 (((b.drop k).getD 0 0).toNat : Int) ((8 * k - X : Nat) : Int).toNat) = ((leN (b.take (k + 1)) / 2 ^ X : Nat) : Int) := by
  have e0 : (b.drop k).getD 0 0 = b[k] := by simp [List.getD, List.getElem?_drop, List.getElem?_eq_getElem hk]
  have hl : (b.take k).length = k := by simp; omega
  have hv := leN_lt (b.take k)
  rw [hl] at hv
  have e1 : leN (b.take (k + 1)) = leN (b.take k) + (b[k]).toNat * 2 ^ (8 * k) := by
    rw [List.take_succ_eq_append_getElem hk, leN_snoc, hl]
  rw [e0, e1, Int.toNat_natCast]
  have hc := (b[k]).toNat_lt
  generalize (b[k]).toNat = c at *
  generalize leN (b.take k) = V at *
  generalize hBB : 8 * k - X = B at *
  have hk2 : 8 * k = X + B := by omega
  rw [hk2] at hv ⊢
  have hpB : (2 : Nat) ^ B ≤ 2 ^ 20 := Nat.pow_le_pow_right (by decide) hB
  have h5 : c * 2 ^ B ≤ 267386880 := Nat.le_trans (Nat.mul_le_mul (show c ≤ 255 by omega) hpB) (by decide)
  have h60 : ((c * 2 ^ B : Nat) : Int) ≤ 267386880 := Int.ofNat_le.2 h5
  have h6 : (c : Int) * 2 ^ B = ((c * 2 ^ B : Nat) : Int) := by rw [Int.natCast_mul, Int.natCast_pow]; rfl
  have h7 : V / 2 ^ X < 2 ^ B := Nat.div_lt_of_lt_mul (by rw [← Nat.pow_add]; exact hv)
  have h8 : (((2 : Nat) ^ B : Nat) : Int) = 2 ^ B := by simp
  have h9 : (2 : Nat) ^ B ≤ 1048576 := hpB
  have h10 : ((V / 2 ^ X : Nat) : Int) < 2 ^ B := by rw [← h8]; exact_mod_cast h7
  have h11 : (0 : Int) ≤ ((V / 2 ^ X : Nat) : Int) := Int.natCast_nonneg _
  have h12 : ((V / 2 ^ X : Nat) : Int) ≤ 1048576 := by
    have : V / 2 ^ X ≤ 1048576 := by omega
    exact Int.ofNat_le.2 this
  generalize hW : V / 2 ^ X = W at *
  rw [shl_pow (by omega) (by omega) (by rw [h6]; omega), Go.Vw.iOr_add h11 h10 (by omega) (by rw [h6]; omega), h6, Nat.pow_add, Nat.mul_comm (2 ^ X), ← Nat.mul_assoc, Nat.add_mul_div_right _ _ (Nat.pow_pos (by decide)), hW]
  simp
/-- What stands there already. -/
theorem dec_low {d : Int} {b : List UInt8} {k s : Nat} (hk : k ≤ b.length) (h : d.toNat * (s + 1) ≤ 8 * k) : leN (b.take k) / 2 ^ (d.toNat * s) % 2 ^ d.toNat = decN d b s := by
  unfold decN
  have hl : (b.take k).length = k := by simp; omega
  have e : leN b = leN (b.take k) + 2 ^ (8 * k) * leN (b.drop k) := by
    conv => lhs; rw [← List.take_append_drop k b]
    rw [leN_app, hl]
  obtain ⟨t, ht⟩ : ∃ t, 8 * k = d.toNat * s + (d.toNat + t) := ⟨8 * k - d.toNat * s - d.toNat, by rw [Nat.mul_succ] at h; omega⟩
  rw [e, ht, Nat.pow_add, Nat.mul_assoc, Nat.add_mul_div_left _ _ (Nat.pow_pos (by decide)), Nat.pow_add, Nat.mul_assoc, Nat.add_mul_mod_self_left]
theorem dec_b {b : List UInt8} {k X : Nat} (hk : k ≤ b.length) (hX : X ≤ 8 * k) (hB : 8 * k - X ≤ 20) : ((leN (b.take k) / 2 ^ X : Nat) : Int) ≤ 1048576 := by
  have hl : (b.take k).length = k := by simp; omega
  have hv := leN_lt (b.take k)
  rw [hl] at hv
  have h7 : leN (b.take k) / 2 ^ X < 2 ^ (8 * k - X) := Nat.div_lt_of_lt_mul (by rw [← Nat.pow_add, show X + (8 * k - X) = 8 * k by omega]; exact hv)
  have h9 : (2 : Nat) ^ (8 * k - X) ≤ 2 ^ 20 := Nat.pow_le_pow_right (by decide) hB
  have h10 : leN (b.take k) / 2 ^ X ≤ 1048576 := Nat.le_trans (Nat.le_of_lt h7) h9
  exact Int.ofNat_le.2 h10
theorem dec_and {d : Int} {b : List UInt8} {k s : Nat} (h1 : ¬ d < 1) (h2 : ¬ 12 < d) (hk : k ≤ b.length) (h : d.toNat * (s + 1) ≤ 8 * k) (hB : 8 * k - d.toNat * s ≤ 20) :
    iAnd .i64 ((leN (b.take k) / 2 ^ (d.toNat * s) : Nat) : Int) (iShl .i64 1 d.toNat - 1) = ((decN d b s : Nat) : Int) := by
  have hb := dec_b hk (show d.toNat * s ≤ 8 * k by rw [Nat.mul_succ] at h; omega) hB
  have h0 : (0 : Int) ≤ ((leN (b.take k) / 2 ^ (d.toNat * s) : Nat) : Int) := Int.natCast_nonneg _
  rw [(mOf_b h1 h2).2.2.2.1, Go.Vw.iAnd_mask h0 (by omega) (by omega), ← dec_low hk h]
  simp
theorem dec_val1 {d : Int} {b : List UInt8} {k s : Nat} (h1 : ¬ d < 1) (h2 : ¬ 12 < d) (h3 : ¬ d = 12) (hk : k ≤ b.length) (h : d.toNat * (s + 1) ≤ 8 * k) (hB : 8 * k - d.toNat * s ≤ 20) :
    iAnd .i64 ((leN (b.take k) / 2 ^ (d.toNat * s) : Nat) : Int) (iShl .i64 1 d.toNat - 1) = decP d b s := by
  rw [dec_and h1 h2 hk h hB]
  unfold decP
  rw [if_neg h3]
theorem dec_val2 {d : Int} {b : List UInt8} {k s : Nat} (h1 : ¬ d < 1) (h2 : ¬ 12 < d) (h3 : d = 12) (hk : k ≤ b.length) (h : d.toNat * (s + 1) ≤ 8 * k) (hB : 8 * k - d.toNat * s ≤ 20) :
    iAnd .i64 ((leN (b.take k) / 2 ^ (d.toNat * s) : Nat) : Int) (iShl .i64 1 d.toNat - 1) % 3329 = decP d b s := by
  rw [dec_and h1 h2 hk h hB]
  unfold decP
  rw [if_pos h3]
theorem dec_put {d : Int} {b : List UInt8} {s : Nat} {x : Int} (hx : x = decP d b s) (j : Nat) : PV.v (.int .i64 (if j = s then x else if j < s then decP d b j else 0)) = PV.v (.int .i64 (if j < s + 1 then decP d b j else 0)) := by
  subst hx
  by_cases h : j = s
  · subst h; rw [if_pos rfl, if_pos (by omega)]
  · rw [if_neg h]
    by_cases h2 : j < s
    · rw [if_pos h2, if_pos (by omega)]
    · rw [if_neg h2, if_neg (by omega)]
theorem dec_shr {d : Int} {b : List UInt8} {k s : Nat} (h2 : ¬ 12 < d) : iShr .i64 ((leN (b.take k) / 2 ^ (d.toNat * s) : Nat) : Int) d.toNat = ((leN (b.take k) / 2 ^ (d.toNat * (s + 1)) : Nat) : Int) := by
  rw [shr_pow (by omega), Nat.mul_succ, Nat.pow_add, ← Nat.div_div_eq_div_mul]
  simp
end Go.Vk

/- Kpke, in plain Lean: the document's side; numbers and bytes back and forth. -/
set_option linter.unusedVariables false
namespace Go.Vk
open Go Go.Vc
theorem sqR (n : Int) {d : Int} (h1 : ¬ d < 1) (h2 : ¬ 11 < d) : iShl .i64 (2 * (n % 3329)) d.toNat = 2 * ((n % 3329) * 2 ^ d.toNat) ∧ 0 ≤ (n % 3329) * 2 ^ d.toNat ∧ (n % 3329) * 2 ^ d.toNat ≤ 6815744 ∧ iShl .i64 1 d.toNat = 2 ^ d.toNat ∧ (2 : Int) ≤ 2 ^ d.toNat ∧ (2 : Int) ^ d.toNat ≤ 2048 := by
  obtain ⟨a1, a2, a3, a4, a5, a6⟩ := sq_shl n h1 h2
  have h3 := Int.emod_nonneg n (show (3329 : Int) ≠ 0 by decide)
  refine ⟨?_, a2, a3, a4, a5, a6⟩
  rw [shl_pow (by omega) (by omega) (by rw [Int.mul_assoc]; omega), Int.mul_assoc]
theorem sqR_ret {d n : Int} (h1 : ¬ d < 1) (h2 : ¬ 11 < d) : (iShl .i64 (2 * (n % 3329)) d.toNat + 3329) / 6658 % iShl .i64 1 d.toNat = sqF d n := by
  obtain ⟨a1, a2, a3, a4, a5, a6⟩ := sqR n h1 h2
  unfold sqF
  rw [if_neg (by omega), a1, a4]
  congr 1
  omega
theorem stR (n : Int) {d : Int} (h1 : ¬ d < 1) (h2 : ¬ 11 < d) : iShl .i64 1 d.toNat = 2 ^ d.toNat ∧ (2 : Int) ≤ 2 ^ d.toNat ∧ (2 : Int) ^ d.toNat ≤ 2048 ∧ 0 ≤ n % iShl .i64 1 d.toNat ∧ n % iShl .i64 1 d.toNat ≤ 2047 ∧ (2 : Int) ^ d.toNat = 2 ^ (d.toNat - 1) * 2 := by
  obtain ⟨a1, a2, a3, a4, a5, a6, a7, a8⟩ := st_shl n h1 h2
  refine ⟨a1, a2, a3, a4, a5, ?_⟩
  rw [← Int.pow_succ]
  congr 1
  omega
theorem stR_ret {d n : Int} (h1 : ¬ d < 1) (h2 : ¬ 11 < d) : iShr .i64 (6658 * (n % iShl .i64 1 d.toNat) + iShl .i64 1 d.toNat) (d + 1).toNat = stF d n := by
  obtain ⟨a1, a2, a3, a4, a5, a6⟩ := stR n h1 h2
  unfold stF
  have hp : (0 : Int) < 2 ^ (d.toNat - 1) := Int.pow_pos (by decide)
  have e0 : (d + 1).toNat = d.toNat + 1 := by omega
  rw [if_neg (by omega), shr_pow (by omega), e0, a1, Int.pow_succ, Int.mul_comm (2 ^ d.toNat) 2]
  have e3 : 6658 * (n % 2 ^ d.toNat) + 2 ^ d.toNat = 2 * (n % 2 ^ d.toNat * 3329 + 2 ^ (d.toNat - 1)) := by omega
  rw [e3, Int.mul_ediv_mul_of_pos _ _ (by decide)]
theorem leN_byte : ∀ (b : List UInt8) (q : Nat), leN b / 2 ^ (8 * q) % 256 = (b.getD q 0).toNat
  | [], q => by simp [leN]
  | c :: r, 0 => by
    have := c.toNat_lt
    show (c.toNat + 256 * leN r) / 2 ^ (8 * 0) % 256 = c.toNat
    simp
  | c :: r, q + 1 => by
    have := c.toNat_lt
    have ih := leN_byte r q
    show (c.toNat + 256 * leN r) / 2 ^ (8 * (q + 1)) % 256 = (r.getD q 0).toNat
    rw [← ih, Nat.mul_succ, Nat.add_comm (8 * q) 8, Nat.pow_add, ← Nat.div_div_eq_div_mul, show (2 : Nat) ^ 8 = 256 from rfl, show (c.toNat + 256 * leN r) / 256 = leN r by omega]
def bitF (b : List UInt8) (j : Nat) : Nat := leN b / 2 ^ j % 2
theorem bitF_lt (b : List UInt8) (j : Nat) : bitF b j < 2 := Nat.mod_lt _ (by decide)
theorem bit_byte (b : List UInt8) (j : Nat) : bitF b j = (b.getD (j / 8) 0).toNat / 2 ^ (j % 8) % 2 := by
  unfold bitF
  rw [← leN_byte]
  have hj : j = 8 * (j / 8) + j % 8 := by omega
  have h8 : 256 = 2 ^ (j % 8) * 2 ^ (8 - j % 8) := by rw [← Nat.pow_add, show j % 8 + (8 - j % 8) = 8 by omega]
  conv => lhs; rw [hj, Nat.pow_add, ← Nat.div_div_eq_div_mul]
  generalize leN b / 2 ^ (8 * (j / 8)) = V
  rw [h8, Nat.mod_mul_right_div_self]
  rw [show 8 - j % 8 = (8 - j % 8 - 1) + 1 by omega, Nat.pow_succ, Nat.mul_comm, Nat.mod_mul_right_mod]
theorem and_one {a : Int} (h0 : 0 ≤ a) (h1 : a ≤ 9223372036854775807) : iAnd .i64 a 1 = a % 2 := Go.Vw.iAnd_mask (m := 1) h0 h1 (by decide)
theorem bit_ret {b : List UInt8} {i : Int} (h0 : 0 ≤ i) : iAnd .i64 (((u8Shr (b.getD (i / 8).toNat 0) (i % 8).toNat).toNat : Nat) : Int) 1 = ((bitF b i.toNat : Nat) : Int) := by
  obtain ⟨n, rfl⟩ := Int.eq_ofNat_of_zero_le h0
  have e1 : ((n : Int) / 8).toNat = n / 8 := by omega
  have e2 : ((n : Int) % 8).toNat = n % 8 := by omega
  have hl := (u8Shr (b.getD (n / 8) 0) (n % 8)).toNat_lt
  rw [e1, e2, and_one (by omega) (by omega), Int.toNat_natCast, bit_byte]
  have hc := (b.getD (n / 8) 0).toNat_lt
  unfold u8Shr
  rw [UInt8.toNat_ofNat']
  have h9 : (b.getD (n / 8) 0).toNat / 2 ^ (n % 8) ≤ (b.getD (n / 8) 0).toNat := Nat.div_le_self _ _
  rw [Nat.mod_eq_of_lt (by omega)]
  rfl
theorem sd_b {s : Nat} {d : Int} (h : s < 256) (h1 : ¬ d < 1) (h2 : ¬ 12 < d) : (s : Int) * d + d ≤ 256 * d ∧ 0 ≤ (s : Int) * d ∧ (s : Int) * d ≤ 3060 := by
  have e : ((s : Int) + 1) * d ≤ 256 * d := Int.mul_le_mul_of_nonneg_right (by omega) (by omega)
  have e3 := Int.mul_nonneg (Int.natCast_nonneg s) (show 0 ≤ d by omega)
  rw [Int.add_mul, Int.one_mul] at e
  omega
theorem sd_nat {s r : Nat} {d : Int} (h1 : ¬ d < 1) : ((s : Int) * d + (r : Int)).toNat = d.toNat * s + r := by
  have : (s : Int) * d = ((d.toNat * s : Nat) : Int) := by
    rw [Int.natCast_mul, Int.toNat_of_nonneg (by omega), Int.mul_comm]
  rw [this]
  omega
theorem decR_step {d : Int} {b : List UInt8} {s r : Nat} (hr : r < d.toNat) (h1 : ¬ d < 1) (h2 : ¬ 12 < d) :
    ((decN d b s % 2 ^ r : Nat) : Int) + iShl .i64 ((bitF b ((s : Int) * d + (r : Int)).toNat : Nat) : Int) (r : Int).toNat = ((decN d b s % 2 ^ (r + 1) : Nat) : Int) ∧ 0 ≤ iShl .i64 ((bitF b ((s : Int) * d + (r : Int)).toNat : Nat) : Int) (r : Int).toNat ∧ iShl .i64 ((bitF b ((s : Int) * d + (r : Int)).toNat : Nat) : Int) (r : Int).toNat ≤ 4096 ∧ ((decN d b s % 2 ^ r : Nat) : Int) ≤ 4096 := by
  rw [Int.toNat_natCast r]
  have hb := bitF_lt b ((s : Int) * d + (r : Int)).toNat
  have e1 : bitF b ((s : Int) * d + (r : Int)).toNat = decN d b s / 2 ^ r % 2 := by
    rw [sd_nat h1]
    unfold bitF decN
    rw [Nat.pow_add, ← Nat.div_div_eq_div_mul]
    generalize leN b / 2 ^ (d.toNat * s) = V
    rw [show d.toNat = r + (d.toNat - r) by omega, Nat.pow_add, Nat.mod_mul_right_div_self, show d.toNat - r = (d.toNat - r - 1) + 1 by omega, Nat.pow_succ, Nat.mul_comm _ 2, Nat.mod_mul_right_mod]
  rw [e1] at hb ⊢
  have hp : (2 : Nat) ^ r ≤ 2 ^ 11 := Nat.pow_le_pow_right (by decide) (by omega)
  have hm : decN d b s % 2 ^ r < 2 ^ r := Nat.mod_lt _ (Nat.pow_pos (by decide))
  have h3 : ((decN d b s / 2 ^ r % 2 : Nat) : Int) * 2 ^ r = ((2 ^ r * (decN d b s / 2 ^ r % 2) : Nat) : Int) := by
    rw [Nat.mul_comm]; push_cast; rfl
  have h4 : 2 ^ r * (decN d b s / 2 ^ r % 2) ≤ 2048 * 1 := Nat.mul_le_mul hp (by omega)
  rw [shl_pow (Int.natCast_nonneg _) (by omega) (by rw [h3]; omega), h3, Nat.mod_pow_succ]
  refine ⟨by push_cast; rfl, Int.natCast_nonneg _, by omega, by omega⟩
theorem decR_end {d : Int} {b : List UInt8} {s r : Nat} (hr : r = d.toNat) : decN d b s % 2 ^ r = decN d b s := by
  subst hr
  exact Nat.mod_eq_of_lt (Nat.mod_lt _ (Nat.pow_pos (by decide)))
theorem decN_12 {d : Int} {b : List UInt8} {s : Nat} (h2 : ¬ 12 < d) : ((decN d b s : Nat) : Int) ≤ 4096 := by
  have h1 : decN d b s < 2 ^ d.toNat := Nat.mod_lt _ (Nat.pow_pos (by decide))
  have hp : (2 : Nat) ^ d.toNat ≤ 2 ^ 12 := Nat.pow_le_pow_right (by decide) (by omega)
  omega
/-! ### Encoding, bit by bit -/
def encR (d : Int) (p : Nat → Int) (s r : Nat) : Nat := encV d.toNat (cof d p) s + (cof d p s % 2 ^ r) * 2 ^ (d.toNat * s)
theorem encR_0 (d : Int) (p : Nat → Int) (s : Nat) : encR d p s 0 = encV d.toNat (cof d p) s := by simp [encR, Nat.mod_one]
theorem encR_end {d : Int} {p : Nat → Int} {s r : Nat} (hr : r = d.toNat) (h1 : ¬ d < 1) (h2 : ¬ 12 < d) : encR d p s r = encV d.toNat (cof d p) (s + 1) := by
  subst hr
  unfold encR
  rw [Nat.mod_eq_of_lt (cof_lt p s h1 h2).1]
  rfl
theorem leB_zero (k : Nat) : leB 0 k = List.replicate k 0 := by
  unfold leB
  rw [List.eq_replicate_iff]
  refine ⟨by simp, fun x hx => ?_⟩
  obtain ⟨i, _, rfl⟩ := List.mem_map.1 hx
  simp
theorem leB_get {v k i : Nat} (h : i < k) : (leB v k).getD i 0 = UInt8.ofNat (v / 2 ^ (8 * i)) := by
  unfold leB
  simp [List.getD, h]
theorem or_bit {V X b : Nat} (hV : V < 2 ^ X) : V ||| (b * 2 ^ X) = V + b * 2 ^ X := by
  rw [Nat.mul_comm, Nat.or_comm, Nat.add_comm, Nat.two_pow_add_eq_or_of_lt hV]
theorem leB_put {V k X b : Nat} (hV : V < 2 ^ X) (hb : b < 2) (hX : X / 8 < k) : (leB V k).set (X / 8) ((leB V k).getD (X / 8) 0 ||| UInt8.ofNat (b * 2 ^ (X % 8))) = leB (V + b * 2 ^ X) k := by
  apply List.ext_getElem?
  intro i
  by_cases hi : i < k
  · have hl : i < (leB V k).length := by rw [leB_len]; exact hi
    have e1 : (leB (V + b * 2 ^ X) k)[i]? = some (UInt8.ofNat ((V + b * 2 ^ X) / 2 ^ (8 * i))) := by simp [leB, hi]
    rw [e1, List.getElem?_set]
    have hX8 : X = 8 * (X / 8) + X % 8 := by omega
    by_cases h : X / 8 = i
    · rw [if_pos h, if_pos (show X / 8 < (leB V k).length by rw [leB_len]; exact hX)]
      congr 1
      rw [leB_get (by omega), h]
      refine UInt8.toNat_inj.1 ?_
      rw [UInt8.toNat_or, UInt8.toNat_ofNat', UInt8.toNat_ofNat', UInt8.toNat_ofNat']
      have hq : V / 2 ^ (8 * i) < 2 ^ (X % 8) := Nat.div_lt_of_lt_mul (by rw [← Nat.pow_add, ← h, ← hX8]; exact hV)
      have h7 : (2 : Nat) ^ (X % 8) ≤ 2 ^ 7 := Nat.pow_le_pow_right (by decide) (by omega)
      have h8 : b * 2 ^ (X % 8) ≤ 1 * 128 := Nat.mul_le_mul (by omega) h7
      have e2 : b * 2 ^ X = b * 2 ^ (X % 8) * 2 ^ (8 * i) := by
        rw [Nat.mul_assoc, ← Nat.pow_add, ← h]
        congr 2
        omega
      rw [e2, Nat.add_mul_div_right _ _ (Nat.pow_pos (by decide))]
      clear e2
      generalize V / 2 ^ (8 * i) = W at *
      rw [Nat.mod_eq_of_lt (show W < 2 ^ 8 by omega), Nat.mod_eq_of_lt (show b * 2 ^ (X % 8) < 2 ^ 8 by omega), or_bit hq]
      have h9 : b * 2 ^ (X % 8) + W < 256 := by
        have : (b + 1) * 2 ^ (X % 8) ≤ 2 * 2 ^ (X % 8) := Nat.mul_le_mul_right _ (by omega)
        rw [Nat.add_mul, Nat.one_mul] at this
        omega
      have h10 : b * 2 ^ (X % 8) + W = W + b * 2 ^ (X % 8) := Nat.add_comm _ _
      exact (Nat.mod_eq_of_lt (show W + b * 2 ^ (X % 8) < 2 ^ 8 by rw [← h10]; exact h9)).symm
    · rw [if_neg h]
      have e2 : (leB V k)[i]? = some (UInt8.ofNat (V / 2 ^ (8 * i))) := by simp [leB, hi]
      rw [e2]
      congr 1
      refine UInt8.toNat_inj.1 ?_
      rw [UInt8.toNat_ofNat', UInt8.toNat_ofNat']
      rcases Nat.lt_or_ge i (X / 8) with hlt | hge
      · obtain ⟨t, ht⟩ : ∃ t, X = 8 * i + (8 + t) := ⟨X - 8 * i - 8, by omega⟩
        rw [ht, Nat.pow_add, Nat.pow_add, Nat.mul_comm (2 ^ (8 * i)), ← Nat.mul_assoc, Nat.add_mul_div_right _ _ (Nat.pow_pos (by decide)), Nat.mul_left_comm, Nat.add_mul_mod_self_left]
      · have h3 : V < 2 ^ (8 * i) := Nat.lt_of_lt_of_le hV (Nat.pow_le_pow_right (by decide) (by omega))
        have h5 : V + b * 2 ^ X < 2 ^ (8 * i) := by
          have h6 : b * 2 ^ X ≤ 1 * 2 ^ X := Nat.mul_le_mul_right _ (by omega)
          have h7 : (2 : Nat) ^ (X + 1) ≤ 2 ^ (8 * i) := Nat.pow_le_pow_right (by decide) (by omega)
          rw [Nat.pow_succ] at h7
          omega
        rw [Nat.div_eq_of_lt h3, Nat.div_eq_of_lt h5]
  · have h1 : (leB (V + b * 2 ^ X) k)[i]? = none := List.getElem?_eq_none (by rw [leB_len]; omega)
    rw [h1]
    exact List.getElem?_eq_none (by rw [List.length_set, leB_len]; omega)
theorem encR_lt {d : Int} (p : Nat → Int) {s r : Nat} (h1 : ¬ d < 1) (h2 : ¬ 12 < d) : encR d p s r < 2 ^ (d.toNat * s + r) := by
  have h3 := encV_lt p h1 h2 s
  have h4 : cof d p s % 2 ^ r < 2 ^ r := Nat.mod_lt _ (Nat.pow_pos (by decide))
  unfold encR
  rw [Nat.pow_add, Nat.mul_comm (2 ^ (d.toNat * s)) (2 ^ r)]
  have h5 : (cof d p s % 2 ^ r + 1) * 2 ^ (d.toNat * s) ≤ 2 ^ r * 2 ^ (d.toNat * s) := Nat.mul_le_mul_right _ h4
  rw [Nat.add_mul, Nat.one_mul] at h5
  omega
theorem encR_step {d : Int} {p : Nat → Int} {s r k : Nat} (hr : r < d.toNat) (h1 : ¬ d < 1) (h2 : ¬ 12 < d) (hs : s < 256) (hk : k = (32 * d).toNat) :
    (leB (encR d p s r) k).set (((s : Int) * d + (r : Int)) / 8).toNat ((leB (encR d p s r) k).getD (((s : Int) * d + (r : Int)) / 8).toNat 0 ||| u8Shl (UInt8.ofInt (iAnd .i64 (iShr .i64 (p s % mOf d) (r : Int).toNat) 1)) (((s : Int) * d + (r : Int)) % 8).toNat) = leB (encR d p s (r + 1)) k := by
  rw [Int.toNat_natCast r]
  have hsd := sd_b hs h1 h2
  have e0 := sd_nat (s := s) (r := r) h1
  have e1 : (((s : Int) * d + (r : Int)) / 8).toNat = (d.toNat * s + r) / 8 := by omega
  have e2 : (((s : Int) * d + (r : Int)) % 8).toNat = (d.toNat * s + r) % 8 := by omega
  obtain ⟨hc1, hc2, hc3⟩ := cof_lt p s h1 h2
  have e3 : UInt8.ofInt (iAnd .i64 (iShr .i64 (p s % mOf d) r) 1) = UInt8.ofNat (cof d p s / 2 ^ r % 2) := by
    have e4 : iShr .i64 (p s % mOf d) r = ((cof d p s / 2 ^ r : Nat) : Int) := by
      rw [shr_pow (by omega), ← hc2]; push_cast; rfl
    have h5 : cof d p s / 2 ^ r ≤ cof d p s := Nat.div_le_self _ _
    rw [e4]
    clear e4
    generalize cof d p s / 2 ^ r = q at *
    rw [and_one (by omega) (by omega)]
    refine UInt8.toNat_inj.1 ?_
    have h9 := Go.Vw.u8_toNat ((q : Int) % 2)
    rw [UInt8.toNat_ofNat']
    omega
  have e5 : u8Shl (UInt8.ofNat (cof d p s / 2 ^ r % 2)) ((d.toNat * s + r) % 8) = UInt8.ofNat (cof d p s / 2 ^ r % 2 * 2 ^ ((d.toNat * s + r) % 8)) := by
    unfold u8Shl
    rw [UInt8.toNat_ofNat', Nat.mod_eq_of_lt (show cof d p s / 2 ^ r % 2 < 2 ^ 8 by omega)]
  have e6 : encR d p s (r + 1) = encR d p s r + cof d p s / 2 ^ r % 2 * 2 ^ (d.toNat * s + r) := by
    unfold encR
    rw [Nat.mod_pow_succ, Nat.add_mul, Nat.pow_add, Nat.add_assoc]
    congr 2
    rw [Nat.mul_comm (2 ^ r), Nat.mul_assoc, Nat.mul_comm (2 ^ (d.toNat * s))]
  rw [e1, e2, e3, e5, e6]
  exact leB_put (encR_lt p h1 h2) (Nat.mod_lt _ (by decide)) (by omega)
theorem encR_b {d : Int} {p : Nat → Int} {s : Nat} (h1 : ¬ d < 1) (h2 : ¬ 12 < d) : 0 ≤ p s % mOf d ∧ p s % mOf d ≤ 4096 := by
  obtain ⟨hc1, hc2, hc3⟩ := cof_lt p s h1 h2
  omega
theorem encF_len {d : Int} {p : Nat → Int} (h1 : ¬ d < 1) (h2 : ¬ 12 < d) : ((encF d p).length : Int) = 32 * d := by
  unfold encF
  rw [if_neg (by omega), leB_len]
  omega
theorem encF_le (d : Int) (p : Nat → Int) : (encF d p).length ≤ 384 := by
  unfold encF
  split
  · simp
  · rw [leB_len]; omega
theorem encF_R {d : Int} {p : Nat → Int} (h1 : ¬ d < 1) (h2 : ¬ 12 < d) : leB (encV d.toNat (cof d p) 256) (32 * d).toNat = encF d p := by
  unfold encF
  rw [if_neg (by omega), show d.toNat * 256 / 8 = (32 * d).toNat by omega]
/-! ### Back and forth -/
theorem leN_leB : ∀ (k v : Nat), leN (leB v k) = v % 2 ^ (8 * k)
  | 0, v => by simp [leB, leN, Nat.mod_one]
  | k + 1, v => by
    have e : leB v (k + 1) = leB v k ++ [UInt8.ofNat (v / 2 ^ (8 * k))] := by
      unfold leB; rw [List.range_succ, List.map_append]; rfl
    rw [e, leN_snoc, leN_leB k v, leB_len, UInt8.toNat_ofNat', Nat.mul_succ, Nat.pow_add, Nat.mod_mul]
    rw [show (2 : Nat) ^ 8 = 256 from rfl, Nat.mul_comm (v / _ % _)]
theorem leB_leN (b : List UInt8) : leB (leN b) b.length = b := by
  apply List.ext_getElem?
  intro i
  by_cases hi : i < b.length
  · have e1 : (leB (leN b) b.length)[i]? = some (UInt8.ofNat (leN b / 2 ^ (8 * i))) := by simp [leB, hi]
    rw [e1, List.getElem?_eq_getElem hi]
    congr 1
    refine UInt8.toNat_inj.1 ?_
    rw [UInt8.toNat_ofNat', show (2 : Nat) ^ 8 = 256 from rfl, leN_byte]
    simp [List.getD, hi]
  · rw [List.getElem?_eq_none (by rw [leB_len]; omega), List.getElem?_eq_none (by omega)]
theorem encV_mod {D : Nat} {c : Nat → Nat} (hc : ∀ j, c j < 2 ^ D) : ∀ (n j : Nat), j < n → encV D c n / 2 ^ (D * j) % 2 ^ D = c j
  | 0, j, h => by omega
  | n + 1, j, h => by
    show (encV D c n + c n * 2 ^ (D * n)) / 2 ^ (D * j) % 2 ^ D = c j
    rcases Nat.lt_or_ge j n with hj | hj
    · obtain ⟨t, ht⟩ : ∃ t, D * n = D * j + (D + t) := ⟨D * n - D * j - D, by
        have := Nat.mul_le_mul_left D (show j + 1 ≤ n by omega)
        rw [Nat.mul_succ] at this
        omega⟩
      rw [ht, Nat.pow_add, Nat.mul_left_comm, Nat.add_mul_div_left _ _ (Nat.pow_pos (by decide)), Nat.pow_add, Nat.mul_left_comm, Nat.add_mul_mod_self_left]
      exact encV_mod hc n j hj
    · obtain rfl : j = n := by omega
      have hlt : ∀ m, encV D c m < 2 ^ (D * m) := by
        intro m
        induction m with
        | zero => simp [encV]
        | succ m ih =>
          show encV D c m + c m * 2 ^ (D * m) < 2 ^ (D * (m + 1))
          rw [Nat.mul_succ, Nat.pow_add, Nat.mul_comm (2 ^ (D * m))]
          have h3 : (c m + 1) * 2 ^ (D * m) ≤ 2 ^ D * 2 ^ (D * m) := Nat.mul_le_mul_right _ (hc m)
          rw [Nat.add_mul, Nat.one_mul] at h3
          omega
      rw [Nat.add_mul_div_right _ _ (Nat.pow_pos (by decide)), Nat.div_eq_of_lt (hlt j), Nat.zero_add, Nat.mod_eq_of_lt (hc j)]
theorem encV_all {D V : Nat} {c : Nat → Nat} : ∀ (n : Nat), (∀ j, j < n → c j = V / 2 ^ (D * j) % 2 ^ D) → encV D c n = V % 2 ^ (D * n)
  | 0, h => by simp [encV, Nat.mod_one]
  | n + 1, h => by
    show encV D c n + c n * 2 ^ (D * n) = _
    rw [encV_all n (fun j hj => h j (by omega)), h n (by omega), Nat.mul_succ, Nat.pow_add, Nat.mod_mul, Nat.mul_comm (2 ^ (D * n))]
theorem dec_enc {d : Int} {p : Nat → Int} (h1 : ¬ d < 1) (h2 : ¬ 12 < d) {j : Nat} (hj : j < 256) : decP d (encF d p) j = p j % mOf d := by
  have hlt := fun j => (cof_lt p j h1 h2)
  have e1 : decN d (encF d p) j = cof d p j := by
    unfold decN
    have hV : encV d.toNat (cof d p) 256 < 2 ^ (8 * (32 * d).toNat) := by
      have := encV_lt p h1 h2 256
      rwa [show 8 * (32 * d).toNat = d.toNat * 256 by omega]
    rw [← encF_R h1 h2, leN_leB, Nat.mod_eq_of_lt hV, encV_mod (fun j => (hlt j).1) 256 j hj]
  unfold decP
  rw [e1, (hlt j).2.1]
  split
  · subst d
    show p j % mOf 12 % 3329 = p j % mOf 12
    unfold mOf
    rw [if_pos rfl]
    omega
  · rfl
theorem enc_dec {d : Int} {b : List UInt8} (h1 : ¬ d < 1) (h2 : d < 12) (hb : (b.length : Int) = 32 * d) : encF d (decP d b) = b := by
  have hm := mOf_b (d := d) h1 (by omega)
  have e1 : encV d.toNat (cof d (decP d b)) 256 = leN b := by
    rw [encV_all (V := leN b) 256 (fun j hj => ?_)]
    · exact Nat.mod_eq_of_lt (by have := leN_lt b; rwa [show 8 * b.length = d.toNat * 256 by omega] at this)
    · show (decP d b j % mOf d).toNat = decN d b j
      have h3 : decN d b j < 2 ^ d.toNat := Nat.mod_lt _ (Nat.pow_pos (by decide))
      have h4 : ((2 ^ d.toNat : Nat) : Int) = 2 ^ d.toNat := by simp
      unfold decP mOf
      rw [if_neg (by omega), if_neg (by omega), Int.emod_eq_of_lt (by omega) (by omega)]
      omega
  rw [← encF_R h1 (by omega), e1, show (32 * d).toNat = b.length by omega, leB_leN]
/-! ### Near -/
theorem eleven {k : Int} (h1 : 1 ≤ k) (h2 : k ≤ 11) : k = 1 ∨ k = 2 ∨ k = 3 ∨ k = 4 ∨ k = 5 ∨ k = 6 ∨ k = 7 ∨ k = 8 ∨ k = 9 ∨ k = 10 ∨ k = 11 := by omega
theorem sq_rng {k x : Int} (h1 : 1 ≤ k) (h2 : k ≤ 11) : 0 ≤ sqF k x ∧ sqF k x < iShl .i64 1 k.toNat := by
  obtain ⟨a1, a2, a3, a4, a5, a6⟩ := sq_shl x (d := k) (by omega) (by omega)
  unfold sqF
  rw [if_neg (by omega), a4]
  exact ⟨Int.emod_nonneg _ (by omega), Int.emod_lt_of_pos _ (by omega)⟩
theorem pow_h {k : Int} (h1 : 1 ≤ k) (h2 : k ≤ 11) : (2 : Int) ^ k.toNat = 2 * 2 ^ (k.toNat - 1) ∧ (1 : Int) ≤ 2 ^ (k.toNat - 1) ∧ (2 : Int) ^ (k.toNat - 1) ≤ 1024 := by
  have hp := pow11 (d := k) (by omega) (by omega)
  have : (2 : Int) ^ k.toNat = 2 ^ (k.toNat - 1) * 2 := by
    rw [← Int.pow_succ]
    congr 1
    omega
  omega
theorem near {k x : Int} (h1 : 1 ≤ k) (h2 : k ≤ 11) (h3 : 0 ≤ x) (h4 : x < 3329) : 0 ≤ stF k (sqF k x) ∧ stF k (sqF k x) < 3329 ∧
    (x - stF k (sqF k x) ≤ (3329 + iShl .i64 1 k.toNat) / iShl .i64 2 k.toNat ∨ 3329 - (x - stF k (sqF k x)) ≤ (3329 + iShl .i64 1 k.toNat) / iShl .i64 2 k.toNat) ∧
    (stF k (sqF k x) - x ≤ (3329 + iShl .i64 1 k.toNat) / iShl .i64 2 k.toNat ∨ 3329 - (stF k (sqF k x) - x) ≤ (3329 + iShl .i64 1 k.toNat) / iShl .i64 2 k.toNat) := by
  obtain ⟨a1, a2, a3, a4, a5, a6⟩ := sq_shl x (d := k) (by omega) (by omega)
  have e2 : iShl .i64 2 k.toNat = 2 * 2 ^ k.toNat := shl_pow (by decide) (by omega) (by omega)
  obtain ⟨p1, p2, p3⟩ := pow_h h1 h2
  rw [a4, e2]
  have e3 : sqF k x = (x * 2 ^ k.toNat + 1664) / 3329 % 2 ^ k.toNat := by unfold sqF; rw [if_neg (by omega), Int.emod_eq_of_lt h3 h4]
  have e4 : stF k (sqF k x) = (sqF k x * 3329 + 2 ^ (k.toNat - 1)) / 2 ^ k.toNat := by
    unfold stF
    rw [if_neg (by omega), e3, Int.emod_emod_of_dvd _ (Int.dvd_refl _)]
  rw [Int.emod_eq_of_lt h3 h4] at a2 a3
  have hxK : x * 2 ^ k.toNat ≤ 3328 * 2 ^ k.toNat := Int.mul_le_mul_of_nonneg_right (by omega) (by omega)
  clear a1 a4 e2
  generalize (2 : Int) ^ (k.toNat - 1) = H at *
  generalize (2 : Int) ^ k.toNat = K at *
  have hXx : x * K = x * K := rfl
  obtain ⟨X, hX⟩ : ∃ X, x * K = X := ⟨_, rfl⟩
  rw [hX] at e3 a2 a3 hxK
  rcases Int.lt_or_le ((X + 1664) / 3329) K with ht | ht
  · have e5 : sqF k x = (X + 1664) / 3329 := by rw [e3, Int.emod_eq_of_lt (by omega) ht]
    rw [e5] at e4
    rw [e5, e4]
    obtain ⟨t, ht2⟩ : ∃ t, (X + 1664) / 3329 = t := ⟨_, rfl⟩
    rw [ht2] at ht ⊢
    have hy0 : 0 ≤ (t * 3329 + H) / K := Int.ediv_nonneg (by omega) (by omega)
    have hz1 := Int.ediv_mul_le (t * 3329 + H) (show K ≠ 0 by omega)
    have hz2 := Int.lt_ediv_add_one_mul_self (t * 3329 + H) (show 0 < K by omega)
    have hy1 : (t * 3329 + H) / K < 3329 := Int.ediv_lt_of_lt_mul (by omega) (by omega)
    generalize (t * 3329 + H) / K = y at *
    rw [Int.add_mul, Int.one_mul] at hz2
    refine ⟨hy0, hy1, .inl ?_, .inl ?_⟩
    · rw [Int.le_ediv_iff_mul_le (by omega), Int.mul_left_comm, Int.sub_mul, hX]
      omega
    · rw [Int.le_ediv_iff_mul_le (by omega), Int.mul_left_comm, Int.sub_mul, hX]
      omega
  · have e6 : (X + 1664) / 3329 = K := by omega
    have e5 : sqF k x = 0 := by rw [e3, e6, Int.emod_self]
    have e7 : stF k (sqF k x) = 0 := by rw [e4, e5, Int.zero_mul, Int.zero_add]; exact Int.ediv_eq_zero_of_lt (by omega) (by omega)
    rw [e7]
    have hB : 0 ≤ (3329 + K) / (2 * K) := Int.ediv_nonneg (by omega) (by omega)
    refine ⟨by omega, by omega, .inr ?_, .inl (by omega)⟩
    rw [Int.le_ediv_iff_mul_le (by omega), Int.mul_left_comm, Int.sub_zero, Int.sub_mul, hX]
    omega
theorem back {k n : Int} (h1 : 1 ≤ k) (h2 : k ≤ 11) (h3 : 0 ≤ n) : sqF k (stF k (n % iShl .i64 1 k.toNat)) = n % iShl .i64 1 k.toNat := by
  obtain ⟨a1, a2, a3, a4, a5, a6⟩ := sq_shl n (d := k) (by omega) (by omega)
  obtain ⟨p1, p2, p3⟩ := pow_h h1 h2
  rw [a4]
  unfold sqF stF
  rw [if_neg (by omega), if_neg (by omega)]
  clear a1 a2 a3 a4
  generalize (2 : Int) ^ (k.toNat - 1) = H at *
  generalize (2 : Int) ^ k.toNat = K at *
  rw [Int.emod_emod_of_dvd _ (Int.dvd_refl _)]
  have hm0 := Int.emod_nonneg n (show K ≠ 0 by omega)
  have hm1 := Int.emod_lt_of_pos n (show 0 < K by omega)
  generalize n % K = m at *
  have hy0 : 0 ≤ (m * 3329 + H) / K := Int.ediv_nonneg (by omega) (by omega)
  have hz1 := Int.ediv_mul_le (m * 3329 + H) (show K ≠ 0 by omega)
  have hz2 := Int.lt_ediv_add_one_mul_self (m * 3329 + H) (show 0 < K by omega)
  have hy1 : (m * 3329 + H) / K < 3329 := Int.ediv_lt_of_lt_mul (by omega) (by omega)
  generalize (m * 3329 + H) / K = y at *
  rw [Int.add_mul, Int.one_mul] at hz2
  rw [Int.emod_eq_of_lt hy0 hy1]
  have e : (y * K + 1664) / 3329 = m := by omega
  rw [e, Int.emod_eq_of_lt hm0 hm1]
theorem dec_ok {d : Int} {b : List UInt8} (h1 : ¬ d < 1) (h2 : ¬ 12 < d) : decide ((decF d b).2 = 0) = decide ((b.length : Int) = 32 * d) := by
  unfold decF
  rw [if_neg (by omega)]
  by_cases h : (b.length : Int) = 32 * d
  · rw [if_neg (by omega)]; simp [h]
  · rw [if_pos h]; simp [h]
theorem back_put {p : Nat → Int} {m : Int} {s : Nat} {x : Int} (hx : x = p s % m) (j : Nat) : PV.v (.int .i64 (if j = s then x else if j < s then p j % m else p j)) = PV.v (.int .i64 (if j < s + 1 then p j % m else p j)) := by
  subst hx
  by_cases h : j = s
  · subst h; rw [if_pos rfl, if_pos (by omega)]
  · rw [if_neg h]
    by_cases h2 : j < s
    · rw [if_pos h2, if_pos (by omega)]
    · rw [if_neg h2, if_neg (by omega)]
theorem enc_dec2 {d : Int} {b : List UInt8} (h1 : ¬ d < 1) (h2 : d < 12) (h : (decF d b).2 = 0) : encF d (fun j => (decF d b).1 (0 + j)) = b := by
  have hl : (b.length : Int) = 32 * d := by
    have := dec_ok (b := b) h1 (show ¬ 12 < d by omega)
    rw [h] at this
    simpa using this.symm
  have e : (fun j => (decF d b).1 (0 + j)) = decP d b := by
    funext j
    rw [Nat.zero_add]
    unfold decF
    rw [if_neg (by omega), if_neg (by omega)]
  rw [e]
  exact enc_dec h1 h2 hl
def P1 (d : Int) (p : Nat → Int) : Nat → Int := fun j => if j < 256 then p j % mOf d else p j
theorem back_fin {d : Int} {p : Nat → Int} (h1 : ¬ d < 1) (h2 : ¬ 12 < d) : ((encF d (P1 d p)).length : Int) = 32 * d ∧ (decF d (encF d (P1 d p))).2 = 0 ∧ ∀ j, j < 256 → (decF d (encF d (P1 d p))).1 j = P1 d p j := by
  have hl := encF_len (p := P1 d p) h1 h2
  have hd : decF d (encF d (P1 d p)) = (decP d (encF d (P1 d p)), 0) := by
    unfold decF
    rw [if_neg (by omega), if_neg (by omega)]
  refine ⟨hl, by rw [hd], fun j hj => ?_⟩
  rw [hd]
  show decP d (encF d (P1 d p)) j = P1 d p j
  rw [dec_enc h1 h2 hj]
  unfold P1
  rw [if_pos hj, Int.emod_emod_of_dvd _ (Int.dvd_refl _)]
def P0 : Nat → Int := fun j => if j = 0 then 5 else 0
theorem encV_one {D : Nat} {c : Nat → Nat} (h : ∀ j, 0 < j → c j = 0) : ∀ n, encV D c (n + 1) = c 0
  | 0 => by simp [encV]
  | n + 1 => by
    show encV D c (n + 1) + c (n + 1) * 2 ^ (D * (n + 1)) = _
    rw [encV_one h n, h (n + 1) (by omega), Nat.zero_mul, Nat.add_zero]
theorem head_enc : (encF 4 P0).length = 128 ∧ (encF 4 P0).getD 0 0 = 5 ∧ (decF 4 (encF 4 P0)).2 = 0 ∧ ∀ j, j < 256 → (decF 4 (encF 4 P0)).1 j = P0 j := by
  have hl := encF_len (d := 4) (p := P0) (by decide) (by decide)
  have hm : mOf 4 = 16 := by decide
  have hd : decF 4 (encF 4 P0) = (decP 4 (encF 4 P0), 0) := by
    unfold decF
    rw [if_neg (by decide), if_neg (by omega)]
  have hP : ∀ j, P0 j % 16 = P0 j := by intro j; unfold P0; split <;> rfl
  refine ⟨by omega, ?_, by rw [hd], fun j hj => ?_⟩
  · rw [← encF_R (by decide) (by decide), leB_get (by decide), encV_one (n := 255) (fun j hj => ?_)]
    · have : cof 4 P0 0 = 5 := by unfold cof; rw [hm]; rfl
      rw [this]; rfl
    · unfold cof P0
      rw [if_neg (by omega)]; rfl
  · rw [hd]
    show decP 4 (encF 4 P0) j = P0 j
    rw [dec_enc (by decide) (by decide) hj, hm, hP]
theorem sh_b {k : Int} (h1 : 1 ≤ k) (h2 : k ≤ 11) : 2 ≤ iShl .i64 1 k.toNat ∧ iShl .i64 1 k.toNat ≤ 2048 ∧ 4 ≤ iShl .i64 2 k.toNat ∧ iShl .i64 2 k.toNat ≤ 4096 := by
  obtain ⟨a1, a2, a3, a4, a5, a6⟩ := sq_shl 0 (d := k) (by omega) (by omega)
  have e2 : iShl .i64 2 k.toNat = 2 * 2 ^ k.toNat := shl_pow (by decide) (by omega) (by omega)
  rw [a4, e2]
  omega
theorem u8_11 (d : UInt8) : ((d % 11).toNat : Int) ≤ 10 := by
  rw [UInt8.toNat_mod]
  have := Nat.mod_lt d.toNat (show 0 < (11 : UInt8).toNat by decide)
  have h : (11 : UInt8).toNat = 11 := rfl
  omega
theorem u8_12 (d : UInt8) : ((d % 12).toNat : Int) ≤ 11 := by
  rw [UInt8.toNat_mod]
  have := Nat.mod_lt d.toNat (show 0 < (12 : UInt8).toNat by decide)
  have h : (12 : UInt8).toNat = 12 := rfl
  omega
end Go.Vk

/- Small numbers (plain). -/
namespace Go.Vk
open Go Go.Vc
def mN (x : Nat) : Int := ([0, 1, 1, 2] : List Int).getD x 0
def fourF (b : List UInt8) (j : Nat) : UInt8 := u8Shr (b.getD (j / 2) 0) (j % 2 * 4)
def cnP (b : List UInt8) (j : Nat) : Int := mN (fourF b j &&& 3).toNat - mN (u8Shr (fourF b j) 2 &&& 3).toNat
def cenF (b : List UInt8) : (Nat → Int) × Int := if b.length ≠ 128 then (fun _ => 0, 1) else (fun j => cnP b j % 3329, 0)
theorem u8_3 : ∀ a : Fin 256, ((UInt8.ofNat a.val) &&& 3).toNat < 4 := by decide +kernel
theorem and3 (a : UInt8) : (a &&& 3).toNat < 4 := by
  have := u8_3 ⟨a.toNat, a.toNat_lt⟩
  simpa using this
theorem mN_b : ∀ x, 0 ≤ mN x ∧ mN x ≤ 2 := fun x => by
  match x with
  | 0 | 1 | 2 | 3 => decide
  | n + 4 => exact ⟨Int.le_refl _, by show (0 : Int) ≤ 2; decide⟩
theorem cnP_b (b : List UInt8) (j : Nat) : -2 ≤ cnP b j ∧ cnP b j ≤ 2 := by
  have h1 := mN_b (fourF b j &&& 3).toNat
  have h2 := mN_b (u8Shr (fourF b j) 2 &&& 3).toNat
  unfold cnP
  omega
theorem each_put {a b : Nat → Int} {s : Nat} (j : Nat) : PV.v (.int .i64 (if j = s then (b s % 3329) % 3329 else if j < s then b j % 3329 else a j)) = PV.v (.int .i64 (if j < s + 1 then b j % 3329 else a j)) := by
  congr 2
  by_cases h : j = s
  · subst h; rw [if_pos rfl, if_pos (by omega)]; omega
  · rw [if_neg h]
    by_cases h2 : j < s
    · rw [if_pos h2, if_pos (by omega)]
    · rw [if_neg h2, if_neg (by omega)]
theorem cn_put {b : List UInt8} {s : Nat} (j : Nat) : PV.v (.int .i64 (if j = s then cnP b s else if j < s then cnP b j else 0)) = PV.v (.int .i64 (if j < s + 1 then cnP b j else 0)) := by
  congr 2
  by_cases h : j = s
  · subst h; rw [if_pos rfl, if_pos (by omega)]
  · rw [if_neg h]
    by_cases h2 : j < s
    · rw [if_pos h2, if_pos (by omega)]
    · rw [if_neg h2, if_neg (by omega)]
theorem four_eq (b : List UInt8) (s : Nat) : u8Shr (b.getD (s / 2) 0) (((s : Int) % 2 * 4).toNat) = fourF b s := by
  unfold fourF
  rw [show ((s : Int) % 2 * 4).toNat = s % 2 * 4 by omega]
end Go.Vk

/- The law of small numbers (plain). -/
namespace Go.Vk
open Go Go.Vc
theorem cen_2 (b : List UInt8) : (cenF b).2 = 0 ↔ b.length = 128 := by
  unfold cenF
  split
  · rename_i h; exact ⟨fun h2 => absurd h2 (by decide), fun h2 => absurd h2 h⟩
  · rename_i h; exact ⟨fun _ => by omega, fun _ => rfl⟩
theorem cen_b (b : List UInt8) (j : Nat) : 0 ≤ (cenF b).1 j ∧ (cenF b).1 j < 3329 ∧ ((cenF b).1 j ≤ 2 ∨ 3327 ≤ (cenF b).1 j) := by
  unfold cenF
  split
  · show (0 : Int) ≤ 0 ∧ (0 : Int) < 3329 ∧ ((0 : Int) ≤ 2 ∨ (3327 : Int) ≤ 0)
    decide
  · have := cnP_b b j
    show 0 ≤ cnP b j % 3329 ∧ cnP b j % 3329 < 3329 ∧ (cnP b j % 3329 ≤ 2 ∨ 3327 ≤ cnP b j % 3329)
    omega
def sm (c : UInt8) : UInt8 := (c &&& 3) ||| u8Shl (c &&& 3) 2 ||| u8Shl (c &&& 3) 4 ||| u8Shl (c &&& 3) 6
theorem sm_all : ∀ a : Fin 256, (sm (UInt8.ofNat a.val) &&& 3) = (u8Shr (sm (UInt8.ofNat a.val)) 2 &&& 3) ∧ (u8Shr (sm (UInt8.ofNat a.val)) 4 &&& 3) = (u8Shr (u8Shr (sm (UInt8.ofNat a.val)) 4) 2 &&& 3) := by decide +kernel
theorem sm_ok (c : UInt8) : (sm c &&& 3) = (u8Shr (sm c) 2 &&& 3) ∧ (u8Shr (sm c) 4 &&& 3) = (u8Shr (u8Shr (sm c) 4) 2 &&& 3) := by
  have := sm_all ⟨c.toNat, c.toNat_lt⟩
  simpa using this
theorem shr0 (x : UInt8) : u8Shr x 0 = x := by unfold u8Shr; simp
theorem sm_nought (c : UInt8) (j : Nat) (hj : j < 256) : (cenF (List.replicate 128 (sm c))).1 j = 0 := by
  unfold cenF
  rw [if_neg (by simp)]
  show cnP _ j % 3329 = 0
  have h1 : (List.replicate 128 (sm c)).getD (j / 2) 0 = sm c := by
    rw [List.getD_eq_getElem?_getD, List.getElem?_replicate, if_pos (by omega)]; rfl
  have h2 : (fourF (List.replicate 128 (sm c)) j &&& 3) = (u8Shr (fourF (List.replicate 128 (sm c)) j) 2 &&& 3) := by
    unfold fourF
    rw [h1]
    obtain ⟨e1, e2⟩ := sm_ok c
    rcases (show j % 2 = 0 ∨ j % 2 = 1 by omega) with h | h <;> rw [h]
    · rw [Nat.zero_mul, shr0]; exact e1
    · exact e2
  unfold cnP
  rw [← h2]
  omega
def smL (c : UInt8) (s : Nat) : List UInt8 := List.replicate s (sm c) ++ List.replicate (128 - s) 0
theorem smL_len (c : UInt8) {s : Nat} (h : s ≤ 128) : (smL c s).length = 128 := by unfold smL; simp; omega
theorem smL_0 (c : UInt8) : List.replicate 128 0 = smL c 0 := by unfold smL; simp
theorem smL_128 (c : UInt8) : smL c 128 = List.replicate 128 (sm c) := by unfold smL; simp
theorem smL_set (c : UInt8) {s : Nat} (h : s < 128) : (smL c s).set s (sm c) = smL c (s + 1) := by
  unfold smL
  rw [List.set_append_right _ _ (by simp), List.length_replicate, Nat.sub_self, show 128 - s = (128 - (s + 1)) + 1 by omega, List.replicate_succ, List.set_cons_zero, List.replicate_succ', List.append_assoc]
  rfl
end Go.Vk
