/- What is proved: plain facts on lists of bytes and on numbers, for the laws of this seat; no condition. -/
import Derived.Test.YtmlkellnophlaaaDoorFrame2
set_option linter.unusedVariables false
set_option linter.unusedSimpArgs false
/- The plain law of layer 11: numbers, lengths, texts, lists, as plain functions. -/
set_option linter.unusedVariables false
namespace Go.Vw
open Go Go.Vc

/-! ### Numbers -/
def fitsF (n : Int) : Bool := decide (n = 1 ∨ n = 2 ∨ n = 4 ∨ n = 8)
theorem fitsT {n : Int} (h : fitsF n = true) : n = 1 ∨ n = 2 ∨ n = 4 ∨ n = 8 := by simpa [fitsF] using h
theorem fitsN {n : Int} (h : fitsF n = false) : ¬ (n = 1 ∨ n = 2 ∨ n = 4 ∨ n = 8) := by simpa [fitsF] using h
theorem fits_t {n : Int} (h : n = 1 ∨ n = 2 ∨ n = 4 ∨ n = 8) : true = fitsF n := by simp [fitsF, h]
theorem fits_f {n : Int} (h : ¬ (n = 1 ∨ n = 2 ∨ n = 4 ∨ n = 8)) : false = fitsF n := by simp only [fitsF]; exact (decide_eq_false h).symm

/-- The number that bytes are, the first the greatest. -/
def beN (l : List UInt8) : Nat := l.foldl (fun n c => n * 256 + c.toNat) 0
theorem beN_nil : beN [] = 0 := rfl
theorem beN_snoc (l : List UInt8) (c : UInt8) : beN (l ++ [c]) = beN l * 256 + c.toNat := by simp [beN, List.foldl_append]
theorem beN_take {l : List UInt8} {s : Nat} (h : s < l.length) : beN (l.take (s + 1)) = beN (l.take s) * 256 + (l.getD s 0).toNat := by
  rw [List.take_add_one, List.getElem?_eq_getElem h, List.getD_eq_getElem?_getD, List.getElem?_eq_getElem h]
  exact beN_snoc _ _
theorem foldl_be (l : List UInt8) (a : Nat) : l.foldl (fun n c => n * 256 + c.toNat) a = a * 256 ^ l.length + beN l := by
  induction l generalizing a with
  | nil => simp [beN]
  | cons c r ih =>
    simp only [List.foldl_cons, beN, List.length_cons]
    rw [ih, ih (0 * 256 + c.toNat)]
    rw [Nat.pow_succ, Nat.add_mul]
    simp only [Nat.zero_mul, Nat.zero_add]
    rw [Nat.mul_assoc, Nat.mul_comm 256]
    omega
theorem beN_cons (c : UInt8) (l : List UInt8) : beN (c :: l) = c.toNat * 256 ^ l.length + beN l := by
  show l.foldl _ (0 * 256 + c.toNat) = _
  rw [foldl_be]; simp
theorem beN_append (l m : List UInt8) : beN (l ++ m) = beN l * 256 ^ m.length + beN m := by
  show (l ++ m).foldl _ 0 = _
  rw [List.foldl_append, foldl_be]; rfl
theorem beN_lt (l : List UInt8) : beN l < 256 ^ l.length := by
  induction l with
  | nil => simp [beN]
  | cons c r ih =>
    rw [beN_cons, List.length_cons, Nat.pow_succ]
    have := c.toNat_lt
    have h1 : c.toNat * 256 ^ r.length ≤ 255 * 256 ^ r.length := Nat.mul_le_mul_right _ (by omega)
    omega

/-! ### 64 bits -/
theorem i64_eq (n : Int) : IntKind.i64.wrap n = if 9223372036854775808 ≤ n % 18446744073709551616 then n % 18446744073709551616 - 18446744073709551616 else n % 18446744073709551616 := by
  simp [IntKind.wrap, IntKind.bits, IntKind.signed]
theorem i64_mod (n : Int) : IntKind.i64.wrap n % 18446744073709551616 = n % 18446744073709551616 := by
  rw [i64_eq]; split <;> omega
theorem i64_congr {a b : Int} (h : a % 18446744073709551616 = b % 18446744073709551616) : IntKind.i64.wrap a = IntKind.i64.wrap b := by
  rw [i64_eq, i64_eq, h]
theorem ofInt_congr {a b : Int} (h : a % 18446744073709551616 = b % 18446744073709551616) : BitVec.ofInt 64 a = BitVec.ofInt 64 b := by
  apply BitVec.eq_of_toNat_eq
  simp only [BitVec.toNat_ofInt]
  have e : ((2 ^ 64 : Nat) : Int) = 18446744073709551616 := by decide
  rw [e, h]
theorem ofInt_nat (n : Nat) : BitVec.ofInt 64 (n : Int) = BitVec.ofNat 64 n := by simp
set_option maxRecDepth 100000 in
theorem or_byte (m c : Nat) (hc : c < 256) : BitVec.ofNat 64 (m * 256) ||| BitVec.ofNat 64 c = BitVec.ofNat 64 (m * 256 + c) := by
  apply BitVec.eq_of_toNat_eq
  simp only [BitVec.toNat_or, BitVec.toNat_ofNat, Nat.reducePow]
  have e1 : c % 18446744073709551616 = c := Nat.mod_eq_of_lt (by omega)
  have e2 : m * 256 % 18446744073709551616 = (m % 72057594037927936) <<< 8 := by simp only [Nat.shiftLeft_eq, Nat.reducePow]; omega
  have e3 : (m * 256 + c) % 18446744073709551616 = (m % 72057594037927936) <<< 8 + c := by simp only [Nat.shiftLeft_eq, Nat.reducePow]; omega
  rw [e1, e2, e3, Nat.shiftLeft_add_eq_or_of_lt (by simpa using hc)]
/-- One byte more, in 64 bits. -/
theorem i64_step (m : Nat) (c : UInt8) : iOr .i64 (iShl .i64 (IntKind.i64.wrap (m : Int)) 8) (c.toNat : Int) = IntKind.i64.wrap ((m * 256 + c.toNat : Nat) : Int) := by
  have hc := c.toNat_lt
  have e1 : iShl .i64 (IntKind.i64.wrap (m : Int)) 8 = IntKind.i64.wrap ((m * 256 : Nat) : Int) := by
    show IntKind.i64.wrap (IntKind.i64.wrap (m : Int) * 256) = _
    apply i64_congr
    have := i64_mod m
    omega
  rw [e1]
  show IntKind.i64.wrap ((BitVec.ofInt 64 (IntKind.i64.wrap ((m * 256 : Nat) : Int)) ||| BitVec.ofInt 64 (c.toNat : Int)).toNat : Int) = _
  rw [ofInt_congr (i64_mod _), ofInt_nat, ofInt_nat, or_byte _ _ hc]
  apply i64_congr
  simp only [BitVec.toNat_ofNat, Nat.reducePow]
  omega

/-! ### Numbers that are read -/
def getF (b : List UInt8) (i n : Int) : Int × Int × Int :=
  if i < 0 ∨ (b.length : Int) < i ∨ ¬ (n = 1 ∨ n = 2 ∨ n = 4 ∨ n = 8) then (0, 0, 1)
  else if (b.length : Int) - i < n then (0, 0, 111)
  else if 9223372036854775808 ≤ beN ((b.take (i + n).toNat).drop i.toNat) then (0, 0, 112)
  else ((beN ((b.take (i + n).toNat).drop i.toNat) : Int), i + n, 0)
theorem getF_arg {b : List UInt8} {i n : Int} (h : i < 0 ∨ (b.length : Int) < i ∨ ¬ (n = 1 ∨ n = 2 ∨ n = 4 ∨ n = 8)) : getF b i n = (0, 0, 1) := if_pos h
theorem getF_end {b : List UInt8} {i n : Int} (h : 0 ≤ i) (h1 : i ≤ b.length) (h2 : n = 1 ∨ n = 2 ∨ n = 4 ∨ n = 8) (h3 : (b.length : Int) - i < n) : getF b i n = (0, 0, 111) := by
  unfold getF; rw [if_neg (by omega), if_pos h3]
theorem beN_small {l : List UInt8} {n : Nat} (h : l.length ≤ n) (h8 : n ≤ 8) : beN l < 18446744073709551616 := by
  refine Nat.lt_of_lt_of_le (beN_lt l) ?_
  exact Nat.le_trans (Nat.pow_le_pow_right (by omega) (Nat.le_trans h h8)) (by decide)
theorem cut_len {b : List UInt8} {i n : Int} (h : 0 ≤ i) (hn : 0 ≤ n) (h3 : n ≤ (b.length : Int) - i) : ((b.take (i + n).toNat).drop i.toNat).length = n.toNat := by
  simp; omega
theorem getF_long {b : List UInt8} {i n : Int} (h : 0 ≤ i) (h1 : i ≤ b.length) (h2 : n = 1 ∨ n = 2 ∨ n = 4 ∨ n = 8) (h3 : n ≤ (b.length : Int) - i) (h4 : IntKind.i64.wrap (beN ((b.take (i + n).toNat).drop i.toNat) : Int) < 0) : getF b i n = (0, 0, 112) := by
  have hs := @beN_small ((b.take (i + n).toNat).drop i.toNat) 8 (by rw [cut_len h (by omega) h3]; omega) (by omega)
  rw [i64_eq] at h4
  unfold getF; rw [if_neg (by omega), if_neg (by omega), if_pos]
  split at h4 <;> omega
theorem getF_ok {b : List UInt8} {i n : Int} (h : 0 ≤ i) (h1 : i ≤ b.length) (h2 : n = 1 ∨ n = 2 ∨ n = 4 ∨ n = 8) (h3 : n ≤ (b.length : Int) - i) (h4 : ¬ IntKind.i64.wrap (beN ((b.take (i + n).toNat).drop i.toNat) : Int) < 0) :
    getF b i n = (IntKind.i64.wrap (beN ((b.take (i + n).toNat).drop i.toNat) : Int), i + n, 0) := by
  have hs := @beN_small ((b.take (i + n).toNat).drop i.toNat) 8 (by rw [cut_len h (by omega) h3]; omega) (by omega)
  have e : IntKind.i64.wrap (beN ((b.take (i + n).toNat).drop i.toNat) : Int) = (beN ((b.take (i + n).toNat).drop i.toNat) : Int) := by
    rw [i64_eq] at h4 ⊢
    split at h4 <;> rename_i h5
    · omega
    · rw [if_neg h5]; omega
  unfold getF; rw [if_neg (by omega), if_neg (by omega), if_neg, e]
  rw [i64_eq] at h4
  split at h4 <;> omega

/-! ### Numbers that are written -/
def numB (n : Int) (k : Nat) : List UInt8 := (List.range k).map fun j => UInt8.ofInt (n / 256 ^ (k - 1 - j))
def numF (n size : Int) : List UInt8 :=
  if ¬ (size = 1 ∨ size = 2 ∨ size = 4 ∨ size = 8) ∨ n < 0 ∨ (size < 8 ∧ (256 : Int) ^ size.toNat ≤ n) then [] else numB n size.toNat
theorem numB_len (n : Int) (k : Nat) : (numB n k).length = k := by simp [numB]
theorem numF_len (n k : Int) : (numF n k).length ≤ 8 := by
  unfold numF; split
  · simp
  · rw [numB_len]; omega
theorem numB_get {n : Int} {k j : Nat} (h : j < k) : (numB n k)[j]? = some (UInt8.ofInt (n / 256 ^ (k - 1 - j))) := by simp [numB, h]
theorem shr_byte (n : Int) (j : Nat) (h : j ≤ 8) : iShr .i64 n (8 * j) = n / 256 ^ j := by
  simp only [iShr, IntKind.bits]
  rw [Nat.min_eq_left (by omega)]
  congr 1
  rw [Int.pow_mul]; rfl
theorem shl_one {k : Int} (hk : k = 1 ∨ k = 2 ∨ k = 4) : iShl .i64 1 (8 * k).toNat = (256 : Int) ^ k.toNat := by
  rcases hk with rfl | rfl | rfl <;> decide
theorem numB_step {n : Int} {k s : Nat} (h : s < k) (h8 : k ≤ 8) : (List.replicate (k - s) 0 ++ (numB n k).drop (k - s)).set (k - 1 - s) (UInt8.ofInt (iShr .i64 n (8 * s))) = List.replicate (k - (s + 1)) 0 ++ (numB n k).drop (k - (s + 1)) := by
  rw [shr_byte n s (by omega)]
  apply List.ext_getElem?
  intro j
  have hl := numB_len n k
  rcases Nat.lt_trichotomy j (k - 1 - s) with h1 | h1 | h1
  · rw [List.getElem?_set_ne (by omega), List.getElem?_append_left (by simp; omega), List.getElem?_append_left (by simp; omega)]
    simp [show j < k - s by omega, show j < k - (s + 1) by omega]
  · subst h1
    rw [List.getElem?_set_self (by simp [hl]; omega), List.getElem?_append_right (by simp; omega), List.getElem?_drop, numB_get (by simp; omega)]
    congr 4
    simp; omega
  · rw [List.getElem?_set_ne (by omega), List.getElem?_append_right (by simp; omega), List.getElem?_append_right (by simp; omega), List.getElem?_drop, List.getElem?_drop]
    congr 1
    simp; omega
theorem numF_bad {n k : Int} (h : ¬ (k = 1 ∨ k = 2 ∨ k = 4 ∨ k = 8) ∨ n < 0) : numF n k = [] := by
  unfold numF; rw [if_pos]; omega
theorem numF_big {n k : Int} (h : k = 1 ∨ k = 2 ∨ k = 4) (h2 : iShl .i64 1 (8 * k).toNat ≤ n) : numF n k = [] := by
  rw [shl_one h] at h2
  unfold numF; rw [if_pos]; exact .inr (.inr ⟨by omega, h2⟩)
theorem numF_ok {n k : Int} (h : k = 1 ∨ k = 2 ∨ k = 4 ∨ k = 8) (h1 : 0 ≤ n) (h2 : ¬ (k < 8 ∧ iShl .i64 1 (8 * k).toNat ≤ n)) : numF n k = numB n k.toNat := by
  unfold numF; rw [if_neg]
  rintro (h3 | h3 | ⟨h3, h4⟩)
  · exact h3 h
  · omega
  · refine h2 ⟨h3, ?_⟩
    rw [shl_one (by omega)]; exact h4
theorem num_step {n k : Int} {s : Nat} (h : s < k.toNat) (h8 : k ≤ 8) : (List.replicate (k.toNat - s) 0 ++ (numB n k.toNat).drop (k.toNat - s)).set (k - 1 - (s : Int)).toNat (UInt8.ofInt (iShr .i64 n (8 * (s : Int)).toNat)) = List.replicate (k.toNat - (s + 1)) 0 ++ (numB n k.toNat).drop (k.toNat - (s + 1)) := by
  rw [show (k - 1 - (s : Int)).toNat = k.toNat - 1 - s from by omega, show (8 * (s : Int)).toNat = 8 * s from by omega]
  exact numB_step h (by omega)
theorem num_fin {n k : Int} {s : Nat} (h : s = k.toNat) : List.replicate (k.toNat - s) (0 : UInt8) ++ (numB n k.toNat).drop (k.toNat - s) = numB n k.toNat := by
  subst h; simp
end Go.Vw

/- The plain law of layer 11, continued: lengths, texts, lists. -/
set_option linter.unusedVariables false
namespace Go.Vw
open Go Go.Vc

/-! ### Lengths -/
def tblI (k : Int) : Int := ([6, 14, 30] : List Int).getD k.toNat 0
theorem shl_tbl {k : Int} (h0 : 0 ≤ k) (h : k < 3) : 64 ≤ iShl .i64 1 (([6, 14, 30] : List Int).getD k.toNat 0).toNat ∧ iShl .i64 1 (([6, 14, 30] : List Int).getD k.toNat 0).toNat ≤ 1073741824 := by
  obtain rfl | rfl | rfl : k = 0 ∨ k = 1 ∨ k = 2 := by omega
  all_goals decide
theorem tbl_nn (k : Int) : 0 ≤ ([6, 14, 30] : List Int).getD k.toNat 0 := by
  match k.toNat with
  | 0 => decide
  | 1 => decide
  | 2 => decide
  | n + 3 => simp
theorem shl_cls {k : Int} (h0 : 0 ≤ k) (h : k < 3) : iShl .i64 1 k.toNat = 1 ∨ iShl .i64 1 k.toNat = 2 ∨ iShl .i64 1 k.toNat = 4 := by
  obtain rfl | rfl | rfl : k = 0 ∨ k = 1 ∨ k = 2 := by omega
  all_goals decide
theorem shr6 (c : UInt8) : ((u8Shr c 6).toNat : Int) = (c.toNat : Int) / 64 := by
  have := c.toNat_lt
  simp only [u8Shr, UInt8.toNat_ofNat']
  omega
theorem shr6_le (c : UInt8) : (u8Shr c 6).toNat ≤ 3 := by
  have := c.toNat_lt
  have := shr6 c
  omega
theorem iAnd_bound (a : Int) {m : Int} (h0 : 0 ≤ m) (h1 : m ≤ 9223372036854775807) : 0 ≤ iAnd .i64 a m ∧ iAnd .i64 a m ≤ m := by
  have hle : (BitVec.ofInt 64 a &&& BitVec.ofInt 64 m).toNat ≤ m.toNat := by
    rw [BitVec.toNat_and]
    refine Nat.le_trans Nat.and_le_right ?_
    simp only [BitVec.toNat_ofInt]
    have e : ((2 ^ 64 : Nat) : Int) = 18446744073709551616 := by decide
    rw [e, Int.emod_eq_of_lt h0 (by omega)]
    omega
  have e : iAnd .i64 a m = ((BitVec.ofInt 64 a &&& BitVec.ofInt 64 m).toNat : Int) := by
    show IntKind.i64.wrap ((BitVec.ofInt 64 a &&& BitVec.ofInt 64 m).toNat : Int) = _
    exact wrap_i64 (by omega) (by omega)
  rw [e]; omega

def lenF (n : Int) : List UInt8 :=
  if n < 64 then [UInt8.ofInt n] else if n < 16384 then [UInt8.ofInt (n / 256 + 64), UInt8.ofInt n]
  else [UInt8.ofInt (n / 16777216 + 128), UInt8.ofInt (n / 65536), UInt8.ofInt (n / 256), UInt8.ofInt n]
theorem lenF_len (n : Int) : (lenF n).length = if n < 64 then 1 else if n < 16384 then 2 else 4 := by
  unfold lenF; split
  · rfl
  · split <;> rfl
theorem lenF_le (n : Int) : (lenF n).length ≤ 4 := by rw [lenF_len]; split <;> (try split) <;> omega
theorem u8_congr {a b : Int} (h : a % 256 = b % 256) : UInt8.ofInt a = UInt8.ofInt b := by
  apply UInt8.toNat_inj.1
  have e : ∀ n : Int, ((UInt8.ofInt n).toNat : Int) = n % 256 := by
    intro n
    simp only [UInt8.ofInt, UInt8.toNat_ofNat']
    omega
  have h1 := e a
  have h2 := e b
  omega
theorem u8_toNat (n : Int) : ((UInt8.ofInt n).toNat : Int) = n % 256 := by
  simp only [UInt8.ofInt, UInt8.toNat_ofNat']
  omega
theorem u8_add (a : Int) (c : Nat) : UInt8.ofInt a + UInt8.ofNat c = UInt8.ofInt (a + c) := by
  apply UInt8.toNat_inj.1
  rw [UInt8.toNat_add]
  have h1 := u8_toNat a
  have h2 := u8_toNat (a + c)
  simp only [UInt8.toNat_ofNat']
  omega
theorem iOr_add {a b : Int} {i : Nat} (h0 : 0 ≤ a) (h1 : a < 2 ^ i) (hb : 0 ≤ b) (h2 : a + b * 2 ^ i ≤ 9223372036854775807) : iOr .i64 a (b * 2 ^ i) = a + b * 2 ^ i := by
  obtain ⟨m, rfl⟩ := Int.eq_ofNat_of_zero_le h0
  obtain ⟨q, rfl⟩ := Int.eq_ofNat_of_zero_le hb
  have e0 : (q : Int) * 2 ^ i = ((q * 2 ^ i : Nat) : Int) := by push_cast; rfl
  rw [e0] at h2 ⊢
  have hm : m < 2 ^ i := by
    have : ((2 : Int) ^ i) = ((2 ^ i : Nat) : Int) := by push_cast; rfl
    rw [this] at h1; omega
  have e1 : (BitVec.ofInt 64 (m : Int) ||| BitVec.ofInt 64 ((q * 2 ^ i : Nat) : Int)).toNat = m + q * 2 ^ i := by
    rw [ofInt_nat, ofInt_nat, BitVec.toNat_or]
    simp only [BitVec.toNat_ofNat, Nat.reducePow]
    rw [Nat.mod_eq_of_lt (by omega), Nat.mod_eq_of_lt (by omega), Nat.or_comm, ← Nat.shiftLeft_eq, ← Nat.shiftLeft_add_eq_or_of_lt hm]
    omega
  show IntKind.i64.wrap ((BitVec.ofInt 64 (m : Int) ||| BitVec.ofInt 64 ((q * 2 ^ i : Nat) : Int)).toNat : Int) = _
  rw [e1, wrap_i64 (by omega) (by omega)]
  push_cast; rfl

theorem numB1 (n : Int) : numB n 1 = [UInt8.ofInt n] := by simp [numB, List.range_succ]
theorem numB2 (n : Int) : numB n 2 = [UInt8.ofInt (n / 256), UInt8.ofInt n] := by simp [numB, List.range_succ]
theorem numB4 (n : Int) : numB n 4 = [UInt8.ofInt (n / 16777216), UInt8.ofInt (n / 65536), UInt8.ofInt (n / 256), UInt8.ofInt n] := by simp [numB, List.range_succ]
theorem lenP {n s : Int} (h0 : 0 ≤ n) (hn : n < 1073741824) (hs : 0 ≤ s) (hs2 : s ≤ 2) (h1 : 0 < s → 64 ≤ n) (h2 : 1 < s → 16384 ≤ n) (h3 : n < iShl .i64 1 (([6, 14, 30] : List Int).getD s.toNat 0).toNat) :
    numF (iOr .i64 n (iShl .i64 s (([6, 14, 30] : List Int).getD s.toNat 0).toNat)) (iShl .i64 1 s.toNat) = lenF n := by
  obtain rfl | rfl | rfl : s = 0 ∨ s = 1 ∨ s = 2 := by omega
  · have e : iShl .i64 1 (([6, 14, 30] : List Int).getD (0 : Int).toNat 0).toNat = 64 := by decide
    rw [e] at h3
    have e2 : iShl .i64 0 (([6, 14, 30] : List Int).getD (0 : Int).toNat 0).toNat = 0 * 2 ^ 6 := by decide
    have e3 : iShl .i64 1 (0 : Int).toNat = 1 := by decide
    have e4 : iShl .i64 1 (8 * (1 : Int)).toNat = 256 := by decide
    rw [e2, e3, iOr_add h0 (by omega) (by omega) (by omega), numF_ok (by omega) (by omega) (by rw [e4]; omega)]
    unfold lenF
    rw [if_pos h3, show (1 : Int).toNat = 1 from rfl, numB1]
    simp
  · have e : iShl .i64 1 (([6, 14, 30] : List Int).getD (1 : Int).toNat 0).toNat = 16384 := by decide
    rw [e] at h3
    have e2 : iShl .i64 1 (([6, 14, 30] : List Int).getD (1 : Int).toNat 0).toNat = 1 * 2 ^ 14 := by decide
    have e3 : iShl .i64 1 (1 : Int).toNat = 2 := by decide
    have e4 : iShl .i64 1 (8 * (2 : Int)).toNat = 65536 := by decide
    have h4 := h1 (by omega)
    rw [e2, e3, iOr_add h0 (by omega) (by omega) (by omega), numF_ok (by omega) (by omega) (by rw [e4]; omega)]
    unfold lenF
    rw [if_neg (by omega), if_pos h3, show (2 : Int).toNat = 2 from rfl, numB2]
    rw [u8_congr (a := (n + 1 * 2 ^ 14) / 256) (b := n / 256 + 64) (by omega), u8_congr (a := n + 1 * 2 ^ 14) (b := n) (by omega)]
  · have e2 : iShl .i64 2 (([6, 14, 30] : List Int).getD (2 : Int).toNat 0).toNat = 2 * 2 ^ 30 := by decide
    have e3 : iShl .i64 1 (2 : Int).toNat = 4 := by decide
    have e4 : iShl .i64 1 (8 * (4 : Int)).toNat = 4294967296 := by decide
    have h4 := h2 (by omega)
    rw [e2, e3, iOr_add h0 (by omega) (by omega) (by omega), numF_ok (by omega) (by omega) (by rw [e4]; omega)]
    unfold lenF
    rw [if_neg (by omega), if_neg (by omega), show (4 : Int).toNat = 4 from rfl, numB4]
    rw [u8_congr (a := (n + 2 * 2 ^ 30) / 16777216) (b := n / 16777216 + 128) (by omega), u8_congr (a := (n + 2 * 2 ^ 30) / 65536) (b := n / 65536) (by omega), u8_congr (a := (n + 2 * 2 ^ 30) / 256) (b := n / 256) (by omega),
      u8_congr (a := n + 2 * 2 ^ 30) (b := n) (by omega)]

theorem shl_v (s : Int) : (s = 0 → iShl .i64 1 (([6, 14, 30] : List Int).getD s.toNat 0).toNat = 64) ∧ (s = 1 → iShl .i64 1 (([6, 14, 30] : List Int).getD s.toNat 0).toNat = 16384) ∧ (s = 2 → iShl .i64 1 (([6, 14, 30] : List Int).getD s.toNat 0).toNat = 1073741824) := by
  refine ⟨?_, ?_, ?_⟩ <;> rintro rfl <;> decide

/-! ### What stands at a place -/
def spanN (b : List UInt8) (k n from' e : Int) : Int × Int × Int :=
  if e ≠ 0 then (0, 0, e) else if 0 < k ∧ n < iShl .i64 1 (([6, 14, 30] : List Int).getD (k - 1).toNat 0).toNat then (0, 0, 112) else if 1048576 < n then (0, 0, 2)
  else if (b.length : Int) - from' < n then (0, 0, 111) else (from', from' + n, 0)
def spanK (b : List UInt8) (i k : Int) : Int × Int × Int :=
  if k = 3 then (0, 0, 112) else
  spanN b k (iAnd .i64 (getF b i (iShl .i64 1 k.toNat)).1 (iShl .i64 1 (([6, 14, 30] : List Int).getD k.toNat 0).toNat - 1)) (getF b i (iShl .i64 1 k.toNat)).2.1 (getF b i (iShl .i64 1 k.toNat)).2.2
def spanF (b : List UInt8) (i : Int) : Int × Int × Int :=
  if i < 0 ∨ (b.length : Int) < i then (0, 0, 1) else if i = b.length then (0, 0, 111) else spanK b i ((u8Shr (b.getD i.toNat 0) 6).toNat : Int)
theorem getF_from (b : List UInt8) (i n : Int) : 0 ≤ (getF b i n).2.1 ∧ (getF b i n).2.1 ≤ b.length ∧ ((getF b i n).2.2 = 0 → (getF b i n).2.1 = i + n ∧ 0 ≤ i ∧ 1 ≤ n) := by
  unfold getF
  split
  · simp <;> omega
  · split
    · simp <;> omega
    · split
      · simp <;> omega
      · simp <;> omega
theorem spanF_ok (b : List UInt8) (i : Int) (h : (spanF b i).2.2 = 0) : 0 ≤ i ∧ i < (spanF b i).1 ∧ (spanF b i).1 ≤ (spanF b i).2.1 ∧ (spanF b i).2.1 ≤ b.length ∧ (spanF b i).2.1 - (spanF b i).1 ≤ 1048576 := by
  unfold spanF at h ⊢
  split at h
  · simp at h
  rename_i h1
  rw [if_neg h1]
  split at h
  · simp at h
  rename_i h2
  rw [if_neg h2]
  unfold spanK at h ⊢
  split at h
  · simp at h
  rename_i h3
  rw [if_neg h3]
  have hk := shr6_le (b.getD i.toNat 0)
  have hk0 : (0 : Int) ≤ ((u8Shr (b.getD i.toNat 0) 6).toNat : Int) := by omega
  have hk3 : ((u8Shr (b.getD i.toNat 0) 6).toNat : Int) < 3 := by omega
  have h14 := shl_tbl hk0 hk3
  generalize ((u8Shr (b.getD i.toNat 0) 6).toNat : Int) = k at *
  have hg := getF_from b i (iShl .i64 1 k.toNat)
  have ha := iAnd_bound (getF b i (iShl .i64 1 k.toNat)).1 (m := iShl .i64 1 (([6, 14, 30] : List Int).getD k.toNat 0).toNat - 1) (by omega) (by omega)
  have hc := shl_cls hk0 hk3
  generalize iAnd .i64 (getF b i (iShl .i64 1 k.toNat)).1 (iShl .i64 1 (([6, 14, 30] : List Int).getD k.toNat 0).toNat - 1) = n at *
  unfold spanN at h ⊢
  split at h
  · rename_i h4; exact absurd h h4
  rename_i h4
  rw [if_neg h4]
  split at h
  · simp at h
  rename_i h5
  rw [if_neg h5]
  split at h
  · simp at h
  rename_i h6
  rw [if_neg h6]
  split at h
  · simp at h
  rename_i h7
  rw [if_neg h7]
  have h8 := hg.2.2 (by omega)
  show 0 ≤ i ∧ i < (getF b i (iShl .i64 1 k.toNat)).2.1 ∧ _ ≤ _ + n ∧ _ + n ≤ _ ∧ _ + n - _ ≤ _
  omega

/-! ### Texts -/
def textF (s : List UInt8) : List UInt8 := if 1048576 < s.length then [] else lenF s.length ++ s
def textE (s : List UInt8) : Int := if 1048576 < s.length then 2 else 0
def getTextF (b : List UInt8) (i : Int) : List UInt8 × Int × Int :=
  if (spanF b i).2.2 ≠ 0 then ([], 0, (spanF b i).2.2) else ((b.take (spanF b i).2.1.toNat).drop (spanF b i).1.toNat, (spanF b i).2.1, 0)
theorem getTextF_ok (b : List UInt8) (i : Int) (h : (getTextF b i).2.2 = 0) : 0 ≤ i ∧ i < (getTextF b i).2.1 ∧ (getTextF b i).2.1 ≤ b.length := by
  unfold getTextF at h ⊢
  split at h
  · rename_i h1; exact absurd h h1
  · rename_i h1
    have := spanF_ok b i (by omega)
    rw [if_neg h1]
    simp only
    omega
theorem getTextF_len (b : List UInt8) (i : Int) : (getTextF b i).1.length ≤ 1048576 := by
  unfold getTextF
  split
  · simp
  · rename_i h1
    have := spanF_ok b i (by omega)
    simp; omega
theorem textF_len (s : List UInt8) : (textF s).length ≤ 1048580 := by
  unfold textF; split
  · simp
  · have := lenF_le s.length
    simp; omega
end Go.Vw

/- The plain law of layer 11, continued: lists; what the reference computes. -/
set_option linter.unusedVariables false
namespace Go.Vw
open Go Go.Vc

/-! ### Lists -/
def catT (l : List (List UInt8)) : List UInt8 := l.flatMap textF
def okT (l : List (List UInt8)) : Prop := (∀ s, s ∈ l → s.length ≤ 1048576) ∧ (catT l).length ≤ 1048576
instance (l : List (List UInt8)) : Decidable (okT l) := inferInstanceAs (Decidable (_ ∧ _))
def listF (l : List (List UInt8)) : List UInt8 := if okT l then textF (catT l) else []
def listE (l : List (List UInt8)) : Int := if okT l then textE (catT l) else 2
theorem catT_take {l : List (List UInt8)} {s : Nat} (h : s < l.length) : catT (l.take (s + 1)) = catT (l.take s) ++ textF (l.getD s []) := by
  unfold catT
  rw [List.take_add_one, List.flatMap_append, List.getElem?_eq_getElem h, List.getD_eq_getElem?_getD, List.getElem?_eq_getElem h]
  simp
theorem catT_pre (l : List (List UInt8)) (s : Nat) : (catT (l.take s)).length ≤ (catT l).length := by
  have e : catT l = catT (l.take s) ++ catT (l.drop s) := by
    unfold catT; rw [← List.flatMap_append, List.take_append_drop]
  rw [e]; simp
theorem okT_take {l : List (List UInt8)} {s : Nat} (h : s < l.length) (h1 : okT (l.take s)) (h2 : (l.getD s []).length ≤ 1048576) (h3 : (catT (l.take s)).length + (textF (l.getD s [])).length ≤ 1048576) : okT (l.take (s + 1)) := by
  refine ⟨fun x hx => ?_, by rw [catT_take h]; simpa using h3⟩
  rw [List.take_add_one, List.getElem?_eq_getElem h] at hx
  rcases List.mem_append.1 hx with hx | hx
  · exact h1.1 x hx
  · rw [List.getD_eq_getElem?_getD, List.getElem?_eq_getElem h] at h2
    simp at hx; subst hx; simpa using h2
theorem okT_not1 {l : List (List UInt8)} {s : Nat} (h : s < l.length) (h1 : 1048576 < (l.getD s []).length) : ¬ okT l := by
  rintro ⟨h2, _⟩
  rw [List.getD_eq_getElem?_getD, List.getElem?_eq_getElem h] at h1
  have := h2 _ (List.getElem_mem h)
  simp at h1; omega
theorem okT_not2 {l : List (List UInt8)} {s : Nat} (h : s < l.length) (h1 : 1048576 < (catT (l.take s)).length + (textF (l.getD s [])).length) : ¬ okT l := by
  rintro ⟨_, h2⟩
  have := catT_pre l (s + 1)
  rw [catT_take h, List.length_append] at this
  omega
theorem textE_ne {s : List UInt8} (h : ¬ textE s = 0) : 1048576 < s.length := by
  unfold textE at h; split at h
  · assumption
  · simp at h
theorem textE_eq {s : List UInt8} (h : textE s = 0) : s.length ≤ 1048576 := by
  unfold textE at h; split at h
  · simp at h
  · omega
theorem textE_two {s : List UInt8} (h : ¬ textE s = 0) : textE s = 2 := by
  unfold textE at h ⊢; split
  · rfl
  · rename_i h1; rw [if_neg h1] at h; simp at h
theorem listF_no {l : List (List UInt8)} (h : ¬ okT l) : listF l = [] := if_neg h
theorem listE_no {l : List (List UInt8)} (h : ¬ okT l) : listE l = 2 := if_neg h
theorem listF_yes {l : List (List UInt8)} {s : Nat} (h : okT (l.take s)) (hs : l.length ≤ s) : textF (catT (l.take s)) = listF l := by
  rw [List.take_of_length_le hs] at h ⊢; exact (if_pos h).symm
theorem listE_yes {l : List (List UInt8)} {s : Nat} (h : okT (l.take s)) (hs : l.length ≤ s) : textE (catT (l.take s)) = listE l := by
  rw [List.take_of_length_le hs] at h ⊢; exact (if_pos h).symm
theorem okT_nil : okT [] := ⟨fun s h => by simp at h, by simp [catT]⟩
theorem take_full (l m : List UInt8) (n k : Nat) (hn : l.length ≤ n) (hk : m.length ≤ k) : (l.drop 0).take n ++ (m.drop 0).take k = l ++ m := by
  simp [List.take_of_length_le hn, List.take_of_length_le hk]

/-- The texts from a place on. -/
def parseF (b : List UInt8) : Nat → Int → List (List UInt8) → List (List UInt8) × Int
  | 0, _, out => (out, 0)
  | f + 1, i, out => if i < b.length then (if (getTextF b i).2.2 ≠ 0 then ([], (getTextF b i).2.2) else parseF b f (getTextF b i).2.1 (out ++ [(getTextF b i).1])) else (out, 0)
theorem parseF_fuel (b : List UInt8) : ∀ (f g : Nat) (i : Int) (out : List (List UInt8)), 0 ≤ i → b.length < f + i → b.length < g + i → parseF b f i out = parseF b g i out
  | 0, 0, i, out, _, _, _ => rfl
  | 0, g + 1, i, out, h0, h, h1 => by simp only [parseF]; rw [if_neg (by omega)]
  | f + 1, 0, i, out, h0, h, h1 => by simp only [parseF]; rw [if_neg (by omega)]
  | f + 1, g + 1, i, out, h0, h, h1 => by
    simp only [parseF]
    by_cases hi : i < b.length
    · rw [if_pos hi, if_pos hi]
      by_cases he : (getTextF b i).2.2 ≠ 0
      · rw [if_pos he, if_pos he]
      · rw [if_neg he, if_neg he]
        have := getTextF_ok b i (by omega)
        exact parseF_fuel b f g _ _ (by omega) (by omega) (by omega)
    · rw [if_neg hi, if_neg hi]
def parse (b : List UInt8) (i : Int) (out : List (List UInt8)) : List (List UInt8) × Int := parseF b (b.length + 1 - i.toNat) i out
theorem parse_err {b : List UInt8} {i : Int} {out : List (List UInt8)} (h0 : 0 ≤ i) (h : i < b.length) (he : ¬ (getTextF b i).2.2 = 0) : parse b i out = ([], (getTextF b i).2.2) := by
  unfold parse
  rw [show b.length + 1 - i.toNat = (b.length - i.toNat) + 1 from by omega]
  simp only [parseF]; rw [if_pos h, if_pos he]
theorem parse_step {b : List UInt8} {i : Int} {out : List (List UInt8)} (h0 : 0 ≤ i) (h : i < b.length) (he : (getTextF b i).2.2 = 0) : parse b i out = parse b (getTextF b i).2.1 (out ++ [(getTextF b i).1]) := by
  have := getTextF_ok b i he
  unfold parse
  rw [show b.length + 1 - i.toNat = (b.length - i.toNat) + 1 from by omega]
  simp only [parseF]; rw [if_pos h, if_neg (by omega)]
  exact parseF_fuel b _ _ _ _ (by omega) (by omega) (by omega)
theorem parse_end {b : List UInt8} {i : Int} {out : List (List UInt8)} (h0 : 0 ≤ i) (h : ¬ i < b.length) (h1 : i ≤ b.length) : parse b i out = (out, 0) := by
  unfold parse
  rw [show b.length + 1 - i.toNat = 0 + 1 from by omega]
  simp only [parseF]; rw [if_neg h]
abbrev allOf (b : List UInt8) (i : Int) : List UInt8 := (b.take (spanF b i).2.1.toNat).drop (spanF b i).1.toNat
def getListF (b : List UInt8) (i : Int) : List (List UInt8) × Int × Int :=
  if (spanF b i).2.2 ≠ 0 then ([], 0, (spanF b i).2.2)
  else if (parse (allOf b i) 0 []).2 ≠ 0 then ([], 0, (parse (allOf b i) 0 []).2) else ((parse (allOf b i) 0 []).1, (spanF b i).2.1, 0)
/-- Where the reading stands: what is out, and the place. -/
def PL (b : List UInt8) (s : List (List UInt8) × Int) : Prop := 0 ≤ s.2 ∧ s.2 ≤ b.length ∧ s.1.length ≤ s.2 ∧ parse b s.2 s.1 = parse b 0 []
theorem PL_step {b : List UInt8} {s : List (List UInt8) × Int} (h : PL b s) (hi : s.2 < b.length) (he : (getTextF b s.2).2.2 = 0) : PL b (s.1 ++ [(getTextF b s.2).1], (getTextF b s.2).2.1) := by
  obtain ⟨h1, h2, h3, h4⟩ := h
  have := getTextF_ok b s.2 he
  refine ⟨by simp only; omega, by simp only; omega, by simp; omega, ?_⟩
  rw [← h4, parse_step h1 hi he]
theorem gl_e0 {b : List UInt8} {i : Int} (h : ¬ (spanF b i).2.2 = 0) : getListF b i = ([], 0, (spanF b i).2.2) := if_pos h
theorem gl_e1 {b : List UInt8} {i : Int} {s : List (List UInt8) × Int} (h : (spanF b i).2.2 = 0) (hp : PL (allOf b i) s) (hi : s.2 < (allOf b i).length) (he : ¬ (getTextF (allOf b i) s.2).2.2 = 0) : getListF b i = ([], 0, (getTextF (allOf b i) s.2).2.2) := by
  unfold getListF
  rw [if_neg (by omega), ← hp.2.2.2, parse_err hp.1 hi he, if_pos he]
theorem gl_fin {b : List UInt8} {i : Int} {s : List (List UInt8) × Int} (h : (spanF b i).2.2 = 0) (hp : PL (allOf b i) s) (hi : ¬ s.2 < (allOf b i).length) : getListF b i = (s.1, (spanF b i).2.1, 0) := by
  unfold getListF
  rw [if_neg (by omega), ← hp.2.2.2, parse_end hp.1 hi hp.2.1, if_neg (by simp)]
theorem PL_0 (b : List UInt8) : PL b ([], 0) := ⟨by simp, by simp, by simp, rfl⟩

/-! ### The reference's numbers -/
set_option maxRecDepth 100000 in
theorem u64_step (m : Nat) (c : UInt8) : u64Shl (UInt64.ofNat m) 8 ||| c.toUInt64 = UInt64.ofNat (m * 256 + c.toNat) := by
  apply UInt64.toNat_inj.1
  have hc := c.toNat_lt
  have h := congrArg BitVec.toNat (or_byte m c.toNat hc)
  simp only [BitVec.toNat_or, BitVec.toNat_ofNat, Nat.reducePow] at h
  simp only [UInt64.toNat_or, u64Shl, UInt64.toNat_ofNat', UInt8.toNat_toUInt64, Nat.reducePow] at h ⊢
  rw [← h]
  congr 1
  · omega
  · omega
theorem cut_get {b : List UInt8} {i n : Int} {s : Nat} (h0 : 0 ≤ i) (hs : (s : Int) < n) (h : n ≤ (b.length : Int) - i) : b.getD (i + (s : Int)).toNat 0 = ((b.take (i + n).toNat).drop i.toNat).getD s 0 := by
  simp only [List.getD_eq_getElem?_getD, List.getElem?_drop]
  rw [List.getElem?_take_of_lt (by omega), show (i + (s : Int)).toNat = i.toNat + s from by omega]
theorem getF_longU {b : List UInt8} {i n : Int} (h : 0 ≤ i) (h1 : i ≤ b.length) (h2 : n = 1 ∨ n = 2 ∨ n = 4 ∨ n = 8) (h3 : n ≤ (b.length : Int) - i) (h4 : 9223372036854775807 < (UInt64.ofNat (beN ((b.take (i + n).toNat).drop i.toNat))).toNat) : getF b i n = (0, 0, 112) := by
  have hs := @beN_small ((b.take (i + n).toNat).drop i.toNat) 8 (by rw [cut_len h (by omega) h3]; omega) (by omega)
  rw [UInt64.toNat_ofNat', Nat.mod_eq_of_lt (by simpa using hs)] at h4
  unfold getF; rw [if_neg (by omega), if_neg (by omega), if_pos (by omega)]
theorem getF_okU {b : List UInt8} {i n : Int} (h : 0 ≤ i) (h1 : i ≤ b.length) (h2 : n = 1 ∨ n = 2 ∨ n = 4 ∨ n = 8) (h3 : n ≤ (b.length : Int) - i) (h4 : ¬ 9223372036854775807 < (UInt64.ofNat (beN ((b.take (i + n).toNat).drop i.toNat))).toNat) :
    getF b i n = (IntKind.i64.wrap ((UInt64.ofNat (beN ((b.take (i + n).toNat).drop i.toNat))).toNat : Int), i + n, 0) := by
  have hs := @beN_small ((b.take (i + n).toNat).drop i.toNat) 8 (by rw [cut_len h (by omega) h3]; omega) (by omega)
  have e2 : (UInt64.ofNat (beN ((b.take (i + n).toNat).drop i.toNat))).toNat = beN ((b.take (i + n).toNat).drop i.toNat) := by rw [UInt64.toNat_ofNat', Nat.mod_eq_of_lt (by simpa using hs)]
  rw [e2] at h4
  rw [e2, wrap_i64 (by omega) (by omega)]
  unfold getF; rw [if_neg (by omega), if_neg (by omega), if_neg (by omega)]
theorem shr_zero {n k : Int} (hk : k = 1 ∨ k = 2 ∨ k = 4) (hn : 0 ≤ n) : iShr .i64 n (8 * k).toNat = 0 ↔ ¬ iShl .i64 1 (8 * k).toNat ≤ n := by
  rw [shl_one hk]
  rcases hk with rfl | rfl | rfl
  · show n / 2 ^ (min 8 64) = 0 ↔ ¬ (256 : Int) ^ 1 ≤ n
    simp only [show min 8 64 = 8 from rfl, show ((2 : Int) ^ 8) = 256 from rfl, show ((256 : Int) ^ 1) = 256 from rfl]; omega
  · show n / 2 ^ (min 16 64) = 0 ↔ ¬ (256 : Int) ^ 2 ≤ n
    simp only [show min 16 64 = 16 from rfl, show ((2 : Int) ^ 16) = 65536 from rfl, show ((256 : Int) ^ 2) = 65536 from rfl]; omega
  · show n / 2 ^ (min 32 64) = 0 ↔ ¬ (256 : Int) ^ 4 ≤ n
    simp only [show min 32 64 = 32 from rfl, show ((2 : Int) ^ 32) = 4294967296 from rfl, show ((256 : Int) ^ 4) = 4294967296 from rfl]; omega
theorem numB_take {n : Int} {k s : Nat} (h : s < k) (h8 : k ≤ 8) : (numB n k).take s ++ [UInt8.ofInt (iShr .i64 n (8 * (k - 1 - s)))] = (numB n k).take (s + 1) := by
  rw [shr_byte n _ (by omega), List.take_add_one, numB_get h]; rfl
end Go.Vw

/- The plain law of layer 11, continued: the reference's lengths. -/
set_option linter.unusedVariables false
namespace Go.Vw
open Go Go.Vc

theorem iAnd_mask {a : Int} {m : Nat} (h0 : 0 ≤ a) (h1 : a ≤ 9223372036854775807) (hm : m ≤ 62) : iAnd .i64 a ((2 : Int) ^ m - 1) = a % 2 ^ m := by
  obtain ⟨q, rfl⟩ := Int.eq_ofNat_of_zero_le h0
  have hp : 0 < 2 ^ m := Nat.two_pow_pos m
  have e1 : (2 : Int) ^ m - 1 = ((2 ^ m - 1 : Nat) : Int) := by
    have : ((2 : Int) ^ m) = ((2 ^ m : Nat) : Int) := by push_cast; rfl
    omega
  have hb : 2 ^ m ≤ 2 ^ 62 := Nat.pow_le_pow_right (by omega) hm
  have e2 : (BitVec.ofInt 64 (q : Int) &&& BitVec.ofInt 64 ((2 ^ m - 1 : Nat) : Int)).toNat = q % 2 ^ m := by
    rw [ofInt_nat, ofInt_nat, BitVec.toNat_and]
    simp only [BitVec.toNat_ofNat]
    rw [Nat.mod_eq_of_lt (show q < 2 ^ 64 by omega), Nat.mod_eq_of_lt (show 2 ^ m - 1 < 2 ^ 64 by omega), Nat.and_two_pow_sub_one_eq_mod]
  rw [e1]
  show IntKind.i64.wrap ((BitVec.ofInt 64 (q : Int) &&& BitVec.ofInt 64 ((2 ^ m - 1 : Nat) : Int)).toNat : Int) = _
  rw [e2]
  have := Nat.mod_lt q hp
  rw [wrap_i64 (by omega) (by omega)]
  push_cast; rfl

def hdF (b : List UInt8) (i : Int) : Int × Int × Int := ((spanF b i).2.1 - (spanF b i).1, (spanF b i).1, (spanF b i).2.2)
def szOf (c : UInt8) : Int := if 128 ≤ c.toNat then 4 else if 64 ≤ c.toNat then 2 else 1
/-- The number that stands there, of s bytes. -/
def lenN (b : List UInt8) (i : Int) (s : Nat) : Nat := (b.getD i.toNat 0).toNat % 64 * 256 ^ (s - 1) + beN ((b.drop (i.toNat + 1)).take (s - 1))
theorem lenN_step {b : List UInt8} {i : Int} {s : Nat} (h0 : 0 ≤ i) (h1 : 1 ≤ s) (h : i + s < b.length) : lenN b i (s + 1) = lenN b i s * 256 + (b.getD (i + (s : Int)).toNat 0).toNat := by
  unfold lenN
  obtain ⟨r, rfl⟩ : ∃ r, s = r + 1 := ⟨s - 1, by omega⟩
  simp only [Nat.add_sub_cancel]
  rw [beN_take (by simp; omega), Nat.pow_succ]
  have e : (b.drop (i.toNat + 1)).getD r 0 = b.getD (i + ((r + 1 : Nat) : Int)).toNat 0 := by
    simp only [List.getD_eq_getElem?_getD, List.getElem?_drop]
    rw [show (i + ((r + 1 : Nat) : Int)).toNat = i.toNat + 1 + r from by omega]
  rw [e]
  generalize (b.getD i.toNat 0).toNat % 64 = x
  generalize 256 ^ r = y
  rw [← Nat.mul_assoc]
  omega
theorem lenN_one (b : List UInt8) (i : Int) : lenN b i 1 = (b.getD i.toNat 0).toNat % 64 := by simp [lenN, beN]
theorem lenN_lt {b : List UInt8} {i : Int} {s : Nat} (h1 : 1 ≤ s) : lenN b i s < 64 * 256 ^ (s - 1) := by
  unfold lenN
  have h2 := beN_lt ((b.drop (i.toNat + 1)).take (s - 1))
  have h3 : 256 ^ ((b.drop (i.toNat + 1)).take (s - 1)).length ≤ 256 ^ (s - 1) := Nat.pow_le_pow_right (by omega) (by simp; omega)
  have h4 := Nat.mod_lt (b.getD i.toNat 0).toNat (show 0 < 64 by omega)
  have h5 : (b.getD i.toNat 0).toNat % 64 * 256 ^ (s - 1) ≤ 63 * 256 ^ (s - 1) := Nat.mul_le_mul_right _ (by omega)
  omega
theorem cut_be {b : List UInt8} {i : Int} {s : Nat} (h0 : 0 ≤ i) (h1 : 1 ≤ s) (h : i + s ≤ b.length) : beN ((b.take (i + (s : Int)).toNat).drop i.toNat) = (b.getD i.toNat 0).toNat * 256 ^ (s - 1) + beN ((b.drop (i.toNat + 1)).take (s - 1)) := by
  have hi : i.toNat < b.length := by omega
  have e : (b.take (i + (s : Int)).toNat).drop i.toNat = b.getD i.toNat 0 :: (b.drop (i.toNat + 1)).take (s - 1) := by
    rw [show (i + (s : Int)).toNat = i.toNat + s from by omega, List.drop_take, show i.toNat + s - i.toNat = (s - 1) + 1 from by omega, List.drop_eq_getElem_cons hi, List.take_succ_cons]
    simp [List.getD_eq_getElem?_getD, List.getElem?_eq_getElem hi]
  rw [e, beN_cons]
  congr 2
  congr 1
  simp; omega
theorem getF_small {b : List UInt8} {i n : Int} (h : 0 ≤ i) (h2 : n = 1 ∨ n = 2 ∨ n = 4) (h3 : i + n ≤ b.length) : getF b i n = ((beN ((b.take (i + n).toNat).drop i.toNat) : Int), i + n, 0) := by
  have hs : beN ((b.take (i + n).toNat).drop i.toNat) < 256 ^ 4 := by
    refine Nat.lt_of_lt_of_le (beN_lt _) (Nat.pow_le_pow_right (by omega) ?_)
    rw [cut_len h (by omega) (by omega)]; omega
  unfold getF; rw [if_neg (by omega), if_neg (by omega), if_neg (by omega)]
/-- What the program computes, where the bytes are there. -/
theorem span_val {b : List UInt8} {i : Int} {k : Nat} (h0 : 0 ≤ i) (hk : k < 3) (hc : (b.getD i.toNat 0).toNat / 64 = k) (h : i + ((2 ^ k : Nat) : Int) ≤ b.length) :
    spanF b i = spanN b (k : Int) (lenN b i (2 ^ k) : Int) (i + ((2 ^ k : Nat) : Int)) 0 := by
  have hcu := cut_be (b := b) (i := i) (s := 2 ^ k) h0 Nat.one_le_two_pow h
  have hs6 := shr6 (b.getD i.toNat 0)
  have hrest := beN_lt ((b.drop (i.toNat + 1)).take (2 ^ k - 1))
  have hrl : 256 ^ ((b.drop (i.toNat + 1)).take (2 ^ k - 1)).length ≤ 256 ^ (2 ^ k - 1) := Nat.pow_le_pow_right (by omega) (by simp; omega)
  have hc8 := (b.getD i.toNat 0).toNat_lt
  have hk1 := Nat.one_le_two_pow (n := k)
  unfold spanF
  rw [if_neg (by omega), if_neg (by omega), hs6, show ((b.getD i.toNat 0).toNat : Int) / 64 = (k : Int) from by omega]
  unfold spanK lenN
  rw [if_neg (by omega)]
  generalize beN ((b.drop (i.toNat + 1)).take (2 ^ k - 1)) = r at *
  generalize (b.getD i.toNat 0).toNat = c at *
  obtain rfl | rfl | rfl : k = 0 ∨ k = 1 ∨ k = 2 := by omega
  · have e1 : iShl .i64 1 ((0 : Nat) : Int).toNat = 1 := by decide
    have e2 : iShl .i64 1 (([6, 14, 30] : List Int).getD ((0 : Nat) : Int).toNat 0).toNat - 1 = (2 : Int) ^ 6 - 1 := by decide
    rw [e1, e2, getF_small h0 (by omega) (by simpa using h)]
    simp only [Nat.pow_zero, Nat.sub_self, Nat.mul_one, Int.natCast_one] at hcu hrest hrl ⊢
    rw [hcu, iAnd_mask (by omega) (by omega) (by omega)]
    congr 1; omega
  · have e1 : iShl .i64 1 ((1 : Nat) : Int).toNat = 2 := by decide
    have e2 : iShl .i64 1 (([6, 14, 30] : List Int).getD ((1 : Nat) : Int).toNat 0).toNat - 1 = (2 : Int) ^ 14 - 1 := by decide
    rw [e1, e2, getF_small h0 (by omega) (by simpa using h)]
    have e3 : ((2 ^ 1 : Nat) : Int) = 2 := rfl
    simp only [e3, Nat.pow_one, Nat.reduceSub, Nat.reducePow] at hcu hrest hrl ⊢
    rw [hcu, iAnd_mask (by omega) (by omega) (by omega)]
    congr 1; omega
  · have e1 : iShl .i64 1 ((2 : Nat) : Int).toNat = 4 := by decide
    have e2 : iShl .i64 1 (([6, 14, 30] : List Int).getD ((2 : Nat) : Int).toNat 0).toNat - 1 = (2 : Int) ^ 30 - 1 := by decide
    rw [e1, e2, getF_small h0 (by omega) (by simpa using h)]
    have e3 : ((2 ^ 2 : Nat) : Int) = 4 := rfl
    simp only [e3, Nat.reduceSub, Nat.reducePow] at hcu hrest hrl ⊢
    rw [hcu, iAnd_mask (by omega) (by omega) (by omega)]
    congr 1; omega

/-! ### The cases of the reference -/
theorem sz_k (c : UInt8) (h : c.toNat < 192) : ∃ k : Nat, k < 3 ∧ c.toNat / 64 = k ∧ szOf c = ((2 ^ k : Nat) : Int) := by
  unfold szOf
  refine ⟨c.toNat / 64, by omega, rfl, ?_⟩
  have h1 : c.toNat / 64 = 0 ∨ c.toNat / 64 = 1 ∨ c.toNat / 64 = 2 := by omega
  rcases h1 with h1 | h1 | h1 <;> rw [h1]
  · rw [if_neg (by omega), if_neg (by omega)]; rfl
  · rw [if_neg (by omega), if_pos (by omega)]; rfl
  · rw [if_pos (by omega)]; rfl
theorem hd_arg {b : List UInt8} {i : Int} (h : i < 0 ∨ (b.length : Int) < i) : hdF b i = (0, 0, 1) := by unfold hdF spanF; rw [if_pos h]; rfl
theorem hd_end {b : List UInt8} {i : Int} (h : i = b.length) : hdF b i = (0, 0, 111) := by unfold hdF spanF; rw [if_neg (by omega), if_pos h]; rfl
theorem hd_192 {b : List UInt8} {i : Int} (h0 : 0 ≤ i) (h1 : i < b.length) (h : 192 ≤ (b.getD i.toNat 0).toNat) : hdF b i = (0, 0, 112) := by
  have hs6 := shr6 (b.getD i.toNat 0)
  have := (b.getD i.toNat 0).toNat_lt
  unfold hdF spanF
  rw [if_neg (by omega), if_neg (by omega)]
  unfold spanK
  rw [if_pos (by omega)]; rfl
theorem hd_short {b : List UInt8} {i : Int} (h0 : 0 ≤ i) (h1 : i < b.length) (h : (b.getD i.toNat 0).toNat < 192) (h2 : (b.length : Int) - i < szOf (b.getD i.toNat 0)) : hdF b i = (0, 0, 111) := by
  obtain ⟨k, hk, hc, hz⟩ := sz_k _ h
  have hs6 := shr6 (b.getD i.toNat 0)
  rw [hz] at h2
  have hg : getF b i ((2 ^ k : Nat) : Int) = (0, 0, 111) := getF_end h0 (by omega) (by
    obtain rfl | rfl | rfl : k = 0 ∨ k = 1 ∨ k = 2 := by omega
    all_goals decide) h2
  have e : iShl .i64 1 (k : Int).toNat = ((2 ^ k : Nat) : Int) := by
    obtain rfl | rfl | rfl : k = 0 ∨ k = 1 ∨ k = 2 := by omega
    all_goals decide
  unfold hdF spanF
  rw [if_neg (by omega), if_neg (by omega), show ((u8Shr (b.getD i.toNat 0) 6).toNat : Int) = (k : Int) from by omega]
  unfold spanK
  rw [if_neg (by omega), e, hg]
  rfl
theorem hd_val {b : List UInt8} {i : Int} {s : Nat} (h0 : 0 ≤ i) (h : (b.getD i.toNat 0).toNat < 192) (hs : (s : Int) = szOf (b.getD i.toNat 0)) (h2 : i + s ≤ b.length) :
    ((((lenF (lenN b i s)).length : Int) ≠ s → hdF b i = (0, 0, 112)) ∧ (((lenF (lenN b i s)).length : Int) = s → 1048576 < lenN b i s → hdF b i = (0, 0, 2)) ∧
    (((lenF (lenN b i s)).length : Int) = s → lenN b i s ≤ 1048576 → (b.length : Int) - i - s < lenN b i s → hdF b i = (0, 0, 111)) ∧
    (((lenF (lenN b i s)).length : Int) = s → lenN b i s ≤ 1048576 → lenN b i s ≤ (b.length : Int) - i - s → hdF b i = ((lenN b i s : Int), i + s, 0))) := by
  obtain ⟨k, hk, hc, hz⟩ := sz_k _ h
  have hsk : s = 2 ^ k := by omega
  subst hsk
  have hlt := lenN_lt (b := b) (i := i) (s := 2 ^ k) Nat.one_le_two_pow
  have hv := span_val h0 hk hc h2
  unfold hdF
  rw [hv]
  generalize lenN b i (2 ^ k) = n at *
  have hl := lenF_len (n : Int)
  unfold spanN
  simp only [ne_eq, not_true_eq_false, if_false]
  obtain rfl | rfl | rfl : k = 0 ∨ k = 1 ∨ k = 2 := by omega
  · simp only [Nat.pow_zero, Nat.sub_self, Nat.mul_one] at hlt
    rw [if_pos (by omega)] at hl
    rw [hl]
    refine ⟨fun h => absurd rfl h, fun _ h => by omega, fun _ _ h => ?_, fun _ _ h => ?_⟩
    · rw [if_neg (by omega), if_neg (by omega), if_pos (by omega)]; rfl
    · rw [if_neg (by omega), if_neg (by omega), if_neg (by omega)]; simp; omega
  · have e : iShl .i64 1 (([6, 14, 30] : List Int).getD (((1 : Nat) : Int) - 1).toNat 0).toNat = 64 := by decide
    simp only [Nat.pow_one, Nat.reduceSub, Nat.reducePow] at hlt
    rw [e]
    refine ⟨fun h => ?_, fun h1 h => by omega, fun h1 _ h => ?_, fun h1 _ h => ?_⟩
    · rw [if_pos]
      · rfl
      · refine ⟨by decide, ?_⟩
        by_cases h3 : (n : Int) < 64
        · exact h3
        · rw [if_neg h3, if_pos (by omega)] at hl; omega
    · rw [if_neg, if_neg (by omega), if_pos (by omega)]; rfl
      rintro ⟨_, h3⟩; rw [if_pos h3] at hl; omega
    · rw [if_neg, if_neg (by omega), if_neg (by omega)]; simp; omega
      rintro ⟨_, h3⟩; rw [if_pos h3] at hl; omega
  · have e : iShl .i64 1 (([6, 14, 30] : List Int).getD (((2 : Nat) : Int) - 1).toNat 0).toNat = 16384 := by decide
    rw [e]
    have e3 : ((2 ^ 2 : Nat) : Int) = 4 := rfl
    have e4 : ∀ h : ((lenF n).length : Int) = ((2 ^ 2 : Nat) : Int), ¬ ((0 : Int) < ((2 : Nat) : Int) ∧ (n : Int) < 16384) := by
      rintro h1 ⟨_, h3⟩
      rw [hl, e3] at h1
      split at h1
      · omega
      · first | omega | (rw [if_pos h3] at h1; omega)
    refine ⟨fun h => ?_, fun h1 h => ?_, fun h1 _ h => ?_, fun h1 _ h => ?_⟩
    · rw [if_pos]
      · rfl
      · refine ⟨by decide, ?_⟩
        by_cases h3 : (n : Int) < 16384
        · exact h3
        · rw [if_neg (by omega), if_neg h3] at hl; omega
    · rw [if_neg (e4 h1), if_pos (by omega)]; rfl
    · rw [if_neg (e4 h1), if_neg (by omega), if_pos (by omega)]; rfl
    · rw [if_neg (e4 h1), if_neg (by omega), if_neg (by omega)]; simp; omega
theorem u8_add64 (a : Int) : UInt8.ofInt a + 64 = UInt8.ofInt (a + 64) := u8_add a 64
theorem u8_add128 (a : Int) : UInt8.ofInt a + 128 = UInt8.ofInt (a + 128) := u8_add a 128
theorem szOf_v (c : UInt8) : szOf c = 1 ∨ szOf c = 2 ∨ szOf c = 4 := by unfold szOf; split <;> (try split) <;> simp
theorem hdF_ok (b : List UInt8) (i : Int) (h : (hdF b i).2.2 = 0) : 0 ≤ i ∧ i < (hdF b i).2.1 ∧ 0 ≤ (hdF b i).1 ∧ (hdF b i).2.1 + (hdF b i).1 ≤ b.length ∧ (hdF b i).1 ≤ 1048576 := by
  have := spanF_ok b i h
  unfold hdF; simp only; omega
theorem len_or {b : List UInt8} {i : Int} {s : Nat} (h0 : 0 ≤ i) (h1 : 1 ≤ s) (h3 : s < 4) (h : i + s < b.length) (hl : lenN b i s < 64 * 256 ^ (s - 1)) : iOr .i64 ((lenN b i s : Int) * 256) ((b.getD (i + (s : Int)).toNat 0).toNat : Int) = (lenN b i (s + 1) : Int) := by
  have hc := (b.getD (i + (s : Int)).toNat 0).toNat_lt
  rw [lenN_step h0 h1 h]
  have h4 : lenN b i s < 64 * 256 ^ 2 := Nat.lt_of_lt_of_le hl (Nat.mul_le_mul_left _ (Nat.pow_le_pow_right (by omega) (by omega)))
  have := i64_step (lenN b i s) (b.getD (i + (s : Int)).toNat 0)
  rw [wrap_i64 (n := ((lenN b i s : Nat) : Int)) (by omega) (by omega), wrap_i64 (n := ((lenN b i s * 256 + (b.getD (i + (s : Int)).toNat 0).toNat : Nat) : Int)) (by omega) (by omega)] at this
  rw [← this]
  congr 1
  show _ = IntKind.i64.wrap ((lenN b i s : Int) * 256)
  rw [wrap_i64 (by omega) (by omega)]
theorem lenN_b {b : List UInt8} {i : Int} {s : Nat} (h1 : 1 ≤ s) (h4 : s ≤ 4) : lenN b i s < 1073741824 := by
  refine Nat.lt_of_lt_of_le (lenN_lt h1) ?_
  exact Nat.le_trans (Nat.mul_le_mul_left _ (Nat.pow_le_pow_right (show 0 < 256 by omega) (show s - 1 ≤ 3 by omega))) (by decide)
theorem hd_to (b : List UInt8) (i : Int) : (hdF b i).2.1 + (hdF b i).1 = (spanF b i).2.1 := by unfold hdF; simp only; omega
theorem hd_to2 (b : List UInt8) (i : Int) : (spanF b i).1 + (hdF b i).1 = (spanF b i).2.1 := by unfold hdF; simp only; omega
theorem hd_from (b : List UInt8) (i : Int) : (hdF b i).2.1 = (spanF b i).1 := rfl
theorem getText_e (b : List UInt8) (i : Int) : (getTextF b i).2.2 = (spanF b i).2.2 := by
  unfold getTextF; split
  · rfl
  · rename_i h; simp only; omega
theorem getText_all {b : List UInt8} {i : Int} (h : (spanF b i).2.2 = 0) : (getTextF b i).1 = allOf b i ∧ (getTextF b i).2.1 = (spanF b i).2.1 := by
  unfold getTextF; rw [if_neg (by omega)]; exact ⟨rfl, rfl⟩
theorem glr_e0 {b : List UInt8} {i : Int} (h : ¬ (getTextF b i).2.2 = 0) : getListF b i = ([], 0, (getTextF b i).2.2) := by
  rw [getText_e] at h ⊢; exact gl_e0 h
theorem glr_e1 {b : List UInt8} {i : Int} {s : List (List UInt8) × Int} (h : (getTextF b i).2.2 = 0) (hp : PL (getTextF b i).1 s) (hi : s.2 < ((getTextF b i).1.length : Int)) (he : ¬ (getTextF (getTextF b i).1 s.2).2.2 = 0) : getListF b i = ([], 0, (getTextF (getTextF b i).1 s.2).2.2) := by
  rw [getText_e] at h
  rw [(getText_all h).1] at hp hi he ⊢
  exact gl_e1 h hp hi he
theorem glr_fin {b : List UInt8} {i : Int} {s : List (List UInt8) × Int} (h : (getTextF b i).2.2 = 0) (hp : PL (getTextF b i).1 s) (hi : ¬ s.2 < ((getTextF b i).1.length : Int)) : getListF b i = (s.1, (getTextF b i).2.1, 0) := by
  rw [getText_e] at h
  rw [(getText_all h).1] at hp hi
  rw [(getText_all h).2]
  exact gl_fin h hp hi
theorem same_step {l m : List (List UInt8)} {s : Nat} (h : ∀ j, j < s → l.getD j [] = m.getD j []) (h1 : l.getD s [] = m.getD s []) : ∀ j, j < s + 1 → l.getD j [] = m.getD j [] := by
  intro j hj
  by_cases e : j = s
  · subst e; exact h1
  · exact h j (by omega)
theorem same_all {l m : List (List UInt8)} {s : Nat} (hl : l.length = m.length) (hs : l.length ≤ s) (h : ∀ j, j < s → l.getD j [] = m.getD j []) : l = m := by
  apply List.ext_getElem hl
  intro j h1 h2
  have := h j (by omega)
  simpa [List.getD_eq_getElem?_getD, List.getElem?_eq_getElem h1, List.getElem?_eq_getElem h2] using this
end Go.Vw

/- Hkdf, in plain Lean: SHA-256's words and rounds. -/
set_option linter.unusedVariables false
namespace Go.Vh
open Go Go.Vc

abbrev nl : List UInt8 := []
def K256 : List UInt32 := [1116352408, 1899447441, 3049323471, 3921009573, 961987163, 1508970993, 2453635748, 2870763221, 3624381080, 310598401, 607225278, 1426881987, 1925078388, 2162078206, 2614888103, 3248222580, 3835390401, 4022224774, 264347078, 604807628, 770255983, 1249150122, 1555081692, 1996064986, 2554220882, 2821834349, 2952996808, 3210313671, 3336571891, 3584528711, 113926993, 338241895, 666307205, 773529912, 1294757372, 1396182291, 1695183700, 1986661051, 2177026350, 2456956037, 2730485921, 2820302411, 3259730800, 3345764771, 3516065817, 3600352804, 4094571909, 275423344, 430227734, 506948616, 659060556, 883997877, 958139571, 1322822218, 1537002063, 1747873779, 1955562222, 2024104815, 2227730452, 2361852424, 2428436474, 2756734187, 3204031479, 3329325298]
def H256 : List UInt32 := [1779033703, 3144134277, 1013904242, 2773480762, 1359893119, 2600822924, 528734635, 1541459225]
def h0 (j : Nat) : UInt32 := H256.getD j 0

def rotr (x : UInt32) (n : Int) : UInt32 := u32Shr x n.toNat ||| u32Shl x (32 - n).toNat
theorem u64_neg : ∀ k : Fin 32, (UInt64.ofInt (-((k.val : Nat) : Int)) &&& 31).toNat = (32 - k.val) % 32 := by decide +kernel
theorem rot_left {x : UInt32} {n : Int} (h : 1 ≤ n ∧ n ≤ 31) : u32Shl x (((UInt64.ofInt (-n) &&& 31).toNat : Int)).toNat ||| u32Shr x (((32 - (UInt64.ofInt (-n) &&& 31) : UInt64).toNat : Int)).toNat = rotr x n := by
  obtain ⟨k, rfl⟩ : ∃ k : Nat, n = k := ⟨n.toNat, by omega⟩
  have h1 := u64_neg ⟨k, by omega⟩
  simp only at h1
  have h2 : (32 - (UInt64.ofInt (-(k : Int)) &&& 31) : UInt64).toNat = k := by
    rw [UInt64.toNat_sub, h1]
    have : (32 : UInt64).toNat = 32 := rfl
    rw [this]; omega
  rw [h1, h2]
  unfold rotr
  rw [UInt32.or_comm]
  congr 2
  omega
def be (b : List UInt8) (i : Nat) : UInt32 := u32Shl (b.getD (4 * i) 0).toUInt32 24 ||| u32Shl (b.getD (4 * i + 1) 0).toUInt32 16 ||| u32Shl (b.getD (4 * i + 2) 0).toUInt32 8 ||| (b.getD (4 * i + 3) 0).toUInt32
def sg0 (x : UInt32) : UInt32 := rotr x 7 ^^^ rotr x 18 ^^^ u32Shr x 3
def sg1 (x : UInt32) : UInt32 := rotr x 17 ^^^ rotr x 19 ^^^ u32Shr x 10
def wdN (b : List UInt8) : Nat → Nat → UInt32
  | 0, j => if j < 16 then be b j else 0
  | k + 1, j => if j = 16 + k then wdN b k k + wdN b k (k + 9) + sg0 (wdN b k (k + 1)) + sg1 (wdN b k (k + 14)) else wdN b k j
def wd (b : List UInt8) : Nat → UInt32 := wdN b 48
def stT (g : Nat → UInt32) (k w : UInt32) : UInt32 := g 7 + (rotr (g 4) 6 ^^^ rotr (g 4) 11 ^^^ rotr (g 4) 25) + (g 6 ^^^ (g 4 &&& (g 5 ^^^ g 6))) + k + w
def stU (g : Nat → UInt32) : UInt32 := (rotr (g 0) 2 ^^^ rotr (g 0) 13 ^^^ rotr (g 0) 22) + ((g 0 &&& g 1) ||| (g 2 &&& (g 0 ||| g 1)))
def step (g : Nat → UInt32) (k w : UInt32) (j : Nat) : UInt32 :=
  match j with
  | 0 => stT g k w + stU g
  | 1 => g 0
  | 2 => g 1
  | 3 => g 2
  | 4 => g 3 + stT g k w
  | 5 => g 4
  | 6 => g 5
  | _ => g 6
def rounds (g w : Nat → UInt32) : Nat → Nat → UInt32
  | 0 => g
  | k + 1 => step (rounds g w k) (K256.getD k 0) (w k)
def comp (g : Nat → UInt32) (b : List UInt8) (j : Nat) : UInt32 := g j + rounds g (wd b) 64 j
/-! ### The document's rounds -/
theorem u32_ext {a b : UInt32} (h : ∀ i (hi : i < 32), a.toBitVec[i] = b.toBitVec[i]) : a = b := by
  apply UInt32.eq_of_toBitVec_eq
  ext i hi
  exact h i hi
theorem ch_ref (e f g : UInt32) : (e &&& f) ^^^ (~~~e &&& g) = g ^^^ (e &&& (f ^^^ g)) := by
  refine u32_ext fun i hi => ?_
  simp
  cases e.toBitVec[i] <;> cases f.toBitVec[i] <;> cases g.toBitVec[i] <;> rfl
theorem maj_ref (a b c : UInt32) : (a &&& b) ^^^ (a &&& c) ^^^ (b &&& c) = (a &&& b) ||| (c &&& (a ||| b)) := by
  refine u32_ext fun i hi => ?_
  simp
  cases a.toBitVec[i] <;> cases b.toBitVec[i] <;> cases c.toBitVec[i] <;> rfl
def refT (g : Nat → UInt32) (k w : UInt32) : UInt32 := g 7 + (rotr (g 4) 6 ^^^ rotr (g 4) 11 ^^^ rotr (g 4) 25) + ((g 4 &&& g 5) ^^^ (~~~(g 4) &&& g 6)) + k + w
def refU (g : Nat → UInt32) : UInt32 := (rotr (g 0) 2 ^^^ rotr (g 0) 13 ^^^ rotr (g 0) 22) + ((g 0 &&& g 1) ^^^ (g 0 &&& g 2) ^^^ (g 1 &&& g 2))
theorem refT_eq (g : Nat → UInt32) (k w : UInt32) : refT g k w = stT g k w := by unfold refT stT; rw [ch_ref]
theorem refU_eq (g : Nat → UInt32) : refU g = stU g := by unfold refU stU; rw [maj_ref]
theorem ref0 (g : Nat → UInt32) (k w : UInt32) : refT g k w + refU g = step g k w 0 := by rw [refT_eq, refU_eq]; rfl
theorem ref4 (g : Nat → UInt32) (k w : UInt32) : g 3 + refT g k w = step g k w 4 := by rw [refT_eq]; rfl
theorem wd_ref (b : List UInt8) (k : Nat) : wdN b k k + sg0 (wdN b k (k + 1)) + wdN b k (k + 9) + sg1 (wdN b k (k + 14)) = wdN b (k + 1) (16 + k) := by
  rw [wdN, if_pos rfl]
  congr 1
  rw [UInt32.add_assoc, UInt32.add_comm (sg0 _), ← UInt32.add_assoc]
/-! ### Texts -/
theorem be_congr {b b' : List UInt8} (h : ∀ i, i < 64 → b.getD i 0 = b'.getD i 0) {i : Nat} (hi : i < 16) : be b i = be b' i := by
  unfold be
  rw [h (4 * i) (by omega), h (4 * i + 1) (by omega), h (4 * i + 2) (by omega), h (4 * i + 3) (by omega)]
theorem wdN_congr {b b' : List UInt8} (h : ∀ i, i < 64 → b.getD i 0 = b'.getD i 0) : ∀ k, wdN b k = wdN b' k
  | 0 => by
    funext j
    simp only [wdN]
    by_cases hj : j < 16
    · rw [if_pos hj, if_pos hj, be_congr h hj]
    · rw [if_neg hj, if_neg hj]
  | k + 1 => by
    have ih := wdN_congr h k
    funext j
    simp only [wdN, ih]
theorem comp_congr {b b' : List UInt8} (h : ∀ i, i < 64 → b.getD i 0 = b'.getD i 0) (g : Nat → UInt32) : comp g b = comp g b' := by
  funext j
  unfold comp
  rw [show wd b = wd b' from wdN_congr h 48]
theorem comp_take (g : Nat → UInt32) (b : List UInt8) {n : Nat} (hn : 64 ≤ n) : comp g (b.take n) = comp g b :=
  comp_congr (fun i hi => by simp only [List.getD_eq_getElem?_getD, List.getElem?_take]; rw [if_pos (by omega)]) g
def stN (l : List UInt8) : Nat → Nat → UInt32
  | 0 => h0
  | k + 1 => comp (stN l k) (l.drop (64 * k))
theorem stN_app (l p : List UInt8) : ∀ k, 64 * k ≤ l.length → stN (l ++ p) k = stN l k
  | 0, _ => rfl
  | k + 1, h => by
    simp only [stN]
    rw [stN_app l p k (by omega)]
    refine comp_congr (fun i hi => ?_) _
    simp only [List.getD_eq_getElem?_getD, List.getElem?_drop]
    rw [List.getElem?_append_left (by omega)]
def hst (l : List UInt8) : Nat → UInt32 := stN l (l.length / 64)
def rst (l : List UInt8) : List UInt8 := l.drop (64 * (l.length / 64))
def jn (l p : List UInt8) : List UInt8 := (rst l ++ p).take (64 * ((rst l ++ p).length / 64))
theorem rst_len (l : List UInt8) : (rst l).length = l.length % 64 := by unfold rst; rw [List.length_drop]; omega
theorem rst_app (l p : List UInt8) : rst (l ++ p) = (rst l ++ p).drop (64 * ((rst l ++ p).length / 64)) := by
  have hl := rst_len l
  have e : rst l ++ p = (l ++ p).drop (64 * (l.length / 64)) := by
    unfold rst
    rw [List.drop_append_of_le_length (by omega)]
  rw [e, List.drop_drop, List.length_drop]
  unfold rst
  congr 1
  rw [List.length_append]
  omega
theorem jn_rst (l p : List UInt8) : jn l p ++ rst (l ++ p) = rst l ++ p := by rw [rst_app]; exact List.take_append_drop _ _
theorem jn_len (l p : List UInt8) : (jn l p).length = 64 * ((rst l ++ p).length / 64) := by unfold jn; rw [List.length_take]; omega
theorem wr_0 (l p : List UInt8) (i : Nat) : hst l i = stN (l ++ p) (l.length / 64 + 0) i := by
  rw [Nat.add_zero, stN_app l p _ (by omega)]; rfl
theorem wr_1 {l p : List UInt8} {s n : Nat} (h : 64 ≤ n) (i : Nat) : comp (stN (l ++ p) (l.length / 64 + s)) (((rst l ++ p).drop (64 * s)).take n) i = stN (l ++ p) (l.length / 64 + (s + 1)) i := by
  rw [comp_take _ _ h, show l.length / 64 + (s + 1) = (l.length / 64 + s) + 1 by omega]
  simp only [stN]
  congr 1
  unfold rst
  rw [← List.drop_append_of_le_length (by omega), List.drop_drop]
  congr 1
  omega
theorem wr_2 {l p : List UInt8} {s : Nat} (h1 : 64 * s ≤ (rst l ++ p).length) (h2 : (rst l ++ p).length < 64 * s + 64) (i : Nat) : stN (l ++ p) (l.length / 64 + s) i = hst (l ++ p) i := by
  have hl := rst_len l
  unfold hst
  rw [List.length_append] at h1 h2 ⊢
  rw [show (l.length + p.length) / 64 = l.length / 64 + s by omega]
theorem u64_ofInt (n : Nat) : UInt64.ofInt (n : Int) = UInt64.ofNat n := by
  apply UInt64.toNat_inj.1
  simp only [UInt64.ofInt, UInt64.toNat_ofNat']
  omega
theorem u64_app (l p : List UInt8) : UInt64.ofNat l.length + UInt64.ofInt (p.length : Int) = UInt64.ofNat (l ++ p).length := by
  rw [List.length_append, UInt64.ofNat_add, u64_ofInt]
theorem ap_full {l0 l : List UInt8} {n : Nat} (h : l0.length ≤ n) : (l0.drop 0).take n ++ l = l0 ++ l := by rw [List.drop_zero, List.take_of_length_le h]
/-! ### The sum -/
def zlen (n : Nat) : Nat := (119 - n % 64) % 64
def len8 (m : UInt64) : Nat → List UInt8
  | 0 => []
  | k + 1 => len8 m k ++ [(u64Shr (u64Shl m 3) (56 - 8 * k)).toUInt8]
theorem len8_len (m : UInt64) : ∀ k, (len8 m k).length = k
  | 0 => rfl
  | k + 1 => by simp [len8, len8_len m k]
def pad (l : List UInt8) : List UInt8 := [128] ++ List.replicate (zlen l.length) 0 ++ len8 (UInt64.ofNat l.length) 8
def ptx (l : List UInt8) : List UInt8 := l ++ pad l
def w4 (x : UInt32) : List UInt8 := [(u32Shr x 24).toUInt8, (u32Shr x 16).toUInt8, (u32Shr x 8).toUInt8, x.toUInt8]
def outN (g : Nat → UInt32) : Nat → List UInt8
  | 0 => []
  | k + 1 => outN g k ++ w4 (g k)
theorem outN_len (g : Nat → UInt32) : ∀ k, (outN g k).length = 4 * k
  | 0 => rfl
  | k + 1 => by simp only [outN, List.length_append, outN_len g k, w4, List.length_cons, List.length_nil]; omega
def sha (l : List UInt8) : List UInt8 := outN (stN (ptx l) ((ptx l).length / 64)) 8
theorem sha_len (l : List UInt8) : (sha l).length = 32 := outN_len _ 8
theorem pad_len (l : List UInt8) : (pad l).length = 9 + zlen l.length := by
  unfold pad
  simp only [List.length_append, List.length_cons, List.length_nil, List.length_replicate, len8_len]
  omega
theorem ptx_64 (l : List UInt8) : (ptx l).length % 64 = 0 := by
  unfold ptx
  rw [List.length_append, pad_len]
  unfold zlen
  omega
theorem rst_pad (l : List UInt8) : rst l ++ pad l = (ptx l).drop (64 * (l.length / 64)) := by
  unfold rst ptx
  rw [List.drop_append_of_le_length (by omega)]
theorem su_1 {l : List UInt8} {s n : Nat} (h : 64 ≤ n) (i : Nat) : comp (stN (ptx l) (l.length / 64 + s)) (((rst l ++ pad l).drop (64 * s)).take n) i = stN (ptx l) (l.length / 64 + (s + 1)) i := wr_1 h i
theorem su_0 (l : List UInt8) (i : Nat) : hst l i = stN (ptx l) (l.length / 64 + 0) i := wr_0 l (pad l) i
theorem su_2 {l : List UInt8} {s : Nat} (h : 64 * s = (rst l ++ pad l).length) : l.length / 64 + s = (ptx l).length / 64 := by
  have hl := rst_len l
  unfold ptx
  rw [List.length_append] at h ⊢
  omega
theorem mul_shl (m : UInt64) : m * 8 = u64Shl m 3 := by
  apply UInt64.toNat_inj.1
  simp only [u64Shl, UInt64.toNat_mul, UInt64.toNat_ofNat']
  rfl
theorem rs_1 {l : List UInt8} {s n : Nat} (h : 64 ≤ n) (i : Nat) : comp (stN l s) ((l.drop (64 * s)).take n) i = stN l (s + 1) i := by
  rw [comp_take _ _ h]; rfl
/-! ### Equal -/
theorem orz (a b : UInt8) : (a ||| b = 0) ↔ (a = 0 ∧ b = 0) := by
  constructor
  · intro h
    have h2 : a.toBitVec ||| b.toBitVec = 0#8 := congrArg UInt8.toBitVec h
    have h3 : ∀ i (hi : i < 8), (a.toBitVec[i] || b.toBitVec[i]) = false := fun i hi => by
      have := congrArg (fun x : BitVec 8 => x.getLsbD i) h2
      simpa [BitVec.getLsbD_eq_getElem hi] using this
    constructor <;> (apply UInt8.eq_of_toBitVec_eq; ext i hi; have := h3 i hi; simp at this ⊢; simp [this])
  · rintro ⟨rfl, rfl⟩; rfl
theorem xorz (a b : UInt8) : (a ^^^ b = 0) ↔ a = b := by
  constructor
  · intro h
    have : a ^^^ b ^^^ b = 0 ^^^ b := by rw [h]
    rwa [UInt8.xor_assoc, UInt8.xor_self, UInt8.xor_zero, UInt8.zero_xor] at this
  · rintro rfl; exact UInt8.xor_self
def xorF (a b : List UInt8) : Nat → UInt8
  | 0 => 0
  | k + 1 => xorF a b k ||| (a.getD k 0 ^^^ b.getD k 0)
theorem xorF_0 (a b : List UInt8) : ∀ k, xorF a b k = 0 ↔ ∀ i, i < k → a.getD i 0 = b.getD i 0
  | 0 => ⟨fun _ i hi => by omega, fun _ => rfl⟩
  | k + 1 => by
    simp only [xorF, orz, xorz, xorF_0 a b k]
    constructor
    · rintro ⟨h1, h2⟩ i hi
      by_cases e : i = k
      · subst e; exact h2
      · exact h1 i (by omega)
    · exact fun h => ⟨fun i hi => h i (by omega), h k (by omega)⟩
theorem xorF_eq {a b : List UInt8} (h : a.length = b.length) : decide (xorF a b a.length = 0) = decide (a = b) := by
  rw [decide_eq_decide, xorF_0]
  constructor
  · intro hi
    refine List.ext_getElem h fun i h1 h2 => ?_
    have := hi i h1
    simpa [List.getD_eq_getElem?_getD, List.getElem?_eq_getElem h1, List.getElem?_eq_getElem h2] using this
  · rintro rfl i _; rfl
/-! ### Labels -/
def longF (t : List UInt8) : List UInt8 :=
  if (t.length : Int) < 64 then [UInt8.ofInt t.length] ++ t else [UInt8.ofInt ((t.length : Int) / 256) ||| 64, UInt8.ofInt t.length] ++ t
theorem longF_len (t : List UInt8) : (longF t).length ≤ t.length + 2 := by
  unfold longF
  split <;> simp
/-- Of lists, one behind the other. -/
def cat (l : List (List UInt8)) : List UInt8 := l.flatten
theorem cat_take (l : List (List UInt8)) {k : Nat} (h : k < l.length) : cat (l.take (k + 1)) = cat (l.take k) ++ l.getD k [] := by
  unfold cat
  rw [List.take_add_one, List.flatten_append, List.getD_eq_getElem?_getD, List.getElem?_eq_getElem h]
  simp
theorem cat_take_le (l : List (List UInt8)) (k : Nat) : (cat (l.take k)).length ≤ (cat l).length := by
  have : cat l = cat (l.take k) ++ cat (l.drop k) := by unfold cat; rw [← List.flatten_append, List.take_append_drop]
  rw [this, List.length_append]; omega
theorem u8_or64 : ∀ k : Fin 64, UInt8.ofInt (((k.val + 64 : Nat) : Nat) : Int) = UInt8.ofInt ((k.val : Nat) : Int) ||| 64 := by decide +kernel
theorem long_r1 {n : Nat} (h : n < 16384) : UInt8.ofInt (((n : Int) + 16384) / 256) = UInt8.ofInt ((n : Int) / 256) ||| 64 := by
  have h1 := u8_or64 ⟨n / 256, by omega⟩
  simp only at h1
  rw [show ((n : Int) + 16384) / 256 = ((n / 256 + 64 : Nat) : Int) by omega, show (n : Int) / 256 = ((n / 256 : Nat) : Int) by omega]
  exact h1
theorem long_r2 (n : Nat) : UInt8.ofInt ((n : Int) + 16384) = UInt8.ofInt n := by
  apply UInt8.toNat_inj.1
  simp only [UInt8.ofInt, UInt8.toNat_ofNat']
  omega
def cb (l : List (List UInt8)) (r : Nat) : List UInt8 := if r = 0 then List.replicate (cat l).length 0 else cat (l.take r)
theorem cb_take (l : List (List UInt8)) (r : Nat) (x : List UInt8) : ((cb l r).drop 0).take (cat (l.take r)).length ++ x = cat (l.take r) ++ x := by
  unfold cb
  split
  · rename_i h; subst h; simp [cat]
  · rw [List.drop_zero, List.take_length]
theorem cb_succ (l : List (List UInt8)) (r : Nat) : cb l (r + 1) = cat (l.take (r + 1)) := by unfold cb; rw [if_neg (by omega)]
theorem cb_end {l : List (List UInt8)} {r : Nat} (h : r = l.length) : cb l r = cat l := by
  unfold cb
  split
  · rename_i h0
    have : l = [] := List.eq_nil_of_length_eq_zero (by omega)
    subst this; rfl
  · rw [h, List.take_length]
theorem cb_0 (l : List (List UInt8)) : cb l 0 = List.replicate (cat l).length 0 := rfl
/-! ### Tags -/
def key0 (k : List UInt8) : List UInt8 := if 64 < k.length then sha k else k
theorem key0_le (k : List UInt8) : (key0 k).length ≤ 64 := by
  unfold key0
  split
  · rw [sha_len]; omega
  · omega
def padN (k : List UInt8) (c : UInt8) : Nat → List UInt8
  | 0 => []
  | n + 1 => padN k c n ++ [k.getD n 0 ^^^ c]
theorem padN_len (k : List UInt8) (c : UInt8) : ∀ n, (padN k c n).length = n
  | 0 => rfl
  | n + 1 => by simp [padN, padN_len k c n]
def padF (k : List UInt8) (c : UInt8) : List UInt8 := padN k c 64
theorem padF_len (k : List UInt8) (c : UInt8) : (padF k c).length = 64 := padN_len k c 64
def mac (k t : List UInt8) : List UInt8 := sha (padF (key0 k) 92 ++ sha (padF (key0 k) 54 ++ t))
theorem mac_len (k t : List UInt8) : (mac k t).length = 32 := sha_len _
/-- In the loop: s bytes done, the others as copied. -/
def padL (k : List UInt8) (c : UInt8) (s : Nat) : List UInt8 := padN k c s ++ (k ++ List.replicate (64 - k.length) 0).drop s
theorem padL_len {k : List UInt8} (h : k.length ≤ 64) (c : UInt8) {s : Nat} (hs : s ≤ 64) : (padL k c s).length = 64 := by
  unfold padL
  simp only [List.length_append, padN_len, List.length_drop, List.length_replicate]
  omega
theorem padL_get {k : List UInt8} (h : k.length ≤ 64) (c : UInt8) {s : Nat} (hs : s < 64) : (padL k c s).getD s 0 = k.getD s 0 := by
  unfold padL
  simp only [List.getD_eq_getElem?_getD]
  rw [List.getElem?_append_right (by rw [padN_len]; omega), padN_len, Nat.sub_self, List.getElem?_drop, Nat.add_zero]
  rcases Nat.lt_or_ge s k.length with h1 | h1
  · rw [List.getElem?_append_left h1]
  · rw [List.getElem?_append_right h1, List.getElem?_replicate, if_pos (by omega), List.getElem?_eq_none h1]; rfl
theorem padL_succ {k : List UInt8} (h : k.length ≤ 64) (c : UInt8) {s : Nat} (hs : s < 64) : (padL k c s).set s (k.getD s 0 ^^^ c) = padL k c (s + 1) := by
  have hl : (k ++ List.replicate (64 - k.length) 0 : List UInt8).length = 64 := by simp; omega
  unfold padL
  rw [List.set_append_right _ _ (by rw [padN_len]; omega), padN_len, Nat.sub_self, padN, List.append_assoc]
  congr 1
  rw [List.drop_eq_getElem_cons (i := s) (by omega)]
  rfl
theorem padL_64 {k : List UInt8} (h : k.length ≤ 64) (c : UInt8) : padL k c 64 = padF k c := by
  unfold padL padF
  rw [List.drop_of_length_le (by simp; omega), List.append_nil]
theorem padL_0 {k : List UInt8} (h : k.length ≤ 64) (c : UInt8) : (List.replicate 64 (0 : UInt8)).take 0 ++ k.take 64 ++ (List.replicate 64 (0 : UInt8)).drop (0 + min k.length 64) = padL k c 0 := by
  unfold padL padN
  rw [List.take_of_length_le h, Nat.min_eq_left h, List.take_zero, List.nil_append, List.nil_append, List.drop_zero, List.drop_replicate, Nat.zero_add]
theorem ap_sha (l : List UInt8) : ((sha l).drop 0).take 32 = sha l := by rw [List.drop_zero, List.take_of_length_le (by rw [sha_len]; omega)]
attribute [irreducible] padF mac sha
/-! ### Expanded -/
def tN (k i : List UInt8) : Nat → List UInt8
  | 0 => []
  | s + 1 => mac k (cat [tN k i s, i, [UInt8.ofInt ((s : Int) + 1)]])
def okm (k i : List UInt8) : Nat → List UInt8
  | 0 => []
  | s + 1 => okm k i s ++ tN k i (s + 1)
theorem okm_len (k i : List UInt8) : ∀ s, (okm k i s).length = 32 * s
  | 0 => rfl
  | s + 1 => by simp only [okm, List.length_append, okm_len k i s, tN, mac_len]; omega
def expand (k i : List UInt8) (n : Nat) : List UInt8 := (okm k i ((n + 31) / 32)).take n
theorem tN_len (k i : List UInt8) (s : Nat) : (tN k i (s + 1)).length = 32 := by unfold tN; exact mac_len _ _
theorem tN_le (k i : List UInt8) : ∀ s, (tN k i s).length ≤ 32
  | 0 => Nat.zero_le _
  | s + 1 => Nat.le_of_eq (tN_len k i s)
theorem cat3_len (a b : List UInt8) (c : UInt8) : (cat [a, b, [c]]).length = a.length + b.length + 1 := by simp [cat]; omega
def expandN (k i : List UInt8) (n : Int) : List UInt8 := if n < 0 ∨ 8160 < n then [] else expand k i n.toNat
theorem expandN_no {k i : List UInt8} {n : Int} (h : n < 0 ∨ 8160 < n) : expandN k i n = [] := if_pos h
theorem expandN_0 {k i : List UInt8} {n : Int} (h : n = 0) : expandN k i n = [] := by subst h; rfl
theorem okm_end {k i : List UInt8} {n : Int} {s : Nat} (h0 : 32 * (s : Int) < n) (h1 : n ≤ 8160) (h : 32 * s + min 32 (n.toNat - 32 * s) = n.toNat) : okm k i s ++ (tN k i (s + 1)).take (min 32 (n.toNat - 32 * s)) = expandN k i n := by
  unfold expandN
  rw [if_neg (by omega)]
  unfold expand
  rw [show (n.toNat + 31) / 32 = s + 1 by omega, okm, List.take_append, List.take_of_length_le (l := okm k i s) (by rw [okm_len]; omega), okm_len]
  congr 2
  omega
theorem okm_next {k i : List UInt8} {m s : Nat} (h : m = 32) : okm k i s ++ (tN k i (s + 1)).take m = okm k i (s + 1) := by
  subst h
  rw [List.take_of_length_le (by rw [tN_len]; omega)]; rfl
theorem okm_ap {k i : List UInt8} {s m m' : Nat} (hm : m = m') : ((okm k i s).drop 0).take (32 * s) ++ (tN k i (s + 1)).take m = okm k i s ++ (tN k i (s + 1)).take m' := by
  subst hm
  rw [List.drop_zero, List.take_of_length_le (by rw [okm_len]; omega)]
theorem tN_succ (k i : List UInt8) (s : Nat) : ((mac k (((cat [tN k i s, i, [UInt8.ofInt ((s : Int) + 1)]]).drop 0).take (cat [tN k i s, i, [UInt8.ofInt ((s : Int) + 1)]]).length)).drop 0).take 32 = tN k i (s + 1) := by
  rw [List.drop_zero, List.drop_zero, List.take_length, List.take_of_length_le (by rw [mac_len]; omega)]; rfl
theorem expandN_len {k i : List UInt8} {n : Int} (h0 : 0 ≤ n) (h1 : n ≤ 8160) : (expandN k i n).length = n.toNat := by
  unfold expandN
  rw [if_neg (by omega)]
  unfold expand
  rw [List.length_take, okm_len]
  omega
end Go.Vh

/- Infos, labels (plain). -/
namespace Go.Vh
theorem padN_64 (k : List UInt8) (c : UInt8) : padN k c 64 = padF k c := by unfold padF; rfl
theorem padN_succ {k : List UInt8} {c x : UInt8} {n : Nat} (h : x = k.getD n 0) : padN k c n ++ [x ^^^ c] = padN k c (n + 1) := by subst h; rfl
theorem mac_def (k t : List UInt8) : mac k t = sha (padF (key0 k) 92 ++ sha (padF (key0 k) 54 ++ t)) := by unfold mac; rfl
def lbl : List UInt8 := [71, 75, 65, 32, 49, 46, 48, 32]
def infoBad (nm c : List UInt8) (n : Int) : Prop := n < 0 ∨ 8160 < n ∨ 40 < nm.length ∨ 16000 < c.length
instance (nm c : List UInt8) (n : Int) : Decidable (infoBad nm c n) := by unfold infoBad; exact inferInstance
def infoG (nm c : List UInt8) (n : Int) : List UInt8 := [UInt8.ofInt (n / 256), UInt8.ofInt n] ++ longF (lbl ++ nm) ++ longF c
def infoF (nm c : List UInt8) (n : Int) : List UInt8 := if infoBad nm c n then [] else infoG nm c n
def labelF (k nm c : List UInt8) (n : Int) : List UInt8 := if infoBad nm c n then [] else expandN k (infoG nm c n) n
theorem infoF_no {nm c : List UInt8} {n : Int} (h : n < 0 ∨ 8160 < n ∨ 40 < nm.length ∨ 16000 < c.length) : infoF nm c n = [] := if_pos h
theorem infoF_yes {nm c : List UInt8} {n : Int} (h : ¬ (n < 0 ∨ 8160 < n ∨ 40 < nm.length ∨ 16000 < c.length)) : infoF nm c n = infoG nm c n := if_neg h
theorem labelF_no {k nm c : List UInt8} {n : Int} (h : n < 0 ∨ 8160 < n ∨ 40 < nm.length ∨ 16000 < c.length) : labelF k nm c n = [] := if_pos h
theorem labelF_yes {k nm c : List UInt8} {n : Int} (h : ¬ (n < 0 ∨ 8160 < n ∨ 40 < nm.length ∨ 16000 < c.length)) : labelF k nm c n = expandN k (infoG nm c n) n := if_neg h
theorem infoF_nil {k nm c : List UInt8} {n : Int} (h : (infoF nm c n).length = 0) : labelF k nm c n = [] := by
  unfold infoF at h; unfold labelF
  split
  · rfl
  · rename_i hb
    rw [if_neg hb] at h
    unfold infoG at h
    simp only [List.length_append, List.length_cons] at h
    omega
theorem infoF_some {k nm c : List UInt8} {n : Int} (h : ¬ (infoF nm c n).length = 0) : expandN k (infoF nm c n) n = labelF k nm c n := by
  unfold infoF at h ⊢; unfold labelF
  split
  · rename_i hb
    rw [if_pos hb] at h
    exact absurd rfl h
  · rfl
theorem infoF_len (nm c : List UInt8) (n : Int) : (infoF nm c n).length ≤ 16100 := by
  unfold infoF
  split
  · exact Nat.zero_le _
  · rename_i hb
    unfold infoBad at hb
    unfold infoG
    have h1 := longF_len (lbl ++ nm)
    have h2 := longF_len c
    simp only [List.length_append, List.length_cons, List.length_nil, lbl] at h1 ⊢
    omega
theorem infoG_cat (nm c : List UInt8) (n : Int) : cat [[UInt8.ofInt (n / 256), UInt8.ofInt n], longF (lbl ++ nm), longF c] = infoG nm c n := by simp [cat, infoG]
theorem take_full (l : List UInt8) : (l.drop 0).take l.length = l := by rw [List.drop_zero, List.take_length]
theorem okm_get {k i : List UInt8} {n : Int} {s : Nat} (h0 : ¬ n < 0) (h1 : n ≤ 8160) (h2 : 32 * (s : Int) < n + 32) (h3 : ¬ (32 * (s : Int) < n)) : (okm k i s).take n.toNat = expandN k i n := by
  unfold expandN
  rw [if_neg (by omega)]
  unfold expand
  rw [show (n.toNat + 31) / 32 = s by omega]
end Go.Vh

/- Wire's laws, in plain Lean: sizes. -/
set_option linter.unusedVariables false
set_option linter.unusedSimpArgs false
namespace Go.Vw
open Go Go.Vc
def want1 (k : Int) : Int := if 64 ≤ k then k + 2 else k + 1
def want2 (k : Int) : Int := if 16384 ≤ k then k + 4 else want1 k
def szC (c : UInt8) : Int := iShl .i64 1 ((c % 4).toNat : Int).toNat
theorem szC_v (c : UInt8) : szC c = 1 ∨ szC c = 2 ∨ szC c = 4 ∨ szC c = 8 := by
  have h : (c % 4).toNat < 4 := by rw [UInt8.toNat_mod]; exact Nat.mod_lt _ (by decide)
  unfold szC
  rw [Int.toNat_natCast]
  generalize (c % 4).toNat = j at h ⊢
  match j, h with
  | 0, _ => exact .inl (by decide)
  | 1, _ => exact .inr (.inl (by decide))
  | 2, _ => exact .inr (.inr (.inl (by decide)))
  | 3, _ => exact .inr (.inr (.inr (by decide)))
def mC (n : UInt32) (c : UInt8) : Int := if szC c < 4 then iAnd .i64 (n.toNat : Int) (iShl .i64 1 (8 * szC c).toNat - 1) else (n.toNat : Int)
theorem mC_v (n : UInt32) (c : UInt8) : 0 ≤ mC n c ∧ mC n c < 256 ^ (szC c).toNat ∧ mC n c < 4294967296 := by
  have hn := n.toNat_lt
  have hs := szC_v c
  unfold mC
  split
  · rename_i h
    rw [shl_one (by omega)]
    have e : ((256 : Int) ^ (szC c).toNat) - 1 = 2 ^ (8 * (szC c).toNat) - 1 := by
      rw [show (256 : Int) = 2 ^ 8 by decide, ← Int.pow_mul]
    rw [e, iAnd_mask (by omega) (by omega) (by omega)]
    have hp : (0 : Int) < 2 ^ (8 * (szC c).toNat) := Int.pow_pos (by decide)
    have h1 := Int.emod_nonneg (n.toNat : Int) (show (2 : Int) ^ (8 * (szC c).toNat) ≠ 0 by omega)
    have h2 := Int.emod_lt_of_pos (n.toNat : Int) hp
    have h3 : ((n.toNat : Int)) % 2 ^ (8 * (szC c).toNat) ≤ (n.toNat : Int) := by
      have := Int.emod_add_mul_ediv (n.toNat : Int) (2 ^ (8 * (szC c).toNat))
      have h4 : 0 ≤ (2 : Int) ^ (8 * (szC c).toNat) * ((n.toNat : Int) / 2 ^ (8 * (szC c).toNat)) := Int.mul_nonneg (by omega) (Int.ediv_nonneg (by omega) (by omega))
      omega
    refine ⟨h1, ?_, by omega⟩
    rw [show (256 : Int) = 2 ^ 8 by decide, ← Int.pow_mul]
    exact h2
  · rename_i h
    refine ⟨by omega, ?_, by omega⟩
    rcases hs with h1 | h1 | h1 | h1
    · omega
    · omega
    · rw [h1]; show (n.toNat : Int) < 4294967296; omega
    · rw [h1]; show (n.toNat : Int) < 18446744073709551616; omega
/-- What is written is read. -/
theorem beN_numB {n : Int} {k : Nat} (h0 : 0 ≤ n) (h : n < 256 ^ k) : (beN (numB n k) : Int) = n := by
  induction k generalizing n with
  | zero =>
    have : n < 1 := by simpa using h
    have e : n = 0 := by omega
    subst e
    rfl
  | succ k ih =>
    have e : numB n (k + 1) = numB (n / 256) k ++ [UInt8.ofInt n] := by
      refine List.ext_getElem? fun j => ?_
      by_cases hj : j < k
      · rw [List.getElem?_append_left (by rw [numB_len]; exact hj), numB_get (by omega), numB_get hj]
        congr 2
        rw [show k + 1 - 1 - j = (k - 1 - j) + 1 by omega, Int.pow_succ, Int.mul_comm, ← Int.ediv_ediv_of_nonneg (by decide)]
      · by_cases hj2 : j = k
        · subst hj2
          rw [List.getElem?_append_right (by rw [numB_len]; omega), numB_get (by omega), numB_len]
          simp
        · rw [List.getElem?_eq_none (by rw [numB_len]; omega), List.getElem?_eq_none (by simp [numB_len]; omega)]
    rw [e, beN_snoc]
    have h2 := ih (n := n / 256) (by omega) (by rw [Int.pow_succ] at h; exact Int.ediv_lt_of_lt_mul (by decide) h)
    have h3 := u8_toNat n
    rw [Int.natCast_add, Int.natCast_mul, h2, h3]
    omega
theorem get_num {n k : Int} (hk : k = 1 ∨ k = 2 ∨ k = 4 ∨ k = 8) (h0 : 0 ≤ n) (h : n < 256 ^ k.toNat) (hm : n ≤ 9223372036854775807) : getF (numF n k) 0 k = (n, k, 0) := by
  have e : numF n k = numB n k.toNat := numF_ok hk h0 (by
    rintro ⟨h8, h9⟩
    rw [shl_one (by omega)] at h9
    omega)
  have hb : beN (((numB n k.toNat).take (0 + k).toNat).drop (0 : Int).toNat) = beN (numB n k.toNat) := by
    rw [Int.zero_add, List.take_of_length_le (by rw [numB_len]; omega)]
    rfl
  have hv := beN_numB h0 h
  have hc : beN (((numB n k.toNat).take (0 + k).toNat).drop (0 : Int).toNat) ≤ 9223372036854775807 := by rw [hb]; omega
  have hu : ((UInt64.ofNat (beN (numB n k.toNat))).toNat : Int) = n := by
    rw [UInt64.toNat_ofNat', Nat.mod_eq_of_lt (by omega), hv]
  rw [e, getF_okU (by omega) (by omega) hk (by rw [numB_len]; omega) (by rw [hb]; omega), hb, hu, i64_eq, if_neg (by omega), Int.emod_eq_of_lt h0 (by omega), Int.zero_add]
theorem want2_ok {k : Nat} (h : k < 20000) : ((textF (List.replicate k 0)).length : Int) = want2 (k : Int) := by
  unfold textF want2 want1
  rw [if_neg (by simp; omega)]
  simp only [List.length_append, lenF_len, List.length_replicate]
  split <;> split <;> (try split) <;> omega
theorem shl8 (c : UInt8) (h : szC c < 4) : 1 ≤ iShl .i64 1 (8 * szC c).toNat ∧ iShl .i64 1 (8 * szC c).toNat ≤ 65536 := by
  rcases szC_v c with h1 | h1 | h1 | h1
  · rw [h1]; decide
  · rw [h1]; decide
  · omega
  · omega
theorem cut_rep (n : UInt32) : ((List.replicate ((n.toNat : Int) % 20000).toNat (0 : UInt8)).drop 0).take ((n.toNat : Int) % 20000).toNat = List.replicate (n.toNat % 20000) 0 := by
  rw [List.drop_zero, List.take_of_length_le (by simp)]
  congr 1
theorem textE_rep (n : UInt32) : textE (List.replicate (n.toNat % 20000) 0) = 0 := by
  have := Nat.mod_lt n.toNat (show 0 < 20000 by decide)
  unfold textE
  rw [if_neg (by simp; omega)]
theorem textF_rep (n : UInt32) : ((textF (List.replicate (n.toNat % 20000) 0)).length : Int) = want2 ((n.toNat : Int) % 20000) := by
  rw [want2_ok (Nat.mod_lt n.toNat (show 0 < 20000 by decide))]
  congr 1
theorem row_all {l : List (List UInt8)} (h : okT l) : listE l = 0 ∧ textE (catT l) = 0 ∧ listF l = textF (catT l) := by
  have h1 := listF_yes (l := l) (s := l.length) (by rw [List.take_length]; exact h) (Nat.le_refl _)
  have h2 := listE_yes (l := l) (s := l.length) (by rw [List.take_length]; exact h) (Nat.le_refl _)
  rw [List.take_length] at h1 h2
  have h3 : textE (catT l) = 0 := by
    have := h.2
    unfold textE
    rw [if_neg (by omega)]
  exact ⟨by rw [← h2, h3], h3, h1.symm⟩
theorem catT_one (d : List UInt8) : catT [d] = textF d := by simp [catT]
theorem row_one {d : List UInt8} (h : textE d = 0) (h2 : textE (textF d) = 0) : listE [d] = 0 ∧ listF [d] = textF (textF d) := by
  have hk : okT [d] := ⟨fun s hs => by
    have e : s = d := by simpa using hs
    subst e
    exact textE_eq h, by rw [catT_one]; exact textE_eq h2⟩
  have := row_all hk
  rw [catT_one] at this
  exact ⟨this.1, this.2.2⟩
theorem listE_nil : listE [] = 0 := (row_all okT_nil).1
theorem listF_nil : listF [] = [0] := by
  rw [(row_all okT_nil).2.2]
  rfl
theorem le_row1 {d : List UInt8} {z : PV} : (BV.p (.sl 1 1 (fun j => (fun j => ([PV.bs d]).getD j z) (0 + j)))).le (.p (.sl [d].length 1 (fun j => .bs ([d].getD j [])))) :=
  le_sl rfl fun j hj => by
    have : j = 0 := by omega
    subst this
    rfl
theorem cutO {c : List UInt8} {m f t : Nat} (h : t ≤ m) : (c.drop (0 + f * 1)).take (t - f) = ((c.take m).take t).drop f := by
  rw [List.take_take, Nat.min_eq_left h, List.drop_take]
  congr 2
  omega
def incF (s : Nat) (b : List UInt8) : List UInt8 := (b.take s).map (· + 1) ++ b.drop s
theorem incF_len (s : Nat) (b : List UInt8) : (incF s b).length = b.length := by simp [incF]; omega
theorem inc_step {s : Nat} {b : List UInt8} (h : s < b.length) : (incF s b).set s ((incF s b).getD s 0 + 1) = incF (s + 1) b := by
  refine List.ext_getElem? fun j => ?_
  have h1 : ∀ j, (incF s b)[j]? = if j < s then (b[j]?).map (· + 1) else b[j]? := fun j => by
    unfold incF
    split
    · rw [List.getElem?_append_left (by simp; omega)]; simp [*]
    · rw [List.getElem?_append_right (by simp; omega)]; simp; congr 1; omega
  have h2 : ∀ j, (incF (s + 1) b)[j]? = if j < s + 1 then (b[j]?).map (· + 1) else b[j]? := fun j => by
    unfold incF
    split
    · rw [List.getElem?_append_left (by simp; omega)]; simp [*]
    · rw [List.getElem?_append_right (by simp; omega)]; simp; congr 1; omega
  rw [h2, List.getElem?_set]
  by_cases hj : s = j
  · subst hj
    rw [if_pos rfl, if_pos (by rw [incF_len]; exact h), if_pos (by omega), List.getD_eq_getElem?_getD, h1, if_neg (by omega), List.getElem?_eq_getElem h]
    rfl
  · rw [if_neg hj, h1]
    by_cases h3 : j < s
    · rw [if_pos h3, if_pos (by omega)]
    · rw [if_neg h3, if_neg (by omega)]
theorem le_offB {L : List (List UInt8)} : (BV.p (.sl L.length 1 (fun j => (fun j => PV.bs (L.getD j [])) (0 + j)))).le (.p (.sl L.length 1 (fun j => .bs (L.getD j [])))) := le_sl rfl (fun j _ => by rw [Nat.zero_add])
theorem num_neg (k : Int) : numF (-1) k = [] := numF_bad (.inr (by decide))
theorem get_m (n : UInt32) (c : UInt8) : getF (numF (mC n c) (szC c)) 0 (szC c) = (mC n c, szC c, 0) := by
  have h := mC_v n c
  exact get_num (szC_v c) h.1 h.2.1 (by omega)
end Go.Vw

/- What the laws of hkdf need (plain). -/
namespace Go.Vh
theorem head_mac : (mac [107, 101, 121] [84, 104, 101, 32, 113, 117, 105, 99, 107, 32, 98, 114, 111, 119, 110, 32, 102, 111, 120, 32, 106, 117, 109, 112, 115, 32, 111, 118, 101, 114, 32, 116, 104, 101, 32, 108, 97, 122, 121, 32, 100, 111, 103]).take 4 = [0xf7, 0xbc, 0x83, 0xf4] := by decide +kernel
/-! ### Equal -/
def xa (a : List UInt8) (t y : UInt8) : List UInt8 := if a.length = 0 then a else a.set (t.toNat % a.length) (a.getD (t.toNat % a.length) 0 ^^^ y)
theorem xa_len (a : List UInt8) (t y : UInt8) : (xa a t y).length = a.length := by
  unfold xa
  split
  · rfl
  · exact List.length_set
theorem xa_eq (a : List UInt8) (t y : UInt8) : a = xa a t y ↔ a.length = 0 ∨ y = 0 := by
  unfold xa
  split
  · rename_i h; exact ⟨fun _ => .inl h, fun _ => rfl⟩
  · rename_i h
    have hi : t.toNat % a.length < a.length := Nat.mod_lt _ (by omega)
    constructor
    · intro e
      right
      have h1 := congrArg (fun l : List UInt8 => l.getD (t.toNat % a.length) 0) e
      simp only [List.getD_eq_getElem?_getD, List.getElem?_set_self hi, List.getElem?_eq_getElem hi, Option.getD_some] at h1
      have h2 := congrArg (fun x => a[t.toNat % a.length] ^^^ x) h1
      simp only [UInt8.xor_self, ← UInt8.xor_assoc, UInt8.zero_xor] at h2
      exact h2.symm
    · rintro (h1 | rfl)
      · exact absurd h1 h
      · rw [UInt8.xor_zero, List.getD_eq_getElem?_getD, List.getElem?_eq_getElem hi, Option.getD_some, List.set_getElem_self]
theorem ne_snoc {a b : List UInt8} (h : b.length = a.length) (x : UInt8) : ¬ a = b ++ [x] := fun e => by
  have := congrArg List.length e
  rw [List.length_append, h] at this
  simp at this
/-! ### Beginnings -/
theorem okm_take (k i : List UInt8) {n : Nat} : ∀ {s : Nat}, n ≤ 32 * s → (okm k i s).take n = expand k i n
  | s, h => by
    unfold expand
    obtain ⟨d, hd⟩ : ∃ d, s = (n + 31) / 32 + d := ⟨s - (n + 31) / 32, by omega⟩
    subst hd
    clear h
    induction d with
    | zero => rfl
    | succ d ih => rw [← Nat.add_assoc, okm, List.take_append_of_le_length (by rw [okm_len]; omega)]; exact ih
theorem expand_take (k i : List UInt8) {n m : Nat} (h : n ≤ m) : (expand k i m).take n = expand k i n := by
  rw [expand, List.take_take, Nat.min_eq_left h]
  exact okm_take k i (by omega)
theorem expandN_of {k i : List UInt8} {n : Int} (h0 : 0 ≤ n) (h1 : n ≤ 8160) : expandN k i n = expand k i n.toNat := if_neg (by omega)
theorem begins {k i : List UInt8} {n m : Int} (h0 : 0 ≤ n) (h1 : n ≤ m) (h2 : m ≤ 8160) : (expandN k i m).take n.toNat = expandN k i n := by
  rw [expandN_of (by omega) h2, expandN_of h0 (by omega)]
  exact expand_take k i (by omega)
/-! ### Keys -/
theorem padN_0 (k : List UInt8) (c : UInt8) (d : Nat) : ∀ n, padN (k ++ List.replicate d 0) c n = padN k c n
  | 0 => rfl
  | n + 1 => by
    rw [padN, padN, padN_0 k c d n]
    congr 3
    simp only [List.getD_eq_getElem?_getD]
    rcases Nat.lt_or_ge n k.length with h | h
    · rw [List.getElem?_append_left h]
    · rw [List.getElem?_append_right h, List.getElem?_eq_none h, List.getElem?_replicate]
      split <;> rfl
theorem mac_0 {k : List UInt8} {d : Nat} (h : k.length + d ≤ 64) (t : List UInt8) : mac (k ++ List.replicate d 0) t = mac k t := by
  rw [mac_def, mac_def]
  unfold key0
  rw [if_neg (by simp; omega), if_neg (by omega)]
  simp only [← padN_64, padN_0]
/-! ### Infos -/
theorem u8_inj {a b : Nat} (ha : a < 256) (hb : b < 256) (h : UInt8.ofInt a = UInt8.ofInt b) : a = b := by
  have := congrArg UInt8.toNat h
  simp only [UInt8.ofInt, UInt8.toNat_ofNat'] at this
  omega
theorem u8_or : ∀ k : Fin 64, (UInt8.ofInt ((k.val : Nat) : Int) ||| 64) = UInt8.ofInt ((k.val + 64 : Nat) : Int) := by decide +kernel
theorem longF_apart {u v p q : List UInt8} (hu : u.length < 16384) (hv : v.length < 16384) (h : longF u ++ p = longF v ++ q) : u = v ∧ p = q := by
  have key : u.length = v.length := by
    unfold longF at h
    have ku := u8_or ⟨u.length / 256, by omega⟩
    have kv := u8_or ⟨v.length / 256, by omega⟩
    simp only at ku kv
    have eu : ((u.length : Nat) : Int) / 256 = ((u.length / 256 : Nat) : Int) := by omega
    have ev : ((v.length : Nat) : Int) / 256 = ((v.length / 256 : Nat) : Int) := by omega
    rw [eu, ev, ku, kv] at h
    split at h <;> split at h
    · injection h with h1 h2
      exact u8_inj (by omega) (by omega) h1
    · injection h with h1 h2
      have := u8_inj (by omega) (by omega) h1
      omega
    · injection h with h1 h2
      have := u8_inj (by omega) (by omega) h1
      omega
    · injection h with h1 h2
      injection h2 with h3 h4
      have h5 := u8_inj (by omega) (by omega) h1
      have h6 := congrArg UInt8.toNat h3
      simp only [UInt8.ofInt, UInt8.toNat_ofNat'] at h6
      omega
  have hp : ∀ w : List UInt8, ∃ pre : List UInt8, longF w = pre ++ w ∧ (pre.length = if (w.length : Int) < 64 then 1 else 2) := fun w => by
    unfold longF
    split
    · exact ⟨_, rfl, rfl⟩
    · exact ⟨_, rfl, rfl⟩
  obtain ⟨a, ha, la⟩ := hp u
  obtain ⟨b, hb, lb⟩ := hp v
  rw [ha, hb, List.append_assoc, List.append_assoc] at h
  have hl : a.length = b.length := by rw [la, lb, key]
  have h2 := (List.append_inj h hl).2
  exact List.append_inj h2 key
theorem info_inj {a b x y : List UInt8} {n m : Int} (ha : a.length ≤ 40) (hb : b.length ≤ 40) (hx : x.length ≤ 16000) (hy : y.length ≤ 16000) (hn : 0 ≤ n ∧ n < 256) (hm : 0 ≤ m ∧ m < 256) : infoF a x n = infoF b y m ↔ (a = b ∧ x = y) ∧ n = m := by
  rw [infoF_yes (by omega), infoF_yes (by omega)]
  unfold infoG
  constructor
  · intro h
    rw [List.append_assoc, List.append_assoc] at h
    injection h with h1 h2
    injection h2 with h3 h4
    have h5 : n.toNat = m.toNat := u8_inj (by omega) (by omega) (by rw [show ((n.toNat : Nat) : Int) = n by omega, show ((m.toNat : Nat) : Int) = m by omega]; exact h3)
    have hlb : lbl.length = 8 := rfl
    have h4' : longF (lbl ++ a) ++ longF x = longF (lbl ++ b) ++ longF y := h4
    obtain ⟨h6, h7⟩ := longF_apart (by rw [List.length_append]; omega) (by rw [List.length_append]; omega) h4'
    have h8 : longF x ++ [] = longF y ++ [] := by rw [h7]
    exact ⟨⟨List.append_cancel_left h6, (longF_apart (by omega) (by omega) h8).1⟩, by omega⟩
  · rintro ⟨⟨rfl, rfl⟩, rfl⟩; rfl
theorem label_info {k a x : List UInt8} {n : Int} (h : ¬ (n < 0 ∨ 8160 < n ∨ 40 < a.length ∨ 16000 < x.length)) : labelF k a x n = expandN k (infoF a x n) n := by
  rw [labelF_yes h, infoF_yes h]
theorem info_b1 {a b x y : List UInt8} {n m : UInt8} (hij : infoF a x (n.toNat : Int) = infoF b y (m.toNat : Int) ↔ (a = b ∧ x = y) ∧ (n.toNat : Int) = (m.toNat : Int)) (h1 : a = b) (h2 : x = y) : decide (infoF a x (n.toNat : Int) = infoF b y (m.toNat : Int)) = decide (n = m) := by
  rw [decide_eq_decide, hij]
  exact ⟨fun h => UInt8.toNat_inj.1 (by omega), fun h => ⟨⟨h1, h2⟩, by rw [h]⟩⟩
theorem info_b0 {a b x y : List UInt8} {n m : UInt8} (hij : infoF a x (n.toNat : Int) = infoF b y (m.toNat : Int) ↔ (a = b ∧ x = y) ∧ (n.toNat : Int) = (m.toNat : Int)) (h1 : ¬ a = b) : decide (infoF a x (n.toNat : Int) = infoF b y (m.toNat : Int)) = false :=
  decide_eq_false fun h => h1 (hij.1 h).1.1
theorem info_b2 {a b x y : List UInt8} {n m : UInt8} (hij : infoF a x (n.toNat : Int) = infoF b y (m.toNat : Int) ↔ (a = b ∧ x = y) ∧ (n.toNat : Int) = (m.toNat : Int)) (h1 : ¬ x = y) : decide (infoF a x (n.toNat : Int) = infoF b y (m.toNat : Int)) = false :=
  decide_eq_false fun h => h1 (hij.1 h).1.2
def incV (s : Nat) (b : List UInt8) : List UInt8 := Go.Vw.incF s b
theorem incV_step {s : Nat} {b : List UInt8} (h : s < b.length) : (incV s b).set s ((incV s b).getD s 0 + 1) = incV (s + 1) b := Go.Vw.inc_step h
theorem incV_0 (b : List UInt8) : b = incV 0 b := by simp [incV, Go.Vw.incF]
/-! ### Parts -/
theorem cat3 (a b c : List UInt8) : cat [a, b, c] = a ++ b ++ c := by simp [cat]
theorem u8_one : UInt8.ofInt (((0 : Nat) : Int) + 1) = 1 := by decide
theorem u8_two : UInt8.ofInt (((1 : Nat) : Int) + 1) = 2 := by decide
theorem one_eq (k i : List UInt8) : mac k (i ++ [1]) = tN k i 1 := by
  rw [tN, cat3, u8_one, tN, List.nil_append]
theorem two_eq (k i : List UInt8) : mac k (mac k (i ++ [1]) ++ i ++ [2]) = tN k i 2 := by
  rw [one_eq, show tN k i 2 = mac k (cat [tN k i 1, i, [UInt8.ofInt (((1 : Nat) : Int) + 1)]]) from by rw [tN], cat3, u8_two]
theorem okm_2 (k i : List UInt8) : okm k i 2 = tN k i 1 ++ tN k i 2 := by rw [okm, okm, okm, List.nil_append]
theorem parts_eq (k i : List UInt8) : expandN k i 64 = mac k (i ++ [1]) ++ mac k (mac k (i ++ [1]) ++ i ++ [2]) := by
  rw [two_eq, one_eq, expandN_of (by omega) (by omega), expand, show ((64 : Int).toNat + 31) / 32 = 2 by decide, List.take_of_length_le (by rw [okm_len]; decide), okm_2]
theorem parts_eqN {N : Int} (h : N = 64) (k i : List UInt8) : expandN k i N = mac k (i ++ [1]) ++ mac k (mac k (i ++ [1]) ++ i ++ [2]) := by subst h; exact parts_eq k i
theorem parts_len (k i : List UInt8) : (expandN k i 64).length = 64 := expandN_len (by omega) (by omega)
end Go.Vh

/- An epoch's keys (plain). -/
namespace Go.Vh
open Go Go.Vc
def shortF (b : List UInt8) : List UInt8 := if b.length ≤ 16000 then b else sha b
theorem shortF_len (b : List UInt8) : (shortF b).length ≤ 16000 := by
  unfold shortF
  split
  · assumption
  · rw [sha_len]; omega
theorem shortF_yes {b : List UInt8} (h : b.length ≤ 16000) : shortF b = b := if_pos h
theorem shortF_no {b : List UInt8} (h : ¬ b.length ≤ 16000) : shortF b = sha b := if_neg h
theorem shortF_sha (b : List UInt8) : shortF (sha b) = sha b := shortF_yes (by rw [sha_len]; omega)
theorem labelF_len {k nm c : List UInt8} {n : Int} (h : ¬ (n < 0 ∨ 8160 < n ∨ 40 < nm.length ∨ 16000 < c.length)) : (labelF k nm c n).length = n.toNat := by
  rw [labelF_yes h, expandN_len (by omega) (by omega)]
def nJoiner : List UInt8 := [106, 111, 105, 110, 101, 114]
def nEpoch : List UInt8 := [101, 112, 111, 99, 104]
def nWelcome : List UInt8 := [119, 101, 108, 99, 111, 109, 101]
def nEncrypt : List UInt8 := [101, 110, 99, 114, 121, 112, 116]
def nExport : List UInt8 := [101, 120, 112, 111, 114, 116]
def nConfirm : List UInt8 := [99, 111, 110, 102, 105, 114, 109]
def nMember : List UInt8 := [109, 101, 109, 98, 101, 114]
def nInit : List UInt8 := [105, 110, 105, 116]
def nExported : List UInt8 := [101, 120, 112, 111, 114, 116, 101, 100]
def joinF (i c x : List UInt8) : List UInt8 := labelF (mac (shortF i) (shortF c)) nJoiner (shortF x) 32
def midF (j : List UInt8) : List UInt8 := mac (shortF j) (List.replicate 32 0)
def secF (j x : List UInt8) : List UInt8 := labelF (midF j) nEpoch (shortF x) 32
def epochL (j x : List UInt8) : List (List UInt8) := [labelF (midF j) nWelcome [] 32, secF j x, labelF (secF j x) nEncrypt [] 32, labelF (secF j x) nExport [] 32, labelF (secF j x) nConfirm [] 32, labelF (secF j x) nMember [] 32, labelF (secF j x) nInit [] 32]
def expF (e nm c : List UInt8) (n : Int) : List UInt8 := labelF (labelF (shortF e) nm [] 32) nExported (sha (shortF c)) n
theorem shortF_1 {b : List UInt8} (h : (b.length : Int) ≤ 16000) : b = shortF b := (shortF_yes (by omega)).symm
theorem shortF_2 {b : List UInt8} (h : ¬ (b.length : Int) ≤ 16000) : ((sha b).drop 0).take 32 = shortF b := by rw [shortF_no (by omega), List.drop_zero, List.take_of_length_le (by rw [sha_len]; omega)]
theorem mid_eq (a : List UInt8) : ((mac (shortF a) (((List.replicate 32 (0 : UInt8)).drop 0).take 32)).drop 0).take 32 = midF a := by
  unfold midF
  rw [List.drop_zero, List.drop_zero, List.take_of_length_le (by rw [mac_len]; omega), List.take_of_length_le (by simp)]
abbrev txF (s : List UInt8) : List UInt8 := Go.Vw.textF s
def sumF (a b : List UInt8) : List UInt8 := sha (txF (shortF a) ++ txF (shortF b))
def sameE (e f : List (List UInt8)) : Prop := ∀ j, j < 7 → e.getD j [] = f.getD j []
instance (e f : List (List UInt8)) : Decidable (sameE e f) := by unfold sameE; exact inferInstance
theorem sameE_all {e f : List (List UInt8)} (h0 : e.getD 0 [] = f.getD 0 []) (h1 : e.getD 1 [] = f.getD 1 []) (h2 : e.getD 2 [] = f.getD 2 []) (h3 : e.getD 3 [] = f.getD 3 []) (h4 : e.getD 4 [] = f.getD 4 []) (h5 : e.getD 5 [] = f.getD 5 []) :
    decide (e.getD 6 [] = f.getD 6 []) = decide (sameE e f) := by
  rw [decide_eq_decide]
  exact ⟨fun h6 j hj => by match j, hj with | 0, _ => exact h0 | 1, _ => exact h1 | 2, _ => exact h2 | 3, _ => exact h3 | 4, _ => exact h4 | 5, _ => exact h5 | 6, _ => exact h6, fun h => h 6 (by omega)⟩
theorem sameE_no {e f : List (List UInt8)} {k : Nat} (hk : k < 7) (h : ¬ e.getD k [] = f.getD k []) : false = decide (sameE e f) := (decide_eq_false fun h2 => h (h2 k hk)).symm
theorem sha_tr (t : List UInt8) : ((sha t).drop 0).take 32 = sha t := by rw [List.drop_zero, List.take_of_length_le (by rw [sha_len]; omega)]
theorem sum_pre (a b : List UInt8) : (txF (shortF a)).length ≤ 1048580 ∧ (txF (shortF b)).length ≤ 1048580 := ⟨Go.Vw.textF_len _, Go.Vw.textF_len _⟩
theorem sameE_refl (e : List (List UInt8)) : sameE e e := fun _ _ => rfl
theorem joinF_len (i c x : List UInt8) : (joinF i c x).length = 32 := labelF_len (by have := shortF_len x; simp [nJoiner]; omega)
theorem secF_len (a x : List UInt8) : (secF a x).length = 32 := labelF_len (by have := shortF_len x; simp [nEpoch]; omega)
theorem lab32 {k nm : List UInt8} (h : nm.length ≤ 40) : (labelF k nm [] 32).length = 32 := labelF_len (by simp; omega)
theorem ep_len (a x : List UInt8) {j : Nat} (h : j < 7) : ((epochL a x).getD j []).length = 32 := by
  match j, h with
  | 0, _ => exact lab32 (k := midF a) (nm := nWelcome) (by decide)
  | 1, _ => exact secF_len a x
  | 2, _ => exact lab32 (k := secF a x) (nm := nEncrypt) (by decide)
  | 3, _ => exact lab32 (k := secF a x) (nm := nExport) (by decide)
  | 4, _ => exact lab32 (k := secF a x) (nm := nConfirm) (by decide)
  | 5, _ => exact lab32 (k := secF a x) (nm := nMember) (by decide)
  | 6, _ => exact lab32 (k := secF a x) (nm := nInit) (by decide)
theorem key_len {e m : List UInt8} (h : m.length ≤ 40) : (labelF (shortF e) m [] 32).length = 32 := labelF_len (by simp; omega)
theorem expF_len {e m c : List UInt8} {n : Int} (h0 : 0 ≤ n) (h1 : n ≤ 8160) : (expF e m c n).length = n.toNat := labelF_len (by have := sha_len (shortF c); simp [nExported]; omega)
def lgF (n b : UInt8) : List UInt8 := (List.replicate (16001 + n.toNat) 0).set 0 b
theorem lgF_len (n b : UInt8) : (lgF n b).length = 16001 + n.toNat := by unfold lgF; simp
theorem short_lg (n b : UInt8) : shortF (lgF n b) = shortF (sha (lgF n b)) := by rw [shortF_sha, shortF_no (by rw [lgF_len]; omega)]
theorem join_lg (n b : UInt8) (o : List UInt8) : joinF (lgF n b) o (lgF n b) = joinF (sha (lgF n b)) o (sha (lgF n b)) := by unfold joinF; rw [short_lg]
theorem ep_lg (n b : UInt8) (o : List UInt8) : epochL (lgF n b) o = epochL (sha (lgF n b)) o := by unfold epochL secF midF; rw [short_lg]
theorem sum_lg1 (n b : UInt8) (o : List UInt8) : sumF (lgF n b) o = sumF (sha (lgF n b)) o := by unfold sumF; rw [short_lg]
theorem sum_lg2 (n b : UInt8) (o : List UInt8) : sumF o (lgF n b) = sumF o (sha (lgF n b)) := by unfold sumF; rw [short_lg]
theorem sumF_len (a b : List UInt8) : (sumF a b).length = 32 := sha_len _
theorem same_lg (n b : UInt8) (o : List UInt8) : sameE (epochL (lgF n b) o) (epochL (sha (lgF n b)) o) := by rw [ep_lg]; exact sameE_refl _
theorem sum32 (a b : List UInt8) : ((sumF a b).drop 0).take 32 = sumF a b := by rw [List.drop_zero, List.take_of_length_le (by rw [sumF_len]; omega)]
theorem lg_eq (n b : UInt8) : (((List.replicate (16001 + (n.toNat : Int)).toNat (0 : UInt8)).set 0 b).drop 0).take (16001 + (n.toNat : Int)).toNat = lgF n b := by
  rw [show (16001 + (n.toNat : Int)).toNat = 16001 + n.toNat by omega, List.drop_zero, List.take_of_length_le (by simp)]; rfl
def rexpF (e nm c : List UInt8) (n : Int) : List UInt8 := if 40 < nm.length then [] else expF e nm c n
theorem rexp_no {e nm c : List UInt8} {n : Int} (h : 40 < nm.length) : rexpF e nm c n = [] := if_pos h
theorem rexp_yes {e nm c : List UInt8} {n : Int} (h : ¬ 40 < nm.length) : rexpF e nm c n = expF e nm c n := if_neg h
theorem key_no {e m : List UInt8} (h : 40 < m.length) : (labelF (shortF e) m [] 32).length = 0 := by rw [labelF_no (by omega)]; rfl
theorem rexp_nil {e m c : List UInt8} {n : Int} (h : (labelF (shortF e) m [] 32).length = 0) : rexpF e m c n = [] := by
  by_cases hm : 40 < m.length
  · exact rexp_no hm
  · rw [key_len (by omega)] at h; cases h
theorem rexp_ok {e m c : List UInt8} {n : Int} (h : ¬ (labelF (shortF e) m [] 32).length = 0) : rexpF e m c n = expF e m c n := by
  by_cases hm : 40 < m.length
  · exact absurd (key_no hm) h
  · exact rexp_yes hm
end Go.Vh
