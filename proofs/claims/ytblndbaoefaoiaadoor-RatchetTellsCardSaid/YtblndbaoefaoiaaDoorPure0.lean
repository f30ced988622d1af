/- What is proved: plain facts on lists of bytes and on numbers, for the laws of this seat; no condition. -/
import Derived.Test.YtblndbaoefaoiaaDoorFrame1
import Derived.Test.YtblndbaoefaoiaaDoorFrame2
set_option linter.unusedVariables false
set_option linter.unusedSimpArgs false
namespace Go.Vh
open Go Go.Vc Ieee
def fl (n : Nat) : Nat := FloatKind.f64.nearest (n : Int)
theorem fl_def (n : Nat) : fl n = Ieee.double.nearest false n 0 := by
 show FloatKind.f64.encode (.number (decide ((n : Int) < 0)) (n : Int).natAbs 0) = _
 have : decide ((n : Int) < 0) = false := decide_eq_false (by omega)
 rw [this]; rfl
theorem lp : Ieee.double.leastPlace = -1074 := by decide
theorem bn : Ieee.double.binade = 4503599627370496 := by decide
theorem log_le {n : Nat} (h0 : 0 < n) (h : n < 2 ^ 53) : n.log2 ≤ 52 := by
 have := Nat.log2_lt (by omega : n ≠ 0) |>.2 h
 omega
theorem fl_pos {n : Nat} (h0 : 0 < n) (h : n < 2 ^ 53) : fl n = (n.log2 + 1022) * 4503599627370496 + n * 2 ^ (52 - n.log2) := by
 have hl := log_le h0 h
 rw [fl_def]
 unfold Format.nearest
 rw [if_neg (by omega)]
 simp only [lp, bn]
 have e1 : max ((0 : Int) + (n.log2 : Int) - (Ieee.double.fractionBits : Int)) (-1074) = (n.log2 : Int) - 52 := by
  show max ((0 : Int) + (n.log2 : Int) - 52) (-1074) = _
  omega
 rw [e1]
 have e2 : ((0 : Int) - ((n.log2 : Int) - 52)).toNat = 52 - n.log2 := by omega
 have e3 : ((n.log2 : Int) - 52 - 0).toNat = 0 := by omega
 have e4 : ((n.log2 : Int) - 52 - -1074).toNat = n.log2 + 1022 := by omega
 rw [e2, e3, e4]
 have e5 : Toward.even.cut false (n <<< (52 - n.log2)) 0 = n * 2 ^ (52 - n.log2) := by
  unfold Toward.cut
  simp only [Nat.zero_min, Nat.shiftLeft_zero, Nat.div_one, Nat.mod_one, Nat.mul_zero]
  simp [Nat.shiftLeft_eq]
 rw [e5]
 have hb : n * 2 ^ (52 - n.log2) < 2 ^ 53 := by
  have h1 : n < 2 ^ (n.log2 + 1) := Nat.lt_log2_self
  calc n * 2 ^ (52 - n.log2) < 2 ^ (n.log2 + 1) * 2 ^ (52 - n.log2) := Nat.mul_lt_mul_of_pos_right h1 (Nat.two_pow_pos _)
   _ = 2 ^ 53 := by rw [← Nat.pow_add]; congr 1; omega
 have hi : Ieee.double.infRung = 2047 * 4503599627370496 := by decide
 unfold Format.word
 simp only [Bool.false_eq_true, if_false, hi]
 rw [Nat.min_eq_left]
 have : 2 ^ 53 = 2 * 4503599627370496 := by decide
 omega
theorem dec_pos {n : Nat} (h0 : 0 < n) (h : n < 2 ^ 53) : FloatKind.f64.decode (fl n) = .number false (n * 2 ^ (52 - n.log2)) ((n.log2 : Int) - 52) := by
 have hl := log_le h0 h
 have hb : n * 2 ^ (52 - n.log2) < 2 * 4503599627370496 := by
  have h1 : n < 2 ^ (n.log2 + 1) := Nat.lt_log2_self
  calc n * 2 ^ (52 - n.log2) < 2 ^ (n.log2 + 1) * 2 ^ (52 - n.log2) := Nat.mul_lt_mul_of_pos_right h1 (Nat.two_pow_pos _)
   _ = 2 ^ 53 := by rw [← Nat.pow_add]; congr 1; omega
   _ = _ := by decide
 have hc : 4503599627370496 ≤ n * 2 ^ (52 - n.log2) := by
  have h1 : 2 ^ n.log2 ≤ n := Nat.log2_self_le (by omega)
  calc 4503599627370496 = 2 ^ 52 := by decide
   _ = 2 ^ n.log2 * 2 ^ (52 - n.log2) := by rw [← Nat.pow_add]; congr 1; omega
   _ ≤ _ := Nat.mul_le_mul_right _ h1
 rw [fl_pos h0 h]
 generalize hm : n * 2 ^ (52 - n.log2) = m at hb hc
 show Ieee.double.read _ = _
 unfold Format.read
 have hs : Ieee.double.signWeight = 2048 * 4503599627370496 := by decide
 have hi : Ieee.double.infRung = 2047 * 4503599627370496 := by decide
 simp only [hs, hi, bn, lp]
 have q1 : ((n.log2 + 1022) * 4503599627370496 + m) / (2048 * 4503599627370496) % 2 = 0 := by
  rw [Nat.div_eq_of_lt (by omega)]
 have q2 : ((n.log2 + 1022) * 4503599627370496 + m) % (2048 * 4503599627370496) = (n.log2 + 1022) * 4503599627370496 + m := Nat.mod_eq_of_lt (by omega)
 have q3 : ((n.log2 + 1022) * 4503599627370496 + m) % 4503599627370496 = m - 4503599627370496 := by omega
 have q4 : ((n.log2 + 1022) * 4503599627370496 + m) / 4503599627370496 = n.log2 + 1023 := by omega
 rw [q2, q1, if_neg (by omega), if_pos (by omega), q3, q4]
 simp only [Datum.number.injEq]
 refine ⟨by rfl, by omega, by omega⟩
theorem dec_zero : FloatKind.f64.decode (fl 0) = .number false 0 (-1074) := by decide +kernel
theorem dec_fl {n : Nat} (h : n < 2 ^ 53) : ∃ m p, FloatKind.f64.decode (fl n) = .number false m p ∧ -1074 ≤ p ∧ p ≤ 0 ∧ m = n * 2 ^ (-p).toNat := by
 by_cases h0 : n = 0
 ·subst h0; exact ⟨0, -1074, dec_zero, by omega, by omega, (Nat.zero_mul _).symm⟩
 ·have hl := log_le (by omega) h
  refine ⟨_, _, dec_pos (by omega) h, by omega, by omega, ?_⟩
  congr 2; omega
theorem read_fl {n : Nat} (h : n < 2 ^ 53) : ∃ m p, Ieee.double.read (fl n) = .number false m p ∧ -1074 ≤ p ∧ p ≤ 0 ∧ m = n * 2 ^ (-p).toNat := dec_fl h
theorem cut_exact {m d : Nat} (h : d ≤ (m * 2 ^ d).log2 + 2) : Toward.even.cut false (m * 2 ^ d) d = m := by
 unfold Toward.cut
 have hg : 0 < 2 ^ d := Nat.two_pow_pos d
 simp only [Nat.min_eq_left h, Nat.one_shiftLeft, Nat.mul_div_cancel _ hg, Nat.mul_mod_left]
 have h1 : decide (2 ^ d < 2 * 0) = false := decide_eq_false (by omega)
 have h2 : (2 ^ d == 2 * 0) = false := by
  rw [beq_eq_false_iff_ne]; omega
 rw [h1, h2]
 rfl
theorem near_fl {n : Nat} (h : n < 2 ^ 53) {p : Int} (hp : p ≤ 0) (hp2 : -1074 ≤ p) : Ieee.double.nearest false (n * 2 ^ (-p).toNat) p = fl n := by
 by_cases h0 : n = 0
 ·subst h0
  rw [Nat.zero_mul, fl_def]
  unfold Format.nearest
  rw [if_pos rfl, if_pos rfl]
 have hl := log_le (by omega) h
 obtain ⟨k, hk⟩ : ∃ k : Nat, p = -(k : Int) := ⟨(-p).toNat, by omega⟩
 subst hk
 have ek : (-(-(k : Int))).toNat = k := by omega
 rw [ek, fl_pos (by omega) h]
 have hlog : (n * 2 ^ k).log2 = n.log2 + k := by
  have hn : n * 2 ^ k ≠ 0 := Nat.mul_ne_zero h0 (Nat.ne_of_gt (Nat.two_pow_pos k))
  rw [Nat.log2_eq_iff hn]
  have a1 : 2 ^ n.log2 ≤ n := Nat.log2_self_le h0
  have a2 : n < 2 ^ (n.log2 + 1) := Nat.lt_log2_self
  refine ⟨?_, ?_⟩
  ·rw [Nat.pow_add]; exact Nat.mul_le_mul_right _ a1
  ·rw [show n.log2 + k + 1 = (n.log2 + 1) + k by omega, Nat.pow_add]; exact Nat.mul_lt_mul_of_pos_right a2 (Nat.two_pow_pos _)
 unfold Format.nearest
 rw [if_neg (Nat.mul_ne_zero h0 (Nat.ne_of_gt (Nat.two_pow_pos k)))]
 simp only [lp, bn, hlog]
 have e1 : max (-(k : Int) + ((n.log2 + k : Nat) : Int) - (Ieee.double.fractionBits : Int)) (-1074) = (n.log2 : Int) - 52 := by
  show max (-(k : Int) + ((n.log2 + k : Nat) : Int) - 52) (-1074) = _
  omega
 rw [e1]
 have e4 : ((n.log2 : Int) - 52 - -1074).toNat = n.log2 + 1022 := by omega
 rw [e4]
 have key : Toward.even.cut false ((n * 2 ^ k) <<< (-(k : Int) - ((n.log2 : Int) - 52)).toNat) ((n.log2 : Int) - 52 - -(k : Int)).toNat = n * 2 ^ (52 - n.log2) := by
  by_cases hc : k + n.log2 ≤ 52
  ·have e2 : (-(k : Int) - ((n.log2 : Int) - 52)).toNat = 52 - n.log2 - k := by omega
   have e3 : ((n.log2 : Int) - 52 - -(k : Int)).toNat = 0 := by omega
   rw [e2, e3, Nat.shiftLeft_eq, Nat.mul_assoc, ← Nat.pow_add, show k + (52 - n.log2 - k) = 52 - n.log2 by omega]
   unfold Toward.cut
   simp [Nat.mod_one]
  ·have e2 : (-(k : Int) - ((n.log2 : Int) - 52)).toNat = 0 := by omega
   obtain ⟨d, hd⟩ : ∃ d, ((n.log2 : Int) - 52 - -(k : Int)).toNat = d ∧ k = (52 - n.log2) + d := ⟨_, rfl, by omega⟩
   have hle : d ≤ (n * 2 ^ (52 - n.log2) * 2 ^ d).log2 + 2 := by
    rw [Nat.mul_assoc, ← Nat.pow_add, ← hd.2, hlog]; omega
   rw [e2, hd.1, Nat.shiftLeft_zero, hd.2, Nat.pow_add, ← Nat.mul_assoc]
   exact cut_exact hle
 rw [key]
 have hb : n * 2 ^ (52 - n.log2) < 2 ^ 53 := by
  have h1 : n < 2 ^ (n.log2 + 1) := Nat.lt_log2_self
  calc n * 2 ^ (52 - n.log2) < 2 ^ (n.log2 + 1) * 2 ^ (52 - n.log2) := Nat.mul_lt_mul_of_pos_right h1 (Nat.two_pow_pos _)
   _ = 2 ^ 53 := by rw [← Nat.pow_add]; congr 1; omega
 have hi : Ieee.double.infRung = 2047 * 4503599627370496 := by decide
 unfold Format.word
 simp only [Bool.false_eq_true, if_false, hi]
 rw [Nat.min_eq_left]
 have : 2 ^ 53 = 2 * 4503599627370496 := by decide
 omega
theorem signed_at {n : Nat} {p b : Int} (hp : b ≤ p) (h0 : p ≤ 0) : signed false (n * 2 ^ (-p).toNat) (p - b).toNat = ((n * 2 ^ (-b).toNat : Nat) : Int) := by
 unfold signed
 simp only [Bool.false_eq_true, if_false]
 rw [Nat.shiftLeft_eq, Nat.mul_assoc, ← Nat.pow_add, show (-p).toNat + (p - b).toNat = (-b).toNat by omega]
theorem order_fl {a b : Nat} (ha : a < 2 ^ 53) (hb : b < 2 ^ 53) : FloatKind.f64.format.order (fl a) (fl b) = some (compare a b) := by
 obtain ⟨m, p, h1, h2, h3, rfl⟩ := read_fl ha
 obtain ⟨n, q, h4, h5, h6, rfl⟩ := read_fl hb
 show (Datum.order (Ieee.double.read (fl a)) (Ieee.double.read (fl b))) = _
 rw [h1, h4]
 unfold Datum.order
 simp only
 rw [signed_at (by omega) h3, signed_at (by omega) h6]
 generalize (-min p q).toNat = k
 have hk : 0 < 2 ^ k := Nat.two_pow_pos k
 congr 1
 rcases Nat.lt_trichotomy a b with hl | rfl | hg
 ·rw [show compare a b = .lt from Nat.compare_eq_lt.2 hl]
  have : a * 2 ^ k < b * 2 ^ k := Nat.mul_lt_mul_of_pos_right hl hk
  exact Int.compare_eq_lt.2 (by omega)
 ·rw [show compare a a = .eq from Nat.compare_eq_eq.2 rfl]
  exact Std.compare_self
 ·rw [show compare a b = .gt from Nat.compare_eq_gt.2 hg]
  have : b * 2 ^ k < a * 2 ^ k := Nat.mul_lt_mul_of_pos_right hg hk
  exact Int.compare_eq_gt.2 (by omega)
theorem cut_zero (n k : Nat) : Toward.zero.cut false (n * 2 ^ k) k = n := by
 unfold Toward.cut
 simp only [Bool.toNat_false, Nat.add_zero]
 by_cases h0 : n = 0
 ·subst h0; rw [Nat.zero_mul, Nat.zero_div]
 ·have hg : 0 < 2 ^ k := Nat.two_pow_pos k
  have hl : k ≤ (n * 2 ^ k).log2 + 2 := by
   have h1 : (2 ^ k).log2 ≤ (n * 2 ^ k).log2 := by
    rw [Nat.le_log2 (Nat.mul_ne_zero h0 (Nat.ne_of_gt hg))]
    have h2 : 2 ^ (2 ^ k).log2 ≤ 2 ^ k := Nat.log2_self_le (Nat.ne_of_gt hg)
    exact Nat.le_trans h2 (Nat.le_mul_of_pos_left _ (by omega))
   rw [Nat.log2_two_pow] at h1
   omega
  rw [Nat.min_eq_left hl, Nat.one_shiftLeft, Nat.mul_div_cancel _ hg]
theorem int_fl {n : Nat} (h : n < 2 ^ 53) : (FloatKind.f64.decode (fl n)).toInt .zero = some (n : Int) := by
 obtain ⟨m, p, h1, h2, h3, rfl⟩ := dec_fl h
 rw [h1]
 unfold Datum.toInt Datum.integral
 simp only
 have e1 : p.toNat = 0 := by omega
 rw [e1, Nat.shiftLeft_zero, cut_zero]
 rfl
theorem fltInt_fl {n : Nat} (h : n < 2 ^ 53) : fltInt .f64 (fl n) = some (n : Int) := by
 unfold fltInt
 rw [int_fl h]
 have e1 : IntKind.max .i64 = 9223372036854775807 := by decide
 have e2 : IntKind.min .i64 = -9223372036854775808 := by decide
 have e3 : (2 : Nat) ^ 53 = 9007199254740992 := by decide
 exact if_pos ⟨by omega, by omega⟩
theorem wr_fl {n : Nat} (h : n < 2 ^ 53) {p : Int} (hp : p ≤ 0) (hp2 : -1074 ≤ p) : Ieee.double.write (.number false (n * 2 ^ (-p).toNat) p) = fl n := near_fl h hp hp2
theorem add_fl {a b : Nat} (h : a + b < 2 ^ 53) : FloatKind.f64.format.add (fl a) (fl b) = some (fl (a + b)) := by
 obtain ⟨m, p, h1, h2, h3, rfl⟩ := read_fl (n := a) (by omega)
 obtain ⟨n, q, h4, h5, h6, rfl⟩ := read_fl (n := b) (by omega)
 show ((Datum.sum (Ieee.double.read (fl a)) (Ieee.double.read (fl b))).map Ieee.double.write) = _
 rw [h1, h4]
 unfold Datum.sum
 simp only
 rw [signed_at (by omega) h3, signed_at (by omega) h6]
 have hb1 : min p q ≤ 0 := by omega
 have hb2 : -1074 ≤ min p q := by omega
 generalize hk : min p q = b' at hb1 hb2
 have e : ((a * 2 ^ (-b').toNat : Nat) : Int) + ((b * 2 ^ (-b').toNat : Nat) : Int) = (((a + b) * 2 ^ (-b').toNat : Nat) : Int) := by rw [Nat.add_mul]; omega
 rw [e]
 simp only [Option.map_some, Int.natAbs_natCast]
 congr 1
 rw [show (if ((((a + b) * 2 ^ (-b').toNat : Nat) : Int)) = 0 then false && false else decide ((((a + b) * 2 ^ (-b').toNat : Nat) : Int) < 0)) = false by
  split
  ·rfl
  ·exact decide_eq_false (by omega)]
 exact wr_fl h hb1 hb2
theorem sub_fl {a b : Nat} (ha : a < 2 ^ 53) (h : b ≤ a) : FloatKind.f64.format.sub (fl a) (fl b) = some (fl (a - b)) := by
 obtain ⟨m, p, h1, h2, h3, rfl⟩ := read_fl (n := a) (by omega)
 obtain ⟨n, q, h4, h5, h6, rfl⟩ := read_fl (n := b) (by omega)
 show ((Datum.sum (Ieee.double.read (fl a)) (Ieee.double.read (fl b)).opposite).map Ieee.double.write) = _
 rw [h1, h4]
 unfold Datum.opposite Datum.sum
 simp only
 have hneg : signed (!false) (b * 2 ^ (-q).toNat) (q - min p q).toNat = -(signed false (b * 2 ^ (-q).toNat) (q - min p q).toNat) := rfl
 rw [hneg, signed_at (by omega) h3, signed_at (by omega) h6]
 have hb1 : min p q ≤ 0 := by omega
 have hb2 : -1074 ≤ min p q := by omega
 generalize hk : min p q = b' at hb1 hb2
 have hm : b * 2 ^ (-b').toNat ≤ a * 2 ^ (-b').toNat := Nat.mul_le_mul_right _ h
 have e : ((a * 2 ^ (-b').toNat : Nat) : Int) + -((b * 2 ^ (-b').toNat : Nat) : Int) = (((a - b) * 2 ^ (-b').toNat : Nat) : Int) := by rw [Nat.sub_mul]; omega
 rw [e]
 simp only [Option.map_some, Int.natAbs_natCast]
 congr 1
 rw [show (if ((((a - b) * 2 ^ (-b').toNat : Nat) : Int)) = 0 then false && !false else decide ((((a - b) * 2 ^ (-b').toNat : Nat) : Int) < 0)) = false by
  split
  ·rfl
  ·exact decide_eq_false (by omega)]
 exact wr_fl (by omega) hb1 hb2
theorem mul_fl {a b : Nat} (ha : a < 2 ^ 53) (hb : b < 2 ^ 53) (h : a * b < 2 ^ 53) : FloatKind.f64.format.mul (fl a) (fl b) = some (fl (a * b)) := by
 by_cases h0 : a = 0
 ·subst h0
  obtain ⟨n, q, h4, h5, h6, rfl⟩ := read_fl (n := b) (by omega)
  show ((Datum.product (Ieee.double.read (fl 0)) (Ieee.double.read (fl b))).map Ieee.double.write) = _
  rw [show Ieee.double.read (fl 0) = .number false 0 (-1074) from dec_zero, h4]
  unfold Datum.product
  simp only [Nat.zero_mul, Option.map_some, Bool.xor_self]
  rw [fl_def]
  unfold Format.write Format.nearest
  simp only [if_true]
 by_cases h00 : b = 0
 ·subst h00
  obtain ⟨n, q, h4, h5, h6, rfl⟩ := read_fl (n := a) (by omega)
  show ((Datum.product (Ieee.double.read (fl a)) (Ieee.double.read (fl 0))).map Ieee.double.write) = _
  rw [show Ieee.double.read (fl 0) = .number false 0 (-1074) from dec_zero, h4]
  unfold Datum.product
  simp only [Nat.mul_zero, Option.map_some, Bool.xor_self]
  rw [fl_def]
  unfold Format.write Format.nearest
  simp only [if_true]
 have la := log_le (by omega) ha
 have lb := log_le (by omega) hb
 show ((Datum.product (Ieee.double.read (fl a)) (Ieee.double.read (fl b))).map Ieee.double.write) = _
 rw [show Ieee.double.read (fl a) = _ from dec_pos (by omega) ha, show Ieee.double.read (fl b) = _ from dec_pos (by omega) hb]
 unfold Datum.product
 simp only [Option.map_some, Bool.xor_self]
 congr 1
 have e : a * 2 ^ (52 - a.log2) * (b * 2 ^ (52 - b.log2)) = a * b * 2 ^ (-((a.log2 : Int) - 52 + ((b.log2 : Int) - 52))).toNat := by
  rw [show (-((a.log2 : Int) - 52 + ((b.log2 : Int) - 52))).toNat = (52 - a.log2) + (52 - b.log2) by omega, Nat.pow_add]
  ac_rfl
 rw [e]
 exact wr_fl h (by omega) (by omega)
theorem flt_sub {a b : Nat} (ha : a < 2 ^ 53) (h : b ≤ a) : fltBin .sub .f64 (fl a) (fl b) = some (True, .v (.float .f64 (fl (a - b)))) := by simp only [fltBin, sub_fl ha h]; rfl
theorem flt_mul {a b : Nat} (ha : a < 2 ^ 53) (hb : b < 2 ^ 53) (h : a * b < 2 ^ 53) : fltBin .mul .f64 (fl a) (fl b) = some (True, .v (.float .f64 (fl (a * b)))) := by simp only [fltBin, mul_fl ha hb h]; rfl
theorem flt_eql {a b : Nat} (ha : a < 2 ^ 53) (hb : b < 2 ^ 53) : fltBin .eql .f64 (fl a) (fl b) = some (True, .v (.bool (decide (a = b)))) := by
 simp only [fltBin, fltCmp, order_fl ha hb, Option.map_some]
 rcases Nat.lt_trichotomy a b with h | rfl | h
 ·rw [Nat.compare_eq_lt.2 h, decide_eq_false (by omega)]; rfl
 ·rw [Nat.compare_eq_eq.2 rfl, decide_eq_true rfl]; rfl
 ·rw [Nat.compare_eq_gt.2 h, decide_eq_false (by omega)]; rfl
theorem flt_geq {a b : Nat} (ha : a < 2 ^ 53) (hb : b < 2 ^ 53) : fltBin .geq .f64 (fl a) (fl b) = some (True, .v (.bool (decide (b ≤ a)))) := by
 simp only [fltBin, fltCmp, order_fl ha hb, Option.map_some]
 rcases Nat.lt_trichotomy a b with h | rfl | h
 ·rw [Nat.compare_eq_lt.2 h, decide_eq_false (by omega)]; rfl
 ·rw [Nat.compare_eq_eq.2 rfl, decide_eq_true (Nat.le_refl _)]; rfl
 ·rw [Nat.compare_eq_gt.2 h, decide_eq_true (by omega)]; rfl
theorem flt_leq {a b : Nat} (ha : a < 2 ^ 53) (hb : b < 2 ^ 53) : fltBin .leq .f64 (fl a) (fl b) = some (True, .v (.bool (decide (a ≤ b)))) := by
 simp only [fltBin, fltCmp, order_fl ha hb, Option.map_some]
 rcases Nat.lt_trichotomy a b with h | rfl | h
 ·rw [Nat.compare_eq_lt.2 h, decide_eq_true (by omega)]; rfl
 ·rw [Nat.compare_eq_eq.2 rfl, decide_eq_true (Nat.le_refl _)]; rfl
 ·rw [Nat.compare_eq_gt.2 h, decide_eq_false (by omega)]; rfl
theorem cpx_add {a b c d : Nat} (h : a + c < 2 ^ 53) (h2 : b + d < 2 ^ 53) : cpxBin .add .f64 (fl a) (fl b) (fl c) (fl d) = some (True, .v (.complex .f64 (fl (a + c)) (fl (b + d)))) := by
 simp only [cpxBin, add_fl h, add_fl h2]
theorem fl_of {n : Int} {m : Nat} (h : n = (m : Int)) : FloatKind.f64.nearest n = fl m := by subst h; rfl
theorem flc {n B : Nat} (h : fl n = B) : BV.p (.v (.float .f64 B)) = .p (.v (.float .f64 (fl n))) := by rw [h]
theorem cpc {n m A B : Nat} (h : fl n = A) (h2 : fl m = B) : BV.p (.v (.complex .f64 A B)) = .p (.v (.complex .f64 (fl n) (fl m))) := by rw [h, h2]
theorem le_cx {k : FloatKind} {a b c d : Nat} (h : a = c) (h2 : b = d) : (BV.p (.v (.complex k a b))).le (.p (.v (.complex k c d))) := by subst h; subst h2; exact .refl _
theorem fl_0 : fl 0 = 0 := by decide +kernel
theorem fl_1 : fl 1 = 4607182418800017408 := by decide +kernel
theorem fl_2 : fl 2 = 4611686018427387904 := by decide +kernel
end Go.Vh

namespace Go.Vw
open Go Go.Vc
def fitsF (n : Int) : Bool := decide (n = 1 ∨ n = 2 ∨ n = 4 ∨ n = 8)
theorem fitsT {n : Int} (h : fitsF n = true) : n = 1 ∨ n = 2 ∨ n = 4 ∨ n = 8 := by simpa [fitsF] using h
theorem fitsN {n : Int} (h : fitsF n = false) : ¬ (n = 1 ∨ n = 2 ∨ n = 4 ∨ n = 8) := by simpa [fitsF] using h
theorem fits_t {n : Int} (h : n = 1 ∨ n = 2 ∨ n = 4 ∨ n = 8) : true = fitsF n := by simp [fitsF, h]
theorem fits_f {n : Int} (h : ¬ (n = 1 ∨ n = 2 ∨ n = 4 ∨ n = 8)) : false = fitsF n := by simp only [fitsF]; exact (decide_eq_false h).symm
def beN (l : List UInt8) : Nat := l.foldl (fun n c => n * 256 + c.toNat) 0
theorem ofInt_nat (n : Nat) : BitVec.ofInt 64 (n : Int) = BitVec.ofNat 64 n := by simp
def getF (b : List UInt8) (i n : Int) : Int × Int × Int :=
 if i < 0 ∨ (b.length : Int) < i ∨ ¬ (n = 1 ∨ n = 2 ∨ n = 4 ∨ n = 8) then (0, 0, 1)
 else if (b.length : Int) - i < n then (0, 0, 111)
 else if 9223372036854775808 ≤ beN ((b.take (i + n).toNat).drop i.toNat) then (0, 0, 112)
 else ((beN ((b.take (i + n).toNat).drop i.toNat) : Int), i + n, 0)
def numB (n : Int) (k : Nat) : List UInt8 := (List.range k).map fun j => UInt8.ofInt (n / 256 ^ (k - 1 - j))
def numF (n size : Int) : List UInt8 :=
 if ¬ (size = 1 ∨ size = 2 ∨ size = 4 ∨ size = 8) ∨ n < 0 ∨ (size < 8 ∧ (256 : Int) ^ size.toNat ≤ n) then [] else numB n size.toNat
theorem numB_len (n : Int) (k : Nat) : (numB n k).length = k := by simp [numB]
theorem numF_len (n k : Int) : (numF n k).length ≤ 8 := by
 unfold numF; split
 ·simp
 ·rw [numB_len]; omega
theorem numB_get {n : Int} {k j : Nat} (h : j < k) : (numB n k)[j]? = some (UInt8.ofInt (n / 256 ^ (k - 1 - j))) := by simp [numB, h]
theorem shr_byte (n : Int) (j : Nat) (h : j ≤ 8) : iShr .i64 n (8 * j) = n / 256 ^ j := by
 simp only [iShr, IntKind.bits]
 rw [Nat.min_eq_left (by omega)]
 congr 1
 rw [Int.pow_mul]; rfl
theorem shl_one {k : Int} (hk : k = 1 ∨ k = 2 ∨ k = 4) : iShl .i64 1 (8 * k).toNat = (256 : Int) ^ k.toNat := by
 rcases hk with rfl | rfl | rfl <;> decide
theorem numB_step {n : Int} {k s : Nat} (h : s < k) (h8 : k ≤ 8) : (List.replicate (k - s) 0 ++ (numB n k).drop (k - s)).set (k - 1 - s) (UInt8.ofInt (iShr .i64 n (8 * s))) = List.replicate (k - (s + 1)) 0 ++ (numB n k).drop (k - (s + 1)) := by
 rw [shr_byte n s (by omega)]
 apply List.ext_getElem?
 intro j
 have hl := numB_len n k
 rcases Nat.lt_trichotomy j (k - 1 - s) with h1 | h1 | h1
 ·rw [List.getElem?_set_ne (by omega), List.getElem?_append_left (by simp; omega), List.getElem?_append_left (by simp; omega)]
  simp [show j < k - s by omega, show j < k - (s + 1) by omega]
 ·subst h1
  rw [List.getElem?_set_self (by simp [hl]; omega), List.getElem?_append_right (by simp; omega), List.getElem?_drop, numB_get (by simp; omega)]
  congr 4
  simp; omega
 ·rw [List.getElem?_set_ne (by omega), List.getElem?_append_right (by simp; omega), List.getElem?_append_right (by simp; omega), List.getElem?_drop, List.getElem?_drop]
  congr 1
  simp; omega
theorem numF_bad {n k : Int} (h : ¬ (k = 1 ∨ k = 2 ∨ k = 4 ∨ k = 8) ∨ n < 0) : numF n k = [] := by
 unfold numF; rw [if_pos]; omega
theorem numF_big {n k : Int} (h : k = 1 ∨ k = 2 ∨ k = 4) (h2 : iShl .i64 1 (8 * k).toNat ≤ n) : numF n k = [] := by
 rw [shl_one h] at h2
 unfold numF; rw [if_pos]; exact .inr (.inr ⟨by omega, h2⟩)
theorem numF_ok {n k : Int} (h : k = 1 ∨ k = 2 ∨ k = 4 ∨ k = 8) (h1 : 0 ≤ n) (h2 : ¬ (k < 8 ∧ iShl .i64 1 (8 * k).toNat ≤ n)) : numF n k = numB n k.toNat := by
 unfold numF; rw [if_neg]
 rintro (h3 | h3 | ⟨h3, h4⟩)
 ·exact h3 h
 ·omega
 ·refine h2 ⟨h3, ?_⟩
  rw [shl_one (by omega)]; exact h4
theorem num_step {n k : Int} {s : Nat} (h : s < k.toNat) (h8 : k ≤ 8) : (List.replicate (k.toNat - s) 0 ++ (numB n k.toNat).drop (k.toNat - s)).set (k - 1 - (s : Int)).toNat (UInt8.ofInt (iShr .i64 n (8 * (s : Int)).toNat)) = List.replicate (k.toNat - (s + 1)) 0 ++ (numB n k.toNat).drop (k.toNat - (s + 1)) := by
 rw [show (k - 1 - (s : Int)).toNat = k.toNat - 1 - s from by omega, show (8 * (s : Int)).toNat = 8 * s from by omega]
 exact numB_step h (by omega)
theorem num_fin {n k : Int} {s : Nat} (h : s = k.toNat) : List.replicate (k.toNat - s) (0 : UInt8) ++ (numB n k.toNat).drop (k.toNat - s) = numB n k.toNat := by
 subst h; simp
def tblI (k : Int) : Int := ([6, 14, 30] : List Int).getD k.toNat 0
def lenF (n : Int) : List UInt8 :=
 if n < 64 then [UInt8.ofInt n] else if n < 16384 then [UInt8.ofInt (n / 256 + 64), UInt8.ofInt n]
 else [UInt8.ofInt (n / 16777216 + 128), UInt8.ofInt (n / 65536), UInt8.ofInt (n / 256), UInt8.ofInt n]
def spanN (b : List UInt8) (k n from' e : Int) : Int × Int × Int :=
 if e ≠ 0 then (0, 0, e) else if 0 < k ∧ n < iShl .i64 1 (([6, 14, 30] : List Int).getD (k - 1).toNat 0).toNat then (0, 0, 112) else if 1048576 < n then (0, 0, 2)
 else if (b.length : Int) - from' < n then (0, 0, 111) else (from', from' + n, 0)
def spanK (b : List UInt8) (i k : Int) : Int × Int × Int :=
 if k = 3 then (0, 0, 112) else
 spanN b k (iAnd .i64 (getF b i (iShl .i64 1 k.toNat)).1 (iShl .i64 1 (([6, 14, 30] : List Int).getD k.toNat 0).toNat - 1)) (getF b i (iShl .i64 1 k.toNat)).2.1 (getF b i (iShl .i64 1 k.toNat)).2.2
def spanF (b : List UInt8) (i : Int) : Int × Int × Int :=
 if i < 0 ∨ (b.length : Int) < i then (0, 0, 1) else if i = b.length then (0, 0, 111) else spanK b i ((u8Shr (b.getD i.toNat 0) 6).toNat : Int)
def textF (s : List UInt8) : List UInt8 := if 1048576 < s.length then [] else lenF s.length ++ s
def textE (s : List UInt8) : Int := if 1048576 < s.length then 2 else 0
def getTextF (b : List UInt8) (i : Int) : List UInt8 × Int × Int :=
 if (spanF b i).2.2 ≠ 0 then ([], 0, (spanF b i).2.2) else ((b.take (spanF b i).2.1.toNat).drop (spanF b i).1.toNat, (spanF b i).2.1, 0)
def catT (l : List (List UInt8)) : List UInt8 := l.flatMap textF
def okT (l : List (List UInt8)) : Prop := (∀ s, s ∈ l → s.length ≤ 1048576) ∧ (catT l).length ≤ 1048576
instance (l : List (List UInt8)) : Decidable (okT l) := inferInstanceAs (Decidable (_ ∧ _))
def listF (l : List (List UInt8)) : List UInt8 := if okT l then textF (catT l) else []
def listE (l : List (List UInt8)) : Int := if okT l then textE (catT l) else 2
theorem take_full (l m : List UInt8) (n k : Nat) (hn : l.length ≤ n) (hk : m.length ≤ k) : (l.drop 0).take n ++ (m.drop 0).take k = l ++ m := by
 simp [List.take_of_length_le hn, List.take_of_length_le hk]
def parseF (b : List UInt8) : Nat → Int → List (List UInt8) → List (List UInt8) × Int
 | 0, _, out => (out, 0)
 | f + 1, i, out => if i < b.length then (if (getTextF b i).2.2 ≠ 0 then ([], (getTextF b i).2.2) else parseF b f (getTextF b i).2.1 (out ++ [(getTextF b i).1])) else (out, 0)
def parse (b : List UInt8) (i : Int) (out : List (List UInt8)) : List (List UInt8) × Int := parseF b (b.length + 1 - i.toNat) i out
abbrev allOf (b : List UInt8) (i : Int) : List UInt8 := (b.take (spanF b i).2.1.toNat).drop (spanF b i).1.toNat
def getListF (b : List UInt8) (i : Int) : List (List UInt8) × Int × Int :=
 if (spanF b i).2.2 ≠ 0 then ([], 0, (spanF b i).2.2)
 else if (parse (allOf b i) 0 []).2 ≠ 0 then ([], 0, (parse (allOf b i) 0 []).2) else ((parse (allOf b i) 0 []).1, (spanF b i).2.1, 0)
def PL (b : List UInt8) (s : List (List UInt8) × Int) : Prop := 0 ≤ s.2 ∧ s.2 ≤ b.length ∧ s.1.length ≤ s.2 ∧ parse b s.2 s.1 = parse b 0 []
theorem shr_zero {n k : Int} (hk : k = 1 ∨ k = 2 ∨ k = 4) (hn : 0 ≤ n) : iShr .i64 n (8 * k).toNat = 0 ↔ ¬ iShl .i64 1 (8 * k).toNat ≤ n := by
 rw [shl_one hk]
 rcases hk with rfl | rfl | rfl
 ·show n / 2 ^ (min 8 64) = 0 ↔ ¬ (256 : Int) ^ 1 ≤ n
  simp only [show min 8 64 = 8 from rfl, show ((2 : Int) ^ 8) = 256 from rfl, show ((256 : Int) ^ 1) = 256 from rfl]; omega
 ·show n / 2 ^ (min 16 64) = 0 ↔ ¬ (256 : Int) ^ 2 ≤ n
  simp only [show min 16 64 = 16 from rfl, show ((2 : Int) ^ 16) = 65536 from rfl, show ((256 : Int) ^ 2) = 65536 from rfl]; omega
 ·show n / 2 ^ (min 32 64) = 0 ↔ ¬ (256 : Int) ^ 4 ≤ n
  simp only [show min 32 64 = 32 from rfl, show ((2 : Int) ^ 32) = 4294967296 from rfl, show ((256 : Int) ^ 4) = 4294967296 from rfl]; omega
theorem numB_take {n : Int} {k s : Nat} (h : s < k) (h8 : k ≤ 8) : (numB n k).take s ++ [UInt8.ofInt (iShr .i64 n (8 * (k - 1 - s)))] = (numB n k).take (s + 1) := by
 rw [shr_byte n _ (by omega), List.take_add_one, numB_get h]; rfl
theorem iAnd_mask {a : Int} {m : Nat} (h0 : 0 ≤ a) (h1 : a ≤ 9223372036854775807) (hm : m ≤ 62) : iAnd .i64 a ((2 : Int) ^ m - 1) = a % 2 ^ m := by
 obtain ⟨q, rfl⟩ := Int.eq_ofNat_of_zero_le h0
 have hp : 0 < 2 ^ m := Nat.two_pow_pos m
 have e1 : (2 : Int) ^ m - 1 = ((2 ^ m - 1 : Nat) : Int) := by
  have : ((2 : Int) ^ m) = ((2 ^ m : Nat) : Int) := by push_cast; rfl
  omega
 have hb : 2 ^ m ≤ 2 ^ 62 := Nat.pow_le_pow_right (by omega) hm
 have e2 : (BitVec.ofInt 64 (q : Int) &&& BitVec.ofInt 64 ((2 ^ m - 1 : Nat) : Int)).toNat = q % 2 ^ m := by
  rw [ofInt_nat, ofInt_nat, BitVec.toNat_and]
  simp only [BitVec.toNat_ofNat]
  rw [Nat.mod_eq_of_lt (show q < 2 ^ 64 by omega), Nat.mod_eq_of_lt (show 2 ^ m - 1 < 2 ^ 64 by omega), Nat.and_two_pow_sub_one_eq_mod]
 rw [e1]
 show IntKind.i64.wrap ((BitVec.ofInt 64 (q : Int) &&& BitVec.ofInt 64 ((2 ^ m - 1 : Nat) : Int)).toNat : Int) = _
 rw [e2]
 have := Nat.mod_lt q hp
 rw [wrap_i64 (by omega) (by omega)]
 push_cast; rfl
def hdF (b : List UInt8) (i : Int) : Int × Int × Int := ((spanF b i).2.1 - (spanF b i).1, (spanF b i).1, (spanF b i).2.2)
def szOf (c : UInt8) : Int := if 128 ≤ c.toNat then 4 else if 64 ≤ c.toNat then 2 else 1
def lenN (b : List UInt8) (i : Int) (s : Nat) : Nat := (b.getD i.toNat 0).toNat % 64 * 256 ^ (s - 1) + beN ((b.drop (i.toNat + 1)).take (s - 1))
end Go.Vw

namespace Go.Vh
open Go Go.Vc
abbrev nl : List UInt8 := []
def K256 : List UInt32 := [1116352408, 1899447441, 3049323471, 3921009573, 961987163, 1508970993, 2453635748, 2870763221, 3624381080, 310598401, 607225278, 1426881987, 1925078388, 2162078206, 2614888103, 3248222580, 3835390401, 4022224774, 264347078, 604807628, 770255983, 1249150122, 1555081692, 1996064986, 2554220882, 2821834349, 2952996808, 3210313671, 3336571891, 3584528711, 113926993, 338241895, 666307205, 773529912, 1294757372, 1396182291, 1695183700, 1986661051, 2177026350, 2456956037, 2730485921, 2820302411, 3259730800, 3345764771, 3516065817, 3600352804, 4094571909, 275423344, 430227734, 506948616, 659060556, 883997877, 958139571, 1322822218, 1537002063, 1747873779, 1955562222, 2024104815, 2227730452, 2361852424, 2428436474, 2756734187, 3204031479, 3329325298]
def H256 : List UInt32 := [1779033703, 3144134277, 1013904242, 2773480762, 1359893119, 2600822924, 528734635, 1541459225]
def h0 (j : Nat) : UInt32 := H256.getD j 0
def rotr (x : UInt32) (n : Int) : UInt32 := u32Shr x n.toNat ||| u32Shl x (32 - n).toNat
theorem u64_neg : ∀ k : Fin 32, (UInt64.ofInt (-((k.val : Nat) : Int)) &&& 31).toNat = (32 - k.val) % 32 := by decide +kernel
theorem rot_left {x : UInt32} {n : Int} (h : 1 ≤ n ∧ n ≤ 31) : u32Shl x (((UInt64.ofInt (-n) &&& 31).toNat : Int)).toNat ||| u32Shr x (((32 - (UInt64.ofInt (-n) &&& 31) : UInt64).toNat : Int)).toNat = rotr x n := by
 obtain ⟨k, rfl⟩ : ∃ k : Nat, n = k := ⟨n.toNat, by omega⟩
 have h1 := u64_neg ⟨k, by omega⟩
 simp only at h1
 have h2 : (32 - (UInt64.ofInt (-(k : Int)) &&& 31) : UInt64).toNat = k := by
  rw [UInt64.toNat_sub, h1]
  have : (32 : UInt64).toNat = 32 := rfl
  rw [this]; omega
 rw [h1, h2]
 unfold rotr
 rw [UInt32.or_comm]
 congr 2
 omega
def be (b : List UInt8) (i : Nat) : UInt32 := u32Shl (b.getD (4 * i) 0).toUInt32 24 ||| u32Shl (b.getD (4 * i + 1) 0).toUInt32 16 ||| u32Shl (b.getD (4 * i + 2) 0).toUInt32 8 ||| (b.getD (4 * i + 3) 0).toUInt32
def sg0 (x : UInt32) : UInt32 := rotr x 7 ^^^ rotr x 18 ^^^ u32Shr x 3
def sg1 (x : UInt32) : UInt32 := rotr x 17 ^^^ rotr x 19 ^^^ u32Shr x 10
def wdN (b : List UInt8) : Nat → Nat → UInt32
 | 0, j => if j < 16 then be b j else 0
 | k + 1, j => if j = 16 + k then wdN b k k + wdN b k (k + 9) + sg0 (wdN b k (k + 1)) + sg1 (wdN b k (k + 14)) else wdN b k j
def wd (b : List UInt8) : Nat → UInt32 := wdN b 48
def stT (g : Nat → UInt32) (k w : UInt32) : UInt32 := g 7 + (rotr (g 4) 6 ^^^ rotr (g 4) 11 ^^^ rotr (g 4) 25) + (g 6 ^^^ (g 4 &&& (g 5 ^^^ g 6))) + k + w
def stU (g : Nat → UInt32) : UInt32 := (rotr (g 0) 2 ^^^ rotr (g 0) 13 ^^^ rotr (g 0) 22) + ((g 0 &&& g 1) ||| (g 2 &&& (g 0 ||| g 1)))
def step (g : Nat → UInt32) (k w : UInt32) (j : Nat) : UInt32 :=
 match j with
 | 0 => stT g k w + stU g
 | 1 => g 0
 | 2 => g 1
 | 3 => g 2
 | 4 => g 3 + stT g k w
 | 5 => g 4
 | 6 => g 5
 | _ => g 6
def rounds (g w : Nat → UInt32) : Nat → Nat → UInt32
 | 0 => g
 | k + 1 => step (rounds g w k) (K256.getD k 0) (w k)
def comp (g : Nat → UInt32) (b : List UInt8) (j : Nat) : UInt32 := g j + rounds g (wd b) 64 j
theorem u32_ext {a b : UInt32} (h : ∀ i (hi : i < 32), a.toBitVec[i] = b.toBitVec[i]) : a = b := by
 apply UInt32.eq_of_toBitVec_eq
 ext i hi
 exact h i hi
theorem ch_ref (e f g : UInt32) : (e &&& f) ^^^ (~~~e &&& g) = g ^^^ (e &&& (f ^^^ g)) := by
 refine u32_ext fun i hi => ?_
 simp
 cases e.toBitVec[i] <;> cases f.toBitVec[i] <;> cases g.toBitVec[i] <;> rfl
theorem maj_ref (a b c : UInt32) : (a &&& b) ^^^ (a &&& c) ^^^ (b &&& c) = (a &&& b) ||| (c &&& (a ||| b)) := by
 refine u32_ext fun i hi => ?_
 simp
 cases a.toBitVec[i] <;> cases b.toBitVec[i] <;> cases c.toBitVec[i] <;> rfl
def refT (g : Nat → UInt32) (k w : UInt32) : UInt32 := g 7 + (rotr (g 4) 6 ^^^ rotr (g 4) 11 ^^^ rotr (g 4) 25) + ((g 4 &&& g 5) ^^^ (~~~(g 4) &&& g 6)) + k + w
def refU (g : Nat → UInt32) : UInt32 := (rotr (g 0) 2 ^^^ rotr (g 0) 13 ^^^ rotr (g 0) 22) + ((g 0 &&& g 1) ^^^ (g 0 &&& g 2) ^^^ (g 1 &&& g 2))
theorem refT_eq (g : Nat → UInt32) (k w : UInt32) : refT g k w = stT g k w := by unfold refT stT; rw [ch_ref]
theorem refU_eq (g : Nat → UInt32) : refU g = stU g := by unfold refU stU; rw [maj_ref]
theorem ref0 (g : Nat → UInt32) (k w : UInt32) : refT g k w + refU g = step g k w 0 := by rw [refT_eq, refU_eq]; rfl
theorem ref4 (g : Nat → UInt32) (k w : UInt32) : g 3 + refT g k w = step g k w 4 := by rw [refT_eq]; rfl
theorem wd_ref (b : List UInt8) (k : Nat) : wdN b k k + sg0 (wdN b k (k + 1)) + wdN b k (k + 9) + sg1 (wdN b k (k + 14)) = wdN b (k + 1) (16 + k) := by
 rw [wdN, if_pos rfl]
 congr 1
 rw [UInt32.add_assoc, UInt32.add_comm (sg0 _), ← UInt32.add_assoc]
theorem be_congr {b b' : List UInt8} (h : ∀ i, i < 64 → b.getD i 0 = b'.getD i 0) {i : Nat} (hi : i < 16) : be b i = be b' i := by
 unfold be
 rw [h (4 * i) (by omega), h (4 * i + 1) (by omega), h (4 * i + 2) (by omega), h (4 * i + 3) (by omega)]
theorem wdN_congr {b b' : List UInt8} (h : ∀ i, i < 64 → b.getD i 0 = b'.getD i 0) : ∀ k, wdN b k = wdN b' k
 | 0 => by
  funext j
  simp only [wdN]
  by_cases hj : j < 16
  ·rw [if_pos hj, if_pos hj, be_congr h hj]
  ·rw [if_neg hj, if_neg hj]
 | k + 1 => by
  have ih := wdN_congr h k
  funext j
  simp only [wdN, ih]
theorem comp_congr {b b' : List UInt8} (h : ∀ i, i < 64 → b.getD i 0 = b'.getD i 0) (g : Nat → UInt32) : comp g b = comp g b' := by
 funext j
 unfold comp
 rw [show wd b = wd b' from wdN_congr h 48]
theorem comp_take (g : Nat → UInt32) (b : List UInt8) {n : Nat} (hn : 64 ≤ n) : comp g (b.take n) = comp g b :=
 comp_congr (fun i hi => by simp only [List.getD_eq_getElem?_getD, List.getElem?_take]; rw [if_pos (by omega)]) g
def stN (l : List UInt8) : Nat → Nat → UInt32
 | 0 => h0
 | k + 1 => comp (stN l k) (l.drop (64 * k))
theorem stN_app (l p : List UInt8) : ∀ k, 64 * k ≤ l.length → stN (l ++ p) k = stN l k
 | 0, _ => rfl
 | k + 1, h => by
  simp only [stN]
  rw [stN_app l p k (by omega)]
  refine comp_congr (fun i hi => ?_) _
  simp only [List.getD_eq_getElem?_getD, List.getElem?_drop]
  rw [List.getElem?_append_left (by omega)]
def hst (l : List UInt8) : Nat → UInt32 := stN l (l.length / 64)
def rst (l : List UInt8) : List UInt8 := l.drop (64 * (l.length / 64))
def jn (l p : List UInt8) : List UInt8 := (rst l ++ p).take (64 * ((rst l ++ p).length / 64))
theorem rst_len (l : List UInt8) : (rst l).length = l.length % 64 := by unfold rst; rw [List.length_drop]; omega
theorem rst_app (l p : List UInt8) : rst (l ++ p) = (rst l ++ p).drop (64 * ((rst l ++ p).length / 64)) := by
 have hl := rst_len l
 have e : rst l ++ p = (l ++ p).drop (64 * (l.length / 64)) := by
  unfold rst
  rw [List.drop_append_of_le_length (by omega)]
 rw [e, List.drop_drop, List.length_drop]
 unfold rst
 congr 1
 rw [List.length_append]
 omega
theorem jn_rst (l p : List UInt8) : jn l p ++ rst (l ++ p) = rst l ++ p := by rw [rst_app]; exact List.take_append_drop _ _
theorem jn_len (l p : List UInt8) : (jn l p).length = 64 * ((rst l ++ p).length / 64) := by unfold jn; rw [List.length_take]; omega
theorem wr_0 (l p : List UInt8) (i : Nat) : hst l i = stN (l ++ p) (l.length / 64 + 0) i := by
 rw [Nat.add_zero, stN_app l p _ (by omega)]; rfl
theorem wr_1 {l p : List UInt8} {s n : Nat} (h : 64 ≤ n) (i : Nat) : comp (stN (l ++ p) (l.length / 64 + s)) (((rst l ++ p).drop (64 * s)).take n) i = stN (l ++ p) (l.length / 64 + (s + 1)) i := by
 rw [comp_take _ _ h, show l.length / 64 + (s + 1) = (l.length / 64 + s) + 1 by omega]
 simp only [stN]
 congr 1
 unfold rst
 rw [← List.drop_append_of_le_length (by omega), List.drop_drop]
 congr 1
 omega
theorem wr_2 {l p : List UInt8} {s : Nat} (h1 : 64 * s ≤ (rst l ++ p).length) (h2 : (rst l ++ p).length < 64 * s + 64) (i : Nat) : stN (l ++ p) (l.length / 64 + s) i = hst (l ++ p) i := by
 have hl := rst_len l
 unfold hst
 rw [List.length_append] at h1 h2 ⊢
 rw [show (l.length + p.length) / 64 = l.length / 64 + s by omega]
theorem u64_ofInt (n : Nat) : UInt64.ofInt (n : Int) = UInt64.ofNat n := by
 apply UInt64.toNat_inj.1
 simp only [UInt64.ofInt, UInt64.toNat_ofNat']
 omega
theorem u64_app (l p : List UInt8) : UInt64.ofNat l.length + UInt64.ofInt (p.length : Int) = UInt64.ofNat (l ++ p).length := by
 rw [List.length_append, UInt64.ofNat_add, u64_ofInt]
theorem ap_full {l0 l : List UInt8} {n : Nat} (h : l0.length ≤ n) : (l0.drop 0).take n ++ l = l0 ++ l := by rw [List.drop_zero, List.take_of_length_le h]
def zlen (n : Nat) : Nat := (119 - n % 64) % 64
def len8 (m : UInt64) : Nat → List UInt8
 | 0 => []
 | k + 1 => len8 m k ++ [(u64Shr (u64Shl m 3) (56 - 8 * k)).toUInt8]
theorem len8_len (m : UInt64) : ∀ k, (len8 m k).length = k
 | 0 => rfl
 | k + 1 => by simp [len8, len8_len m k]
def pad (l : List UInt8) : List UInt8 := [128] ++ List.replicate (zlen l.length) 0 ++ len8 (UInt64.ofNat l.length) 8
def ptx (l : List UInt8) : List UInt8 := l ++ pad l
def w4 (x : UInt32) : List UInt8 := [(u32Shr x 24).toUInt8, (u32Shr x 16).toUInt8, (u32Shr x 8).toUInt8, x.toUInt8]
def outN (g : Nat → UInt32) : Nat → List UInt8
 | 0 => []
 | k + 1 => outN g k ++ w4 (g k)
theorem outN_len (g : Nat → UInt32) : ∀ k, (outN g k).length = 4 * k
 | 0 => rfl
 | k + 1 => by simp only [outN, List.length_append, outN_len g k, w4, List.length_cons, List.length_nil]; omega
def sha (l : List UInt8) : List UInt8 := outN (stN (ptx l) ((ptx l).length / 64)) 8
theorem sha_len (l : List UInt8) : (sha l).length = 32 := outN_len _ 8
theorem pad_len (l : List UInt8) : (pad l).length = 9 + zlen l.length := by
 unfold pad
 simp only [List.length_append, List.length_cons, List.length_nil, List.length_replicate, len8_len]
 omega
theorem ptx_64 (l : List UInt8) : (ptx l).length % 64 = 0 := by
 unfold ptx
 rw [List.length_append, pad_len]
 unfold zlen
 omega
theorem su_1 {l : List UInt8} {s n : Nat} (h : 64 ≤ n) (i : Nat) : comp (stN (ptx l) (l.length / 64 + s)) (((rst l ++ pad l).drop (64 * s)).take n) i = stN (ptx l) (l.length / 64 + (s + 1)) i := wr_1 h i
theorem su_0 (l : List UInt8) (i : Nat) : hst l i = stN (ptx l) (l.length / 64 + 0) i := wr_0 l (pad l) i
theorem su_2 {l : List UInt8} {s : Nat} (h : 64 * s = (rst l ++ pad l).length) : l.length / 64 + s = (ptx l).length / 64 := by
 have hl := rst_len l
 unfold ptx
 rw [List.length_append] at h ⊢
 omega
theorem mul_shl (m : UInt64) : m * 8 = u64Shl m 3 := by
 apply UInt64.toNat_inj.1
 simp only [u64Shl, UInt64.toNat_mul, UInt64.toNat_ofNat']
 rfl
theorem rs_1 {l : List UInt8} {s n : Nat} (h : 64 ≤ n) (i : Nat) : comp (stN l s) ((l.drop (64 * s)).take n) i = stN l (s + 1) i := by
 rw [comp_take _ _ h]; rfl
def xorF (a b : List UInt8) : Nat → UInt8
 | 0 => 0
 | k + 1 => xorF a b k ||| (a.getD k 0 ^^^ b.getD k 0)
def longF (t : List UInt8) : List UInt8 :=
 if (t.length : Int) < 64 then [UInt8.ofInt t.length] ++ t else [UInt8.ofInt ((t.length : Int) / 256) ||| 64, UInt8.ofInt t.length] ++ t
theorem longF_len (t : List UInt8) : (longF t).length ≤ t.length + 2 := by
 unfold longF
 split <;> simp
def cat (l : List (List UInt8)) : List UInt8 := l.flatten
theorem cat_take (l : List (List UInt8)) {k : Nat} (h : k < l.length) : cat (l.take (k + 1)) = cat (l.take k) ++ l.getD k [] := by
 unfold cat
 rw [List.take_add_one, List.flatten_append, List.getD_eq_getElem?_getD, List.getElem?_eq_getElem h]
 simp
theorem cat_take_le (l : List (List UInt8)) (k : Nat) : (cat (l.take k)).length ≤ (cat l).length := by
 have : cat l = cat (l.take k) ++ cat (l.drop k) := by unfold cat; rw [← List.flatten_append, List.take_append_drop]
 rw [this, List.length_append]; omega
theorem u8_or64 : ∀ k : Fin 64, UInt8.ofInt (((k.val + 64 : Nat) : Nat) : Int) = UInt8.ofInt ((k.val : Nat) : Int) ||| 64 := by decide +kernel
theorem long_r1 {n : Nat} (h : n < 16384) : UInt8.ofInt (((n : Int) + 16384) / 256) = UInt8.ofInt ((n : Int) / 256) ||| 64 := by
 have h1 := u8_or64 ⟨n / 256, by omega⟩
 simp only at h1
 rw [show ((n : Int) + 16384) / 256 = ((n / 256 + 64 : Nat) : Int) by omega, show (n : Int) / 256 = ((n / 256 : Nat) : Int) by omega]
 exact h1
theorem long_r2 (n : Nat) : UInt8.ofInt ((n : Int) + 16384) = UInt8.ofInt n := by
 apply UInt8.toNat_inj.1
 simp only [UInt8.ofInt, UInt8.toNat_ofNat']
 omega
def cb (l : List (List UInt8)) (r : Nat) : List UInt8 := if r = 0 then List.replicate (cat l).length 0 else cat (l.take r)
theorem cb_take (l : List (List UInt8)) (r : Nat) (x : List UInt8) : ((cb l r).drop 0).take (cat (l.take r)).length ++ x = cat (l.take r) ++ x := by
 unfold cb
 split
 ·rename_i h; subst h; simp [cat]
 ·rw [List.drop_zero, List.take_length]
theorem cb_end {l : List (List UInt8)} {r : Nat} (h : r = l.length) : cb l r = cat l := by
 unfold cb
 split
 ·rename_i h0
  have : l = [] := List.eq_nil_of_length_eq_zero (by omega)
  subst this; rfl
 ·rw [h, List.take_length]
theorem cb_0 (l : List (List UInt8)) : cb l 0 = List.replicate (cat l).length 0 := rfl
def key0 (k : List UInt8) : List UInt8 := if 64 < k.length then sha k else k
theorem key0_le (k : List UInt8) : (key0 k).length ≤ 64 := by
 unfold key0
 split
 ·rw [sha_len]; omega
 ·omega
def padN (k : List UInt8) (c : UInt8) : Nat → List UInt8
 | 0 => []
 | n + 1 => padN k c n ++ [k.getD n 0 ^^^ c]
theorem padN_len (k : List UInt8) (c : UInt8) : ∀ n, (padN k c n).length = n
 | 0 => rfl
 | n + 1 => by simp [padN, padN_len k c n]
def padF (k : List UInt8) (c : UInt8) : List UInt8 := padN k c 64
theorem padF_len (k : List UInt8) (c : UInt8) : (padF k c).length = 64 := padN_len k c 64
def mac (k t : List UInt8) : List UInt8 := sha (padF (key0 k) 92 ++ sha (padF (key0 k) 54 ++ t))
theorem mac_len (k t : List UInt8) : (mac k t).length = 32 := sha_len _
def padL (k : List UInt8) (c : UInt8) (s : Nat) : List UInt8 := padN k c s ++ (k ++ List.replicate (64 - k.length) 0).drop s
theorem padL_len {k : List UInt8} (h : k.length ≤ 64) (c : UInt8) {s : Nat} (hs : s ≤ 64) : (padL k c s).length = 64 := by
 unfold padL
 simp only [List.length_append, padN_len, List.length_drop, List.length_replicate]
 omega
theorem padL_get {k : List UInt8} (h : k.length ≤ 64) (c : UInt8) {s : Nat} (hs : s < 64) : (padL k c s).getD s 0 = k.getD s 0 := by
 unfold padL
 simp only [List.getD_eq_getElem?_getD]
 rw [List.getElem?_append_right (by rw [padN_len]; omega), padN_len, Nat.sub_self, List.getElem?_drop, Nat.add_zero]
 rcases Nat.lt_or_ge s k.length with h1 | h1
 ·rw [List.getElem?_append_left h1]
 ·rw [List.getElem?_append_right h1, List.getElem?_replicate, if_pos (by omega), List.getElem?_eq_none h1]; rfl
theorem padL_succ {k : List UInt8} (h : k.length ≤ 64) (c : UInt8) {s : Nat} (hs : s < 64) : (padL k c s).set s (k.getD s 0 ^^^ c) = padL k c (s + 1) := by
 have hl : (k ++ List.replicate (64 - k.length) 0 : List UInt8).length = 64 := by simp; omega
 unfold padL
 rw [List.set_append_right _ _ (by rw [padN_len]; omega), padN_len, Nat.sub_self, padN, List.append_assoc]
 congr 1
 rw [List.drop_eq_getElem_cons (i := s) (by omega)]
 rfl
theorem padL_64 {k : List UInt8} (h : k.length ≤ 64) (c : UInt8) : padL k c 64 = padF k c := by
 unfold padL padF
 rw [List.drop_of_length_le (by simp; omega), List.append_nil]
theorem padL_0 {k : List UInt8} (h : k.length ≤ 64) (c : UInt8) : (List.replicate 64 (0 : UInt8)).take 0 ++ k.take 64 ++ (List.replicate 64 (0 : UInt8)).drop (0 + min k.length 64) = padL k c 0 := by
 unfold padL padN
 rw [List.take_of_length_le h, Nat.min_eq_left h, List.take_zero, List.nil_append, List.nil_append, List.drop_zero, List.drop_replicate, Nat.zero_add]
theorem ap_sha (l : List UInt8) : ((sha l).drop 0).take 32 = sha l := by rw [List.drop_zero, List.take_of_length_le (by rw [sha_len]; omega)]
attribute [irreducible] padF mac sha
def tN (k i : List UInt8) : Nat → List UInt8
 | 0 => []
 | s + 1 => mac k (cat [tN k i s, i, [UInt8.ofInt ((s : Int) + 1)]])
def okm (k i : List UInt8) : Nat → List UInt8
 | 0 => []
 | s + 1 => okm k i s ++ tN k i (s + 1)
theorem okm_len (k i : List UInt8) : ∀ s, (okm k i s).length = 32 * s
 | 0 => rfl
 | s + 1 => by simp only [okm, List.length_append, okm_len k i s, tN, mac_len]; omega
def expand (k i : List UInt8) (n : Nat) : List UInt8 := (okm k i ((n + 31) / 32)).take n
theorem tN_len (k i : List UInt8) (s : Nat) : (tN k i (s + 1)).length = 32 := by unfold tN; exact mac_len _ _
theorem tN_le (k i : List UInt8) : ∀ s, (tN k i s).length ≤ 32
 | 0 => Nat.zero_le _
 | s + 1 => Nat.le_of_eq (tN_len k i s)
theorem cat3_len (a b : List UInt8) (c : UInt8) : (cat [a, b, [c]]).length = a.length + b.length + 1 := by simp [cat]; omega
def expandN (k i : List UInt8) (n : Int) : List UInt8 := if n < 0 ∨ 8160 < n then [] else expand k i n.toNat
theorem expandN_no {k i : List UInt8} {n : Int} (h : n < 0 ∨ 8160 < n) : expandN k i n = [] := if_pos h
theorem expandN_0 {k i : List UInt8} {n : Int} (h : n = 0) : expandN k i n = [] := by subst h; rfl
theorem okm_end {k i : List UInt8} {n : Int} {s : Nat} (h0 : 32 * (s : Int) < n) (h1 : n ≤ 8160) (h : 32 * s + min 32 (n.toNat - 32 * s) = n.toNat) : okm k i s ++ (tN k i (s + 1)).take (min 32 (n.toNat - 32 * s)) = expandN k i n := by
 unfold expandN
 rw [if_neg (by omega)]
 unfold expand
 rw [show (n.toNat + 31) / 32 = s + 1 by omega, okm, List.take_append, List.take_of_length_le (l := okm k i s) (by rw [okm_len]; omega), okm_len]
 congr 2
 omega
theorem okm_next {k i : List UInt8} {m s : Nat} (h : m = 32) : okm k i s ++ (tN k i (s + 1)).take m = okm k i (s + 1) := by
 subst h
 rw [List.take_of_length_le (by rw [tN_len]; omega)]; rfl
theorem okm_ap {k i : List UInt8} {s m m' : Nat} (hm : m = m') : ((okm k i s).drop 0).take (32 * s) ++ (tN k i (s + 1)).take m = okm k i s ++ (tN k i (s + 1)).take m' := by
 subst hm
 rw [List.drop_zero, List.take_of_length_le (by rw [okm_len]; omega)]
theorem tN_succ (k i : List UInt8) (s : Nat) : ((mac k (((cat [tN k i s, i, [UInt8.ofInt ((s : Int) + 1)]]).drop 0).take (cat [tN k i s, i, [UInt8.ofInt ((s : Int) + 1)]]).length)).drop 0).take 32 = tN k i (s + 1) := by
 rw [List.drop_zero, List.drop_zero, List.take_length, List.take_of_length_le (by rw [mac_len]; omega)]; rfl
theorem expandN_len {k i : List UInt8} {n : Int} (h0 : 0 ≤ n) (h1 : n ≤ 8160) : (expandN k i n).length = n.toNat := by
 unfold expandN
 rw [if_neg (by omega)]
 unfold expand
 rw [List.length_take, okm_len]
 omega
end Go.Vh

namespace Go.Vh
theorem padN_64 (k : List UInt8) (c : UInt8) : padN k c 64 = padF k c := by unfold padF; rfl
theorem padN_succ {k : List UInt8} {c x : UInt8} {n : Nat} (h : x = k.getD n 0) : padN k c n ++ [x ^^^ c] = padN k c (n + 1) := by subst h; rfl
theorem mac_def (k t : List UInt8) : mac k t = sha (padF (key0 k) 92 ++ sha (padF (key0 k) 54 ++ t)) := by unfold mac; rfl
def lbl : List UInt8 := [71, 75, 65, 32, 49, 46, 48, 32]
def infoBad (nm c : List UInt8) (n : Int) : Prop := n < 0 ∨ 8160 < n ∨ 40 < nm.length ∨ 16000 < c.length
instance (nm c : List UInt8) (n : Int) : Decidable (infoBad nm c n) := by unfold infoBad; exact inferInstance
def infoG (nm c : List UInt8) (n : Int) : List UInt8 := [UInt8.ofInt (n / 256), UInt8.ofInt n] ++ longF (lbl ++ nm) ++ longF c
def infoF (nm c : List UInt8) (n : Int) : List UInt8 := if infoBad nm c n then [] else infoG nm c n
def labelF (k nm c : List UInt8) (n : Int) : List UInt8 := if infoBad nm c n then [] else expandN k (infoG nm c n) n
theorem infoF_no {nm c : List UInt8} {n : Int} (h : n < 0 ∨ 8160 < n ∨ 40 < nm.length ∨ 16000 < c.length) : infoF nm c n = [] := if_pos h
theorem infoF_yes {nm c : List UInt8} {n : Int} (h : ¬ (n < 0 ∨ 8160 < n ∨ 40 < nm.length ∨ 16000 < c.length)) : infoF nm c n = infoG nm c n := if_neg h
theorem labelF_no {k nm c : List UInt8} {n : Int} (h : n < 0 ∨ 8160 < n ∨ 40 < nm.length ∨ 16000 < c.length) : labelF k nm c n = [] := if_pos h
theorem labelF_yes {k nm c : List UInt8} {n : Int} (h : ¬ (n < 0 ∨ 8160 < n ∨ 40 < nm.length ∨ 16000 < c.length)) : labelF k nm c n = expandN k (infoG nm c n) n := if_neg h
theorem infoF_nil {k nm c : List UInt8} {n : Int} (h : (infoF nm c n).length = 0) : labelF k nm c n = [] := by
 unfold infoF at h; unfold labelF
 split
 ·rfl
 ·rename_i hb
  rw [if_neg hb] at h
  unfold infoG at h
  simp only [List.length_append, List.length_cons] at h
  omega
theorem infoF_some {k nm c : List UInt8} {n : Int} (h : ¬ (infoF nm c n).length = 0) : expandN k (infoF nm c n) n = labelF k nm c n := by
 unfold infoF at h ⊢; unfold labelF
 split
 ·rename_i hb
  rw [if_pos hb] at h
  exact absurd rfl h
 ·rfl
theorem infoF_len (nm c : List UInt8) (n : Int) : (infoF nm c n).length ≤ 16100 := by
 unfold infoF
 split
 ·exact Nat.zero_le _
 ·rename_i hb
  unfold infoBad at hb
  unfold infoG
  have h1 := longF_len (lbl ++ nm)
  have h2 := longF_len c
  simp only [List.length_append, List.length_cons, List.length_nil, lbl] at h1 ⊢
  omega
theorem infoG_cat (nm c : List UInt8) (n : Int) : cat [[UInt8.ofInt (n / 256), UInt8.ofInt n], longF (lbl ++ nm), longF c] = infoG nm c n := by simp [cat, infoG]
theorem take_full (l : List UInt8) : (l.drop 0).take l.length = l := by rw [List.drop_zero, List.take_length]
theorem okm_get {k i : List UInt8} {n : Int} {s : Nat} (h0 : ¬ n < 0) (h1 : n ≤ 8160) (h2 : 32 * (s : Int) < n + 32) (h3 : ¬ (32 * (s : Int) < n)) : (okm k i s).take n.toNat = expandN k i n := by
 unfold expandN
 rw [if_neg (by omega)]
 unfold expand
 rw [show (n.toNat + 31) / 32 = s by omega]
end Go.Vh

namespace Go.Vw
open Go Go.Vc
def want1 (k : Int) : Int := if 64 ≤ k then k + 2 else k + 1
def want2 (k : Int) : Int := if 16384 ≤ k then k + 4 else want1 k
def szC (c : UInt8) : Int := iShl .i64 1 ((c % 4).toNat : Int).toNat
def mC (n : UInt32) (c : UInt8) : Int := if szC c < 4 then iAnd .i64 (n.toNat : Int) (iShl .i64 1 (8 * szC c).toNat - 1) else (n.toNat : Int)
def incF (s : Nat) (b : List UInt8) : List UInt8 := (b.take s).map (· + 1) ++ b.drop s
end Go.Vw

namespace Go.Vh
def xa (a : List UInt8) (t y : UInt8) : List UInt8 := if a.length = 0 then a else a.set (t.toNat % a.length) (a.getD (t.toNat % a.length) 0 ^^^ y)
def incV (s : Nat) (b : List UInt8) : List UInt8 := Go.Vw.incF s b
end Go.Vh

namespace Go.Vh
open Go Go.Vc
def shortF (b : List UInt8) : List UInt8 := if b.length ≤ 16000 then b else sha b
theorem labelF_len {k nm c : List UInt8} {n : Int} (h : ¬ (n < 0 ∨ 8160 < n ∨ 40 < nm.length ∨ 16000 < c.length)) : (labelF k nm c n).length = n.toNat := by
 rw [labelF_yes h, expandN_len (by omega) (by omega)]
def nJoiner : List UInt8 := [106, 111, 105, 110, 101, 114]
def nEpoch : List UInt8 := [101, 112, 111, 99, 104]
def nWelcome : List UInt8 := [119, 101, 108, 99, 111, 109, 101]
def nEncrypt : List UInt8 := [101, 110, 99, 114, 121, 112, 116]
def nExport : List UInt8 := [101, 120, 112, 111, 114, 116]
def nConfirm : List UInt8 := [99, 111, 110, 102, 105, 114, 109]
def nMember : List UInt8 := [109, 101, 109, 98, 101, 114]
def nInit : List UInt8 := [105, 110, 105, 116]
def nExported : List UInt8 := [101, 120, 112, 111, 114, 116, 101, 100]
def joinF (i c x : List UInt8) : List UInt8 := labelF (mac (shortF i) (shortF c)) nJoiner (shortF x) 32
def midF (j : List UInt8) : List UInt8 := mac (shortF j) (List.replicate 32 0)
def secF (j x : List UInt8) : List UInt8 := labelF (midF j) nEpoch (shortF x) 32
def epochL (j x : List UInt8) : List (List UInt8) := [labelF (midF j) nWelcome [] 32, secF j x, labelF (secF j x) nEncrypt [] 32, labelF (secF j x) nExport [] 32, labelF (secF j x) nConfirm [] 32, labelF (secF j x) nMember [] 32, labelF (secF j x) nInit [] 32]
def expF (e nm c : List UInt8) (n : Int) : List UInt8 := labelF (labelF (shortF e) nm [] 32) nExported (sha (shortF c)) n
abbrev txF (s : List UInt8) : List UInt8 := Go.Vw.textF s
def sumF (a b : List UInt8) : List UInt8 := sha (txF (shortF a) ++ txF (shortF b))
def sameE (e f : List (List UInt8)) : Prop := ∀ j, j < 7 → e.getD j [] = f.getD j []
instance (e f : List (List UInt8)) : Decidable (sameE e f) := by unfold sameE; exact inferInstance
def lgF (n b : UInt8) : List UInt8 := (List.replicate (16001 + n.toNat) 0).set 0 b
def rexpF (e nm c : List UInt8) (n : Int) : List UInt8 := if 40 < nm.length then [] else expF e nm c n
def rightS (l i : Nat) (d : Int) : Prop := (0 ≤ d ∧ d ≤ 16) ∧ (l : Int) ≤ d ∧ i < 2 ^ (d.toNat - l)
instance (l i : Nat) (d : Int) : Decidable (rightS l i d) := inferInstanceAs (Decidable (_ ∧ _ ∧ _))
theorem p2_16 {k : Nat} (h : k ≤ 16) : 2 ^ k ≤ 65536 ∧ 0 < 2 ^ k := by
 refine ⟨?_, Nat.two_pow_pos k⟩
 calc 2 ^ k ≤ 2 ^ 16 := Nat.pow_le_pow_right (by decide) h
  _ = 65536 := by decide
theorem shl1_16 {k : Nat} (h : k ≤ 16) : iShl .i64 1 k = ((2 ^ k : Nat) : Int) := (show ∀ k : Fin 17, iShl .i64 1 k.val = ((2 ^ k.val : Nat) : Int) by decide +kernel) ⟨k, by omega⟩
theorem shr_nat {a k : Nat} (h : k ≤ 16) : iShr .i64 (a : Int) k = ((a / 2 ^ k : Nat) : Int) := by
 unfold iShr
 rw [Nat.min_eq_left (by show k ≤ 64; omega)]
 rfl
def sLeft : List UInt8 := [108, 101, 102, 116]
def sRight : List UInt8 := [114, 105, 103, 104, 116]
def nTree : List UInt8 := [116, 114, 101, 101]
def sideF (d leaf s : Nat) : List UInt8 := if leaf / 2 ^ (d - s - 1) % 2 = 1 then sRight else sLeft
def rsecN (e : List UInt8) (d leaf : Nat) : Nat → List UInt8
 | 0 => e
 | s + 1 => labelF (rsecN e d leaf s) nTree (sideF d leaf s) 32
def rsecOk (e : List UInt8) (d leaf : Int) : Prop := e.length = 32 ∧ (0 ≤ d ∧ d ≤ 16) ∧ 0 ≤ leaf ∧ leaf < 2 ^ d.toNat
instance (e : List UInt8) (d leaf : Int) : Decidable (rsecOk e d leaf) := inferInstanceAs (Decidable (_ ∧ _ ∧ _ ∧ _))
def rsecF (e : List UInt8) (d leaf : Int) : List UInt8 := if rsecOk e d leaf then rsecN e d.toNat leaf.toNat d.toNat else []
theorem rsecN_len (e : List UInt8) (h : e.length = 32) (d leaf s : Nat) : (rsecN e d leaf s).length = 32 := by
 cases s with
 | zero => exact h
 | succ s => exact labelF_len (by
   unfold sideF nTree
   split <;> simp [sRight, sLeft])
theorem down_bit (leaf k : Nat) : leaf / 2 ^ k = 2 * (leaf / 2 ^ (k + 1)) + leaf / 2 ^ k % 2 := by
 rw [Nat.pow_succ, ← Nat.div_div_eq_div_mul]
 omega
theorem rs_b {l i : Nat} (h : rightS l i 16) : l ≤ 16 ∧ i < 65536 := by
 obtain ⟨_, h1, h2⟩ := h
 have := p2_16 (k := (16 : Int).toNat - l) (by show 16 - l ≤ 16; omega)
 exact ⟨by omega, by omega⟩
theorem rs_path {d f s : Nat} (hd : d ≤ 16) (hf : f < 2 ^ d) (hs : s ≤ d) : rightS (d - s) (f / 2 ^ (d - s)) 16 := by
 refine ⟨⟨by omega, by omega⟩, by omega, ?_⟩
 rw [Nat.div_lt_iff_lt_mul (Nat.two_pow_pos _), ← Nat.pow_add]
 refine Nat.lt_of_lt_of_le hf (Nat.pow_le_pow_right (by decide) ?_)
 show d ≤ (16 - (d - s)) + (d - s)
 omega
theorem rs_below {l i : Nat} (h : rightS l i 16) (hl : 1 ≤ l) (b : Nat) (hb : b ≤ 1) : rightS (l - 1) (2 * i + b) 16 := by
 obtain ⟨h0, h1, h2⟩ := h
 refine ⟨h0, by omega, ?_⟩
 have e : (16 : Int).toNat - (l - 1) = ((16 : Int).toNat - l) + 1 := by show 16 - (l - 1) = (16 - l) + 1; omega
 rw [e, Nat.pow_succ]
 omega
theorem dn_eq {q i : Nat} (h : q = 2 * i + q % 2) : (2 * i + if (!decide (q = 2 * i)) = true then 1 else 0) = q := by
 by_cases e : q = 2 * i
 ·rw [decide_eq_true e]; exact e.symm
 ·rw [decide_eq_false e]; show 2 * i + 1 = q; omega
theorem sec_no {e : List UInt8} {d f : Int} (h : ¬ (e.length = 32 ∧ 0 ≤ f ∧ f < 65536 ∧ rightS 0 f.toNat d)) : rsecF e d f = [] := by
 refine if_neg fun ⟨h1, h2, h3, h4⟩ => h ⟨h1, h3, ?_, h2, by omega, ?_⟩
 ·have := p2_16 (k := d.toNat) (by omega)
  have e : ((2 : Int) ^ d.toNat) = ((2 ^ d.toNat : Nat) : Int) := by rw [Int.natCast_pow]; rfl
  omega
 ·have e : ((2 : Int) ^ d.toNat) = ((2 ^ d.toNat : Nat) : Int) := by rw [Int.natCast_pow]; rfl
  rw [Nat.sub_zero]; omega
theorem sec_yes {e : List UInt8} {d f : Int} (h1 : e.length = 32) (h2 : 0 ≤ f) (h3 : rightS 0 f.toNat d) : rsecF e d f = rsecN e d.toNat f.toNat d.toNat := by
 obtain ⟨h4, _, h5⟩ := h3
 refine if_pos ⟨h1, h4, h2, ?_⟩
 have e : ((2 : Int) ^ d.toNat) = ((2 ^ d.toNat : Nat) : Int) := by rw [Int.natCast_pow]; rfl
 rw [Nat.sub_zero] at h5
 omega
abbrev KL := List (Int × List UInt8)
def kG (K : KL) (i : Nat) : Int := (K.getD i (0, [])).1
def kB (K : KL) (i : Nat) : List UInt8 := (K.getD i (0, [])).2
def kR (K : KL) (j : Nat) : PV := if j % 2 = 0 then .v (.int .i64 (kG K (j / 2))) else .bs (kB K (j / 2))
theorem kR_0 (K : KL) (n : Nat) : kR K (n * 2 + 0) = .v (.int .i64 (kG K n)) := by
 unfold kR
 rw [if_pos (by omega), show (n * 2 + 0) / 2 = n by omega]
theorem kR_1 (K : KL) (n : Nat) : kR K (n * 2 + 1) = .bs (kB K n) := by
 unfold kR
 rw [if_neg (by omega), show (n * 2 + 1) / 2 = n by omega]
theorem kR_one (K : KL) (j : Nat) : (BV.p (kR K j)).one := by
 unfold kR
 split
 ·rfl
 ·trivial
theorem kR_oneP (K : KL) (j : Nat) : (kR K j).one := by
 unfold kR
 split
 ·rfl
 ·trivial
def lastG (K : KL) (i : Nat) : Int := if i = 0 then -1 else kG K (i - 1)
def okI (K : KL) (g : Int) (n : Nat) : Prop := ∀ i, i < n → lastG K i < kG K i ∧ kG K i < g ∧ (kB K i).length = 32
instance (K : KL) (g : Int) (n : Nat) : Decidable (okI K g n) := inferInstanceAs (Decidable (∀ i, i < n → _))
def rightR (g : Int) (s : List UInt8) (K : KL) : Prop := okI K g K.length ∧ 0 ≤ g ∧ g ≤ 1073741824 ∧ s.length = 32 ∧ K.length ≤ 16
instance (g : Int) (s : List UInt8) (K : KL) : Decidable (rightR g s K) := inferInstanceAs (Decidable (_ ∧ _ ∧ _ ∧ _ ∧ _))
theorem okI_0 (K : KL) (g : Int) : okI K g 0 := fun i h => absurd h (Nat.not_lt_zero i)
theorem okI_s {K : KL} {g : Int} {n : Nat} (h : okI K g n) (h1 : ¬ kG K n ≤ lastG K n) (h2 : ¬ g ≤ kG K n) (h3 : (kB K n).length = 32) : okI K g (n + 1) := fun i hi => by
 by_cases e : i = n
 ·subst e; exact ⟨by omega, by omega, h3⟩
 ·exact h i (by omega)
def nKey : List UInt8 := [107, 101, 121]
def nNext : List UInt8 := [110, 101, 120, 116]
def keyF (g : Int) (s : List UInt8) : List UInt8 := labelF s nKey (Go.Vw.numF g 4) 32
def nxtF (g : Int) (s : List UInt8) : List UInt8 := labelF s nNext (Go.Vw.numF g 4) 32
def idxN (K : KL) (gen : Int) : Nat → Nat → Int
 | 0, _ => -1
 | n + 1, i => if kG K i = gen then (i : Int) else idxN K gen n (i + 1)
def idxF (K : KL) (gen : Int) : Int := idxN K gen K.length 0
theorem idx_step {K : KL} {gen : Int} {s : Nat} (hs : s < K.length) (h : ¬ kG K s = gen) (e : idxF K gen = idxN K gen (K.length - s) s) : idxF K gen = idxN K gen (K.length - (s + 1)) (s + 1) := by
 rw [e, show K.length - s = (K.length - (s + 1)) + 1 by omega]
 exact if_neg h
theorem idx_hit {K : KL} {gen : Int} {s : Nat} (hs : s < K.length) (h : kG K s = gen) (e : idxF K gen = idxN K gen (K.length - s) s) : idxF K gen = (s : Int) := by
 rw [e, show K.length - s = (K.length - (s + 1)) + 1 by omega]
 exact if_pos h
theorem idx_end {K : KL} {gen : Int} (e : idxF K gen = idxN K gen (K.length - K.length) K.length) : idxF K gen = -1 := by rw [e, Nat.sub_self]; rfl
end Go.Vh
namespace Go.Vh
theorem dcg {p q : Prop} [Decidable p] [Decidable q] (h : p ↔ q) : decide p = decide q := by
 by_cases hq : q
 ·rw [decide_eq_true hq, decide_eq_true (h.2 hq)]
 ·rw [decide_eq_false hq, decide_eq_false (fun hp => hq (h.1 hp))]
end Go.Vh
namespace Go.Vh
open Go Go.Vc
def zK (j : Nat) : PV := if j % 2 = 0 then .v (.int .i64 0) else .v (.slice none 0 0)
theorem kG_l {A B : KL} {i : Nat} (h : i < A.length) : kG (A ++ B) i = kG A i ∧ kB (A ++ B) i = kB A i := by
 unfold kG kB
 simp only [List.getD_eq_getElem?_getD, List.getElem?_append_left h]; exact ⟨trivial, trivial⟩
theorem kG_r {A B : KL} {i : Nat} (h : A.length ≤ i) : kG (A ++ B) i = kG B (i - A.length) ∧ kB (A ++ B) i = kB B (i - A.length) := by
 unfold kG kB
 simp only [List.getD_eq_getElem?_getD, List.getElem?_append_right h]; exact ⟨trivial, trivial⟩
theorem kR_app (A B : KL) (j : Nat) : kR (A ++ B) j = if j < A.length * 2 then kR A j else kR B (j - A.length * 2) := by
 unfold kR
 by_cases h : j < A.length * 2
 ·obtain ⟨e1, e2⟩ := kG_l (A := A) (B := B) (i := j / 2) (by omega)
  rw [if_pos h, e1, e2]
 ·obtain ⟨e1, e2⟩ := kG_r (A := A) (B := B) (i := j / 2) (by omega)
  rw [if_neg h, e1, e2, show (j - A.length * 2) % 2 = j % 2 by omega, show (j - A.length * 2) / 2 = j / 2 - A.length by omega]
theorem kR_drop (A : KL) (j : Nat) : kR (A.drop 1) j = kR A (2 + j) := by
 unfold kR kG kB
 simp only [List.getD_eq_getElem?_getD, List.getElem?_drop]
 rw [show (2 + j) % 2 = j % 2 by omega, show (2 + j) / 2 = 1 + j / 2 by omega]
def nxN (g : Int) (s : List UInt8) : Nat → List UInt8
 | 0 => s
 | m + 1 => nxtF (g + m) (nxN g s m)
def kyN (g : Int) (s : List UInt8) (m : Nat) : List UInt8 := keyF (g + m) (nxN g s m)
def cut16 (L : KL) : KL := if 16 < L.length then L.drop 1 else L
def kpN (g : Int) (s : List UInt8) (K : KL) : Nat → KL
 | 0 => K
 | m + 1 => cut16 (kpN g s K m ++ [(g + m, kyN g s m)])
structure TK where
 g : Int
 s : List UInt8
 K : KL
 b : List UInt8
 e : Int
def takeF (g : Int) (s : List UInt8) (K : KL) (gen : Int) : TK :=
 if ¬ rightR g s K then ⟨0, [], [], [], 1⟩
 else if 0 ≤ idxF K gen then ⟨g, s, K.take (idxF K gen).toNat ++ K.drop ((idxF K gen).toNat + 1), kB K (idxF K gen).toNat, 0⟩
 else if gen < g then ⟨0, [], [], [], 171⟩
 else if 8 < gen - g then ⟨0, [], [], [], 172⟩
 else if 1073741824 ≤ gen then ⟨0, [], [], [], 2⟩
 else ⟨gen + 1, nxN g s ((gen - g).toNat + 1), kpN g s K (gen - g).toNat, kyN g s (gen - g).toNat, 0⟩
theorem zK_eq (j : Nat) : cst ((([.int .i64 0, .slice none 0 0] : List Value).getD (j % 2) undef)) = zK j := by
 unfold zK
 rcases (show j % 2 = 0 ∨ j % 2 = 1 by omega) with h | h <;> rw [h] <;> rfl
def nxR (g : Int) (s : List UInt8) (K : KL) : TK :=
 if ¬ rightR g s K then ⟨0, [], [], [], 1⟩ else if g = 1073741824 then ⟨0, [], [], [], 2⟩ else ⟨g + 1, nxtF g s, K, keyF g s, 0⟩
def nxG (g : Int) (s : List UInt8) (K : KL) : Int := if ¬ rightR g s K then 0 else if g = 1073741824 then 0 else g
theorem nx_1 {g : Int} {s : List UInt8} {K : KL} (h : ¬ rightR g s K) : nxR g s K = ⟨0, [], [], [], 1⟩ ∧ nxG g s K = 0 := ⟨if_pos h, if_pos h⟩
theorem nx_2 {g : Int} {s : List UInt8} {K : KL} (h : rightR g s K) (h2 : g = 1073741824) : nxR g s K = ⟨0, [], [], [], 2⟩ ∧ nxG g s K = 0 := by
 unfold nxR nxG; rw [if_neg (fun e => e h), if_pos h2, if_neg (fun e => e h), if_pos h2]; exact ⟨rfl, rfl⟩
theorem nx_3 {g : Int} {s : List UInt8} {K : KL} (h : rightR g s K) (h2 : ¬ g = 1073741824) : nxR g s K = ⟨g + 1, nxtF g s, K, keyF g s, 0⟩ ∧ nxG g s K = g := by
 unfold nxR nxG; rw [if_neg (fun e => e h), if_neg h2, if_neg (fun e => e h), if_neg h2]; exact ⟨rfl, rfl⟩
theorem idxN_lt (K : KL) (gen : Int) (n i : Nat) : idxN K gen n i < ((i + n : Nat) : Int) := by
 induction n generalizing i with
 | zero => show (-1 : Int) < _; omega
 | succ n ih =>
  unfold idxN
  split
  ·omega
  ·have := ih (i + 1); omega
theorem idx_lt (K : KL) (gen : Int) : idxF K gen < (K.length : Int) := by
 have := idxN_lt K gen K.length 0
 rw [Nat.zero_add] at this
 exact this
def upN (g : Int) (s : List UInt8) (K : KL) : Nat → KL
 | 0 => K
 | m + 1 => kpN g s K m ++ [(g + m, kyN g s m)]
def offK (g : Int) (s : List UInt8) (K : KL) (m : Nat) : Nat := if 16 < (upN g s K m).length then 2 else 0
theorem kp_up {g : Int} {s : List UInt8} {K : KL} (hK : K.length ≤ 16) (m : Nat) : kpN g s K m = cut16 (upN g s K m) := by
 cases m with
 | zero => exact (if_neg (show ¬ 16 < K.length by omega)).symm
 | succ m => rfl
theorem kp_len {g : Int} {s : List UInt8} {K : KL} (hK : K.length ≤ 16) (m : Nat) : (kpN g s K m).length ≤ 16 := by
 induction m with
 | zero => exact hK
 | succ m ih =>
  show (cut16 _).length ≤ 16
  unfold cut16
  split
  ·rw [List.length_drop, List.length_append]; show _ + 1 - 1 ≤ 16; omega
  ·omega
theorem kp_rows {g : Int} {s : List UInt8} {K : KL} (hK : K.length ≤ 16) (m j : Nat) : kR (upN g s K m) (offK g s K m + j) = kR (kpN g s K m) j := by
 rw [kp_up hK m]
 unfold cut16 offK
 split
 ·exact (kR_drop _ j).symm
 ·rw [Nat.zero_add]
theorem up_1 (g : Int) (s : List UInt8) (K : KL) (m : Nat) : (upN g s K (m + 1)).length = (kpN g s K m).length + 1 := by
 show (kpN g s K m ++ [(g + m, kyN g s m)]).length = _
 rw [List.length_append]; rfl
theorem off_1 {g : Int} {s : List UInt8} {K : KL} (m : Nat) : (16 < (kpN g s K m).length + 1 → offK g s K (m + 1) = 2 ∧ (kpN g s K (m + 1)).length = (kpN g s K m).length) ∧
  (¬ 16 < (kpN g s K m).length + 1 → offK g s K (m + 1) = 0 ∧ (kpN g s K (m + 1)).length = (kpN g s K m).length + 1) := by
 have hu := up_1 g s K m
 have e : kpN g s K (m + 1) = cut16 (upN g s K (m + 1)) := rfl
 unfold offK
 rw [e]
 unfold cut16
 refine ⟨fun h => ?_, fun h => ?_⟩
 ·rw [if_pos (by omega), if_pos (by omega), List.length_drop]; exact ⟨rfl, by omega⟩
 ·rw [if_neg (by omega), if_neg (by omega)]; exact ⟨rfl, by omega⟩
theorem off_0 {g : Int} {s : List UInt8} {K : KL} (hK : K.length ≤ 16) : offK g s K 0 = 0 := if_neg (by show ¬ 16 < K.length; omega)
theorem up_rows {g : Int} {s : List UInt8} {K : KL} (hK : K.length ≤ 16) (m j : Nat) (f : Nat → PV) (h0 : f 0 = .v (.int .i64 (g + m))) (h1 : f 1 = .bs (kyN g s m)) (hj : j < (upN g s K (m + 1)).length * 2) :
  (if j < (kpN g s K m).length * 2 then kR (upN g s K m) (offK g s K m + j) else f (j - (kpN g s K m).length * 2)) = kR (upN g s K (m + 1)) j := by
 rw [show upN g s K (m + 1) = kpN g s K m ++ [(g + m, kyN g s m)] from rfl, kR_app]
 rw [up_1] at hj
 by_cases h : j < (kpN g s K m).length * 2
 ·rw [if_pos h, if_pos h, kp_rows hK]
 ·rw [if_neg h, if_neg h]
  rcases (show j - (kpN g s K m).length * 2 = 0 ∨ j - (kpN g s K m).length * 2 = 1 by omega) with e | e <;> rw [e]
  ·rw [h0]; rfl
  ·rw [h1]; rfl
theorem nxN_len (g : Int) {s : List UInt8} (h : s.length = 32) (m : Nat) : (nxN g s m).length = 32 := by
 cases m with
 | zero => exact h
 | succ m => exact labelF_len (by have := Go.Vw.numF_len (g + m) 4; simp [nNext]; omega)
theorem rm_rows {K : KL} {i j : Nat} (hi : i < K.length) : kR (K.take i ++ K.drop (i + 1)) j = if j < i * 2 then kR K j else kR K ((i + 1) * 2 + (j - i * 2)) := by
 have hl : (K.take i).length = i := by rw [List.length_take]; omega
 rw [kR_app, hl]
 split
 ·unfold kR kG kB
  simp only [List.getD_eq_getElem?_getD]
  rw [List.getElem?_take_of_lt (by omega)]
 ·unfold kR kG kB
  simp only [List.getD_eq_getElem?_getD, List.getElem?_drop]
  rw [show ((i + 1) * 2 + (j - i * 2)) % 2 = (j - i * 2) % 2 by omega, show ((i + 1) * 2 + (j - i * 2)) / 2 = i + 1 + (j - i * 2) / 2 by omega]
theorem tk_1 {g : Int} {s : List UInt8} {K : KL} {gen : Int} (h : ¬ rightR g s K) : takeF g s K gen = ⟨0, [], [], [], 1⟩ := if_pos h
theorem tk_2 {g : Int} {s : List UInt8} {K : KL} {gen : Int} (h : rightR g s K) (h2 : 0 ≤ idxF K gen) : takeF g s K gen = ⟨g, s, K.take (idxF K gen).toNat ++ K.drop ((idxF K gen).toNat + 1), kB K (idxF K gen).toNat, 0⟩ := by
 unfold takeF; rw [if_neg (fun e => e h), if_pos h2]
theorem tk_3 {g : Int} {s : List UInt8} {K : KL} {gen : Int} (h : rightR g s K) (h2 : ¬ 0 ≤ idxF K gen) (h3 : gen < g) : takeF g s K gen = ⟨0, [], [], [], 171⟩ := by
 unfold takeF; rw [if_neg (fun e => e h), if_neg h2, if_pos h3]
theorem tk_4 {g : Int} {s : List UInt8} {K : KL} {gen : Int} (h : rightR g s K) (h2 : ¬ 0 ≤ idxF K gen) (h3 : ¬ gen < g) (h4 : 8 < gen - g) : takeF g s K gen = ⟨0, [], [], [], 172⟩ := by
 unfold takeF; rw [if_neg (fun e => e h), if_neg h2, if_neg h3, if_pos h4]
theorem tk_5 {g : Int} {s : List UInt8} {K : KL} {gen : Int} (h : rightR g s K) (h2 : ¬ 0 ≤ idxF K gen) (h3 : ¬ gen < g) (h4 : ¬ 8 < gen - g) (h5 : 1073741824 ≤ gen) : takeF g s K gen = ⟨0, [], [], [], 2⟩ := by
 unfold takeF; rw [if_neg (fun e => e h), if_neg h2, if_neg h3, if_neg h4, if_pos h5]
theorem tk_6 {g : Int} {s : List UInt8} {K : KL} {gen : Int} {m : Nat} (h : rightR g s K) (h2 : ¬ 0 ≤ idxF K gen) (h3 : ¬ gen < g) (h4 : ¬ 8 < gen - g) (h5 : ¬ 1073741824 ≤ gen) (hm : g + (m : Int) = gen) : takeF g s K gen = ⟨gen + 1, nxN g s (m + 1), kpN g s K m, kyN g s m, 0⟩ := by
 have e : (gen - g).toNat = m := by omega
 unfold takeF; rw [if_neg (fun e => e h), if_neg h2, if_neg h3, if_neg h4, if_neg h5, e]
theorem le_kept {n : Nat} {f : Nat → PV} {L M : KL} (h : M = L) (hn : n = L.length) (hf : ∀ j, f j = kR L j) : (BV.p (.sl n 2 f)).le (.p (.sl M.length 2 (kR M))) := by
 subst h; subst hn
 exact le_sl rfl fun j _ => hf j
theorem rm_len {K : KL} {i : Int} (h0 : 0 ≤ i) (hi : i < (K.length : Int)) : i.toNat + ((K.length : Int).toNat - (i + 1).toNat) = (K.take i.toNat ++ K.drop (i.toNat + 1)).length := by
 rw [List.length_append, List.length_take, List.length_drop]; omega
theorem rm_rows2 {K : KL} {i : Int} (h0 : 0 ≤ i) (hi : i < (K.length : Int)) (j : Nat) :
  (if j < i.toNat * 2 then kR K (Int.toNat 0 * 2 + j) else kR K ((i + 1).toNat * 2 + (j - i.toNat * 2))) = kR (K.take i.toNat ++ K.drop (i.toNat + 1)) j := by
 rw [rm_rows (K := K) (i := i.toNat) (by omega), show (i + 1).toNat = i.toNat + 1 by omega, show Int.toNat 0 * 2 + j = j by rw [Int.toNat_zero]; omega]
def rk (g : Int) (K : KL) : Prop := K.Pairwise (fun a b => a.1 < b.1) ∧ ∀ x ∈ K, 0 ≤ x.1 ∧ x.1 < g ∧ x.2.length = 32
theorem kG_g {K : KL} {i : Nat} (h : i < K.length) : kG K i = K[i].1 ∧ kB K i = K[i].2 := by
 unfold kG kB
 rw [List.getD_eq_getElem?_getD, List.getElem?_eq_getElem h]; exact ⟨rfl, rfl⟩
theorem okI_lt {K : KL} {g : Int} {n : Nat} (h : okI K g n) : ∀ j, j < n → ∀ i, i < j → kG K i < kG K j := by
 intro j
 induction j with
 | zero => intro _ i hi; omega
 | succ j ih =>
  intro hj i hi
  have h1 := (h (j + 1) hj).1
  have e : lastG K (j + 1) = kG K j := if_neg (Nat.succ_ne_zero j)
  rw [e] at h1
  by_cases q : i = j
  ·subst q; exact h1
  ·have := ih (by omega) i (by omega); omega
theorem okI_ge {K : KL} {g : Int} {n : Nat} (h : okI K g n) (j : Nat) (hj : j < n) : 0 ≤ kG K j := by
 have h0 := (h 0 (by omega)).1
 have e : lastG K 0 = -1 := if_pos rfl
 rw [e] at h0
 by_cases q : j = 0
 ·subst q; omega
 ·have := okI_lt h j hj 0 (by omega); omega
theorem okI_rk {K : KL} {g : Int} : okI K g K.length ↔ rk g K := by
 refine ⟨fun h => ⟨?_, ?_⟩, fun ⟨h1, h2⟩ i hi => ?_⟩
 ·refine List.pairwise_iff_getElem.2 fun i j hi hj hij => ?_
  have := okI_lt h j hj i hij
  rwa [(kG_g hi).1, (kG_g hj).1] at this
 ·intro x hx
  obtain ⟨i, hi, rfl⟩ := List.getElem_of_mem hx
  have h3 := h i hi
  have h4 := okI_ge h i hi
  rw [(kG_g hi).1] at h4
  rw [(kG_g hi).1, (kG_g hi).2] at h3
  exact ⟨h4, h3.2⟩
 ·have h3 := h2 _ (List.getElem_mem hi)
  rw [(kG_g hi).1, (kG_g hi).2]
  refine ⟨?_, h3.2⟩
  unfold lastG
  by_cases q : i = 0
  ·rw [if_pos q]; omega
  ·rw [if_neg q, (kG_g (show i - 1 < K.length by omega)).1]
   exact List.pairwise_iff_getElem.1 h1 _ _ (by omega) hi (by omega)
theorem rk_sub {K L : KL} {g : Int} (h : rk g K) (hs : L.Sublist K) : rk g L := ⟨h.1.sublist hs, fun x hx => h.2 x (hs.subset hx)⟩
theorem rk_mono {K : KL} {g g' : Int} (h : rk g K) (hg : g ≤ g') : rk g' K := ⟨h.1, fun x hx => by have := h.2 x hx; exact ⟨this.1, by omega, this.2.2⟩⟩
theorem rm_sub (K : KL) (i : Nat) : (K.take i ++ K.drop (i + 1)).Sublist K := by
 rw [← List.eraseIdx_eq_take_drop_succ]; exact List.eraseIdx_sublist _ _
theorem cut16_sub (K : KL) : (cut16 K).Sublist K := by
 unfold cut16
 split
 ·exact List.drop_sublist _ _
 ·exact List.Sublist.refl _
theorem rk_add {K : KL} {g : Int} {b : List UInt8} (h : rk g K) (hg : 0 ≤ g) (hb : b.length = 32) : rk (g + 1) (K ++ [(g, b)]) := by
 refine ⟨List.pairwise_append.2 ⟨h.1, List.pairwise_singleton _ _, fun a ha c hc => ?_⟩, fun x hx => ?_⟩
 ·rw [List.mem_singleton.1 hc]; exact (h.2 a ha).2.1
 ·rcases List.mem_append.1 hx with hx | hx
  ·have := h.2 x hx; exact ⟨this.1, by omega, this.2.2⟩
  ·rw [List.mem_singleton.1 hx]; exact ⟨hg, by show g < g + 1; omega, hb⟩
theorem keyF_len {g : Int} {s : List UInt8} : (keyF g s).length = 32 := labelF_len (by have := Go.Vw.numF_len g 4; simp [nKey]; omega)
theorem kp_rk {g : Int} {s : List UInt8} {K : KL} (h : rk g K) (hg : 0 ≤ g) (m : Nat) : rk (g + m) (kpN g s K m) := by
 induction m with
 | zero => show rk (g + ((0 : Nat) : Int)) K; rw [show g + ((0 : Nat) : Int) = g by omega]; exact h
 | succ m ih =>
  rw [show g + ((m + 1 : Nat) : Int) = (g + (m : Int)) + 1 by omega]
  exact rk_sub (rk_add ih (by omega) keyF_len) (cut16_sub _)
theorem right_iff {g : Int} {s : List UInt8} {K : KL} : rightR g s K ↔ rk g K ∧ 0 ≤ g ∧ g ≤ 1073741824 ∧ s.length = 32 ∧ K.length ≤ 16 := by
 unfold rightR; rw [okI_rk]
theorem right_0 {s : List UInt8} (h : s.length = 32) : rightR 0 s [] := right_iff.2 ⟨⟨List.Pairwise.nil, fun x hx => absurd hx List.not_mem_nil⟩, by omega, by omega, h, Nat.zero_le _⟩
theorem right_rm {g : Int} {s : List UInt8} {K : KL} (h : rightR g s K) (i : Nat) : rightR g s (K.take i ++ K.drop (i + 1)) := by
 obtain ⟨h1, h2, h3, h4, h5⟩ := right_iff.1 h
 exact right_iff.2 ⟨rk_sub h1 (rm_sub K i), h2, h3, h4, Nat.le_trans (rm_sub K i).length_le h5⟩
theorem right_kp {g : Int} {s : List UInt8} {K : KL} (h : rightR g s K) (m : Nat) (hg : g + (m : Int) + 1 ≤ 1073741824) : rightR (g + m + 1) (nxN g s (m + 1)) (kpN g s K m) := by
 obtain ⟨h1, h2, h3, h4, h5⟩ := right_iff.1 h
 exact right_iff.2 ⟨rk_mono (kp_rk h1 h2 m) (by omega), by omega, hg, nxN_len g h4 _, kp_len h5 m⟩
theorem idxN_cases (K : KL) (gen : Int) (n i : Nat) : (idxN K gen n i = -1 ∧ ∀ j, i ≤ j → j < i + n → kG K j ≠ gen) ∨ ∃ j : Nat, i ≤ j ∧ j < i + n ∧ idxN K gen n i = (j : Int) ∧ kG K j = gen := by
 induction n generalizing i with
 | zero => exact .inl ⟨rfl, fun j h1 h2 => absurd h2 (by omega)⟩
 | succ n ih =>
  unfold idxN
  by_cases q : kG K i = gen
  ·rw [if_pos q]; exact .inr ⟨i, Nat.le_refl _, by omega, rfl, q⟩
  ·rw [if_neg q]
   rcases ih (i + 1) with ⟨h1, h2⟩ | ⟨j, h1, h2, h3, h4⟩
   ·refine .inl ⟨h1, fun j h3 h4 => ?_⟩
    by_cases e : j = i
    ·subst e; exact q
    ·exact h2 j (by omega) (by omega)
   ·exact .inr ⟨j, by omega, by omega, h3, h4⟩
theorem idx_cases (K : KL) (gen : Int) : (idxF K gen = -1 ∧ ∀ x ∈ K, x.1 ≠ gen) ∨ ∃ i : Nat, ∃ h : i < K.length, idxF K gen = (i : Int) ∧ K[i].1 = gen := by
 rcases idxN_cases K gen K.length 0 with ⟨h1, h2⟩ | ⟨j, h1, h2, h3, h4⟩
 ·refine .inl ⟨h1, fun x hx => ?_⟩
  obtain ⟨i, hi, rfl⟩ := List.getElem_of_mem hx
  have := h2 i (by omega) (by omega)
  rwa [(kG_g hi).1] at this
 ·have hj : j < K.length := by omega
  rw [(kG_g hj).1] at h4
  exact .inr ⟨j, hj, h3, h4⟩
theorem tk_cases {g : Int} {s : List UInt8} {K : KL} (h : rightR g s K) (gen : Int) (hm : gen < 1073741824) :
  (∃ i : Nat, ∃ hi : i < K.length, K[i].1 = gen ∧ takeF g s K gen = ⟨g, s, K.take i ++ K.drop (i + 1), K[i].2, 0⟩) ∨
  ((∀ x ∈ K, x.1 ≠ gen) ∧ gen < g ∧ takeF g s K gen = ⟨0, [], [], [], 171⟩) ∨
  (g + 8 < gen ∧ takeF g s K gen = ⟨0, [], [], [], 172⟩) ∨
  (∃ m : Nat, g + (m : Int) = gen ∧ m ≤ 8 ∧ takeF g s K gen = ⟨g + m + 1, nxN g s (m + 1), kpN g s K m, kyN g s m, 0⟩) := by
 rcases idx_cases K gen with ⟨h1, h2⟩ | ⟨i, hi, h1, h2⟩
 ·by_cases q : gen < g
  ·exact .inr (.inl ⟨h2, q, tk_3 h (by omega) q⟩)
  ·by_cases q2 : 8 < gen - g
   ·exact .inr (.inr (.inl ⟨by omega, tk_4 h (by omega) q q2⟩))
   ·have e : g + (((gen - g).toNat : Nat) : Int) = gen := by omega
    refine .inr (.inr (.inr ⟨(gen - g).toNat, e, by omega, ?_⟩))
    rw [tk_6 (m := (gen - g).toNat) h (by omega) q q2 (by omega) e, e]
 ·refine .inl ⟨i, hi, h2, ?_⟩
  rw [tk_2 h (by omega), h1, Int.toNat_natCast, (kG_g hi).2]
theorem tk_right {g : Int} {s : List UInt8} {K : KL} (h : rightR g s K) (gen : Int) (hm : gen < 1073741824) (he : (takeF g s K gen).e = 0) :
  rightR (takeF g s K gen).g (takeF g s K gen).s (takeF g s K gen).K ∧ (takeF g s K gen).b.length = 32 := by
 rcases tk_cases h gen hm with ⟨i, hi, h2, e⟩ | ⟨_, _, e⟩ | ⟨_, e⟩ | ⟨m, h2, h3, e⟩
 ·rw [e]; exact ⟨right_rm h i, ((right_iff.1 h).1.2 _ (List.getElem_mem hi)).2.2⟩
 ·rw [e] at he; exact absurd he (by decide)
 ·rw [e] at he; exact absurd he (by decide)
 ·rw [e]; exact ⟨right_kp h m (by omega), keyF_len⟩
structure OS where
 g : Int
 s : List UInt8
 K : KL
 used : Nat → Bool
def OS.tk (o : OS) (u : Nat) : TK := takeF o.g o.s o.K (u : Int)
def OS.next (o : OS) (u : Nat) : OS := if (o.tk u).e = 0 then ⟨(o.tk u).g, (o.tk u).s, (o.tk u).K, fun j => if j = u then true else o.used j⟩ else o
def onceN (s0 : List UInt8) (gens : List UInt8) : Nat → OS
 | 0 => ⟨0, s0, [], fun _ => false⟩
 | n + 1 => (onceN s0 gens n).next (gens.getD n 0).toNat
structure OS.ok (o : OS) : Prop where
 r : rightR o.g o.s o.K
 g : o.g ≤ 256
 u : ∀ u : Nat, o.used u = true → (u : Int) < o.g ∧ ∀ x ∈ o.K, x.1 ≠ (u : Int)
theorem hd_1 {z : List UInt8} (h : z.length = 32) : takeF 0 z [] 2 = ⟨3, nxN 0 z 3, [(0, kyN 0 z 0), (1, kyN 0 z 1)], kyN 0 z 2, 0⟩ := by
 rw [tk_6 (m := 2) (right_0 h) (by decide) (by decide) (by decide) (by decide) (by decide)]
 have e : kpN 0 z [] 2 = [(0, kyN 0 z 0), (1, kyN 0 z 1)] := by
  unfold kpN cut16
  rw [if_neg (by unfold kpN cut16; rw [if_neg (by unfold kpN; simp)]; unfold kpN; simp)]
  unfold kpN cut16
  rw [if_neg (by unfold kpN; simp)]
  rfl
 rw [e]; rfl
theorem hd_2 {s a b : List UInt8} (h : rightR 3 s [(0, a), (1, b)]) : takeF 3 s [(0, a), (1, b)] 0 = ⟨3, s, [(1, b)], a, 0⟩ := by
 have e : idxF [(0, a), (1, b)] 0 = 0 := by
  show (if (0 : Int) = 0 then ((0 : Nat) : Int) else if (1 : Int) = 0 then ((1 : Nat) : Int) else -1) = 0
  exact if_pos rfl
 rw [tk_2 h (by rw [e]; decide), e]; rfl
theorem hd_3 {s b : List UInt8} (h : rightR 3 s [(1, b)]) : takeF 3 s [(1, b)] 0 = ⟨0, [], [], [], 171⟩ := by
 have e : idxF [(1, b)] 0 = -1 := by
  show (if (1 : Int) = 0 then ((0 : Nat) : Int) else -1) = -1
  exact if_neg (by decide)
 exact tk_3 h (by rw [e]; decide) (by decide)
theorem hd_4 {z : List UInt8} (h : z.length = 32) : takeF 0 z [] 9 = ⟨0, [], [], [], 172⟩ := tk_4 (right_0 h) (by decide) (by decide) (by decide)
structure HD (z : List UInt8) : Prop where
 e1 : (takeF 0 z [] 2).e = 0
 b1 : (takeF 0 z [] 2).b.length = 32
 k1 : (takeF 0 z [] 2).K.length = 2
 e2 : (takeF (takeF 0 z [] 2).g (takeF 0 z [] 2).s (takeF 0 z [] 2).K 0).e = 0
 b2 : (takeF (takeF 0 z [] 2).g (takeF 0 z [] 2).s (takeF 0 z [] 2).K 0).b.length = 32
 k2 : (takeF (takeF 0 z [] 2).g (takeF 0 z [] 2).s (takeF 0 z [] 2).K 0).K.length = 1
 e3 : (takeF (takeF (takeF 0 z [] 2).g (takeF 0 z [] 2).s (takeF 0 z [] 2).K 0).g (takeF (takeF 0 z [] 2).g (takeF 0 z [] 2).s (takeF 0 z [] 2).K 0).s (takeF (takeF 0 z [] 2).g (takeF 0 z [] 2).s (takeF 0 z [] 2).K 0).K 0).e = 171
 e4 : (takeF 0 z [] 9).e = 172
 sec : (rsecF z 2 3).length = 32
theorem hd {z : List UInt8} (h : z.length = 32) : HD z := by
 have h1 := tk_right (right_0 h) 2 (by decide) (by rw [hd_1 h])
 rw [hd_1 h] at h1
 have e2 := hd_2 h1.1
 have h2 := tk_right h1.1 0 (by decide) (by dsimp only; rw [e2])
 dsimp only at h2
 rw [e2] at h2
 have e3 := hd_3 h2.1
 refine ⟨by rw [hd_1 h], by rw [hd_1 h]; exact h1.2, by rw [hd_1 h]; rfl, by rw [hd_1 h]; dsimp only; rw [e2], by rw [hd_1 h]; dsimp only; rw [e2]; exact h2.2, by rw [hd_1 h]; dsimp only; rw [e2]; rfl, by rw [hd_1 h]; dsimp only; rw [e2]; dsimp only; rw [e3], by rw [hd_4 h], ?_⟩
 have e : rsecF z 2 3 = rsecN z 2 3 2 := if_pos ⟨h, by decide, by decide, by decide⟩
 rw [e]; exact rsecN_len z h _ _ _
theorem bit_mod (l j i : Nat) (h : i < j) : l % 2 ^ j / 2 ^ i % 2 = l / 2 ^ i % 2 := by
 have h1 := Nat.testBit_mod_two_pow l j i
 rw [Nat.testBit_eq_decide_div_mod_eq, Nat.testBit_eq_decide_div_mod_eq, decide_eq_true h, Bool.true_and] at h1
 have h2 := decide_eq_decide.1 h1
 omega
theorem rsec_half (e : List UInt8) (d l s : Nat) (hs : s + 1 ≤ d) : rsecN e d l (s + 1) = rsecN (rsecN e 1 (l / 2 ^ (d - 1)) 1) (d - 1) (l % 2 ^ (d - 1)) s := by
 induction s with
 | zero =>
  show labelF e nTree (sideF d l 0) 32 = labelF e nTree (sideF 1 (l / 2 ^ (d - 1)) 0) 32
  congr 1
  unfold sideF
  rw [show d - 0 - 1 = d - 1 by omega, show 1 - 0 - 1 = 0 by rfl, Nat.pow_zero, Nat.div_one]
 | succ s ih =>
  have h := ih (by omega)
  show labelF (rsecN e d l (s + 1)) nTree (sideF d l (s + 1)) 32 = labelF (rsecN (rsecN e 1 (l / 2 ^ (d - 1)) 1) (d - 1) (l % 2 ^ (d - 1)) s) nTree (sideF (d - 1) (l % 2 ^ (d - 1)) s) 32
  rw [h]
  congr 1
  unfold sideF
  rw [show d - 1 - s - 1 = d - (s + 1) - 1 by omega, bit_mod _ _ _ (by omega)]
theorem i2p (k : Nat) : ((2 : Int) ^ k) = ((2 ^ k : Nat) : Int) := by rw [Int.natCast_pow]; rfl
theorem rsecF_n {e : List UInt8} {d l : Nat} (h : e.length = 32) (hd : d ≤ 16) (hl : l < 2 ^ d) : rsecF e (d : Int) (l : Int) = rsecN e d l d := by
 have q : rsecOk e (d : Int) (l : Int) := ⟨h, by omega, by omega, by rw [Int.toNat_natCast, i2p]; omega⟩
 refine (if_pos q).trans ?_
 rw [Int.toNat_natCast, Int.toNat_natCast]
theorem half_len {e : List UInt8} {d l : Nat} (h : e.length = 32) (hd : 1 ≤ d) (hl : l < 2 ^ d) : (rsecF e 1 ((l / 2 ^ (d - 1) : Nat) : Int)).length = 32 ∧ rsecF e 1 ((l / 2 ^ (d - 1) : Nat) : Int) = rsecN e 1 (l / 2 ^ (d - 1)) 1 := by
 have h2 : l / 2 ^ (d - 1) < 2 ^ 1 := by
  rw [Nat.div_lt_iff_lt_mul (Nat.two_pow_pos _), ← Nat.pow_add, show 1 + (d - 1) = d by omega]; exact hl
 have e1 := rsecF_n (d := 1) h (by omega) h2
 have e2 : rsecF e 1 ((l / 2 ^ (d - 1) : Nat) : Int) = rsecN e 1 (l / 2 ^ (d - 1)) 1 := e1
 exact ⟨by rw [e2]; exact rsecN_len e h _ _ _, e2⟩
theorem leaves {e : List UInt8} {d l : Nat} (h : e.length = 32) (hd : 1 ≤ d) (hd2 : d ≤ 16) (hl : l < 2 ^ d) :
  rsecF e (d : Int) (l : Int) = rsecF (rsecF e 1 ((l / 2 ^ (d - 1) : Nat) : Int)) (((d - 1 : Nat)) : Int) ((l % 2 ^ (d - 1) : Nat) : Int) := by
 obtain ⟨h1, h2⟩ := half_len h hd hl
 rw [rsecF_n h hd2 hl, rsecF_n h1 (by omega) (Nat.mod_lt _ (Nat.two_pow_pos _)), h2]
 obtain ⟨s, rfl⟩ : ∃ s, d = s + 1 := ⟨d - 1, by omega⟩
 exact rsec_half e (s + 1) l s (Nat.le_refl _)
def OS.win (o : OS) (m : Nat) : OS := if (takeF o.g o.s o.K (o.g + (m : Int))).e = 0 then ⟨(takeF o.g o.s o.K (o.g + (m : Int))).g, (takeF o.g o.s o.K (o.g + (m : Int))).s, (takeF o.g o.s o.K (o.g + (m : Int))).K, o.used⟩ else o
def winN (s0 : List UInt8) (st : List UInt8) : Nat → OS
 | 0 => ⟨0, s0, [], fun _ => false⟩
 | n + 1 => (winN s0 st n).win (st.getD n 0 % 12).toNat
structure OS.wok (o : OS) (n : Nat) : Prop where
 r : rightR o.g o.s o.K
 g : o.g ≤ 12 * (n : Int)
def ordN (s0 : List UInt8) (o : List UInt8) : Nat → OS
 | 0 => ⟨0, s0, [], fun _ => false⟩
 | n + 1 => (ordN s0 o n).next (o.getD n 0 % 8).toNat
structure OS.oi (s0 : List UInt8) (o : OS) : Prop where
 k : o.ok
 g8 : o.g ≤ 8
 s : o.s = nxN 0 s0 o.g.toNat
 b : ∀ x ∈ o.K, x.2 = kyN 0 s0 x.1.toNat
 n : ∀ u : Nat, (u : Int) < o.g → o.used u = false → ∃ x ∈ o.K, x.1 = (u : Int)
theorem bit_at {f d : Int} {n : Nat} (hf : 0 ≤ f ∧ f < 65536) (hd : 0 ≤ d ∧ d ≤ 16) (hn : n < d.toNat) : iAnd .i64 (iShr .i64 f (d - 1 - (n : Int)).toNat) 1 = ((f.toNat / 2 ^ (d.toNat - n - 1) % 2 : Nat) : Int) := by
 have e : f = ((f.toNat : Nat) : Int) := by omega
 rw [e, shr_nat (by omega), show (d - 1 - (n : Int)).toNat = d.toNat - n - 1 by omega]
 have hle := Nat.div_le_self f.toNat (2 ^ (d.toNat - n - 1))
 obtain ⟨q, hq⟩ : ∃ q, q = f.toNat / 2 ^ (d.toNat - n - 1) := ⟨_, rfl⟩
 rw [← hq] at hle
 rw [Int.toNat_natCast, ← hq]
 have h := Go.Vw.iAnd_mask (a := (q : Int)) (m := 1) (by omega) (by omega) (by omega)
 rw [show ((2 : Int) ^ 1 - 1) = 1 by decide] at h
 rw [h]
 omega
theorem side_1 {d f s : Nat} (h : f / 2 ^ (d - s - 1) % 2 = 1) : sideF d f s = sRight := if_pos h
theorem side_0 {d f s : Nat} (h : ¬ f / 2 ^ (d - s - 1) % 2 = 1) : sideF d f s = sLeft := if_neg h
theorem sec_nok {e : List UInt8} {d f : Int} (h : ¬ rsecOk e d f) : rsecF e d f = [] := if_neg h
theorem sec_ok {e : List UInt8} {d f : Int} (h : rsecOk e d f) : rsecF e d f = rsecN e d.toNat f.toNat d.toNat := if_pos h
theorem kept_frz (K : KL) : BV.p (PV.sl (0 + K.length) 2 (fun j => if 0 + j < 0 * 2 then ([] : List PV).getD (0 + (0 + j)) (.v undef) else kR K (0 + j - 0 * 2))) = .p (.sl K.length 2 (kR K)) := by
 rw [Nat.zero_add]
 congr 2
 funext j
 rw [if_neg (by omega), show 0 + j - 0 * 2 = j by omega]
theorem kept_ap (K : KL) (j : Nat) : (if j < 0 * 2 then ([] : List PV).getD (0 + j) (.v undef) else kR K (j - 0 * 2)) = kR K j := by
 rw [if_neg (by omega), show j - 0 * 2 = j by omega]
theorem idx_ge {K : KL} {g gen : Int} (h : okI K g K.length) : g ≤ gen → idxF K gen = -1 := fun hg => by
 rcases idx_cases K gen with ⟨h1, _⟩ | ⟨i, hi, _, h2⟩
 ·exact h1
 ·have := ((okI_rk.1 h).2 _ (List.getElem_mem hi)).2.1; omega
theorem idxN_at {K : KL} {gen : Int} {n : Nat} (h : ∀ j, j < n → kG K j ≠ gen) (hn : n < K.length) (e : kG K n = gen) (m : Nat) : ∀ i, i + m = n → idxN K gen (K.length - i) i = (n : Int) := by
 induction m with
 | zero =>
  intro i hi
  obtain rfl : i = n := by omega
  rw [show K.length - i = (K.length - i - 1) + 1 by omega]
  exact if_pos e
 | succ m ih =>
  intro i hi
  rw [show K.length - i = (K.length - (i + 1)) + 1 by omega]
  exact (if_neg (h i (by omega))).trans (ih (i + 1) (by omega))
theorem idx_at {K : KL} {gen : Int} {n : Nat} (h : ∀ j, j < n → kG K j ≠ gen) (hn : n < K.length) (e : kG K n = gen) : idxF K gen = (n : Int) := idxN_at h hn e n 0 (Nat.zero_add n)
theorem idx_none {K : KL} {gen : Int} (h : ∀ j, j < K.length → kG K j ≠ gen) : idxF K gen = -1 := by
 rcases idx_cases K gen with ⟨h1, _⟩ | ⟨i, hi, _, h2⟩
 ·exact h1
 ·exact absurd ((kG_g hi).1.trans h2) (h i hi)
theorem none_s {K : KL} {gen : Int} {n : Nat} (h : ∀ j, j < n → kG K j ≠ gen) (e : ¬ kG K n = gen) : ∀ j, j < n + 1 → kG K j ≠ gen := fun j hj => by
 by_cases q : j = n
 ·subst q; exact e
 ·exact h j (by omega)
theorem right_km {g : Int} {s : List UInt8} {K : KL} (h : rightR g s K) (m : Nat) (hg : g + (m : Int) ≤ 1073741824) : rightR (g + m) (nxN g s m) (kpN g s K m) := by
 obtain ⟨h1, h2, h3, h4, h5⟩ := right_iff.1 h
 exact right_iff.2 ⟨kp_rk h1 h2 m, by omega, hg, nxN_len g h4 _, kp_len h5 m⟩
theorem rm_len3 {K : KL} {n : Nat} {i : Int} (e : i = (n : Int)) (hn : n < K.length) : (0 + (n - 0)) + (K.length - (n + 1)) = (K.take i.toNat ++ K.drop (i.toNat + 1)).length := by
 rw [List.length_append, List.length_take, List.length_drop]; omega
theorem rm_rows3 {K : KL} {n : Nat} {i : Int} (e : i = (n : Int)) (hn : n < K.length) (j : Nat) :
  (if 0 + j < (0 + (n - 0)) * 2 then (if 0 + (0 + j) < 0 * 2 then ([] : List PV).getD (0 + (0 + (0 + j))) (.v undef) else kR K (0 * 2 + (0 + (0 + j) - 0 * 2))) else kR K ((n + 1) * 2 + (0 + j - (0 + (n - 0)) * 2))) = kR (K.take i.toNat ++ K.drop (i.toNat + 1)) j := by
 rw [rm_rows (K := K) (i := i.toNat) (by omega), show i.toNat = n by omega, if_neg (show ¬ 0 + (0 + j) < 0 * 2 by omega), show 0 + j = j by omega, show (0 + (n - 0)) = n by omega, show 0 * 2 + (0 + j - 0 * 2) = j by omega]
theorem kp_one (L : KL) (a c : Nat) (i : Int) (k : List UInt8) (p : Prop) [Decidable p] (h : ¬ p → c < 2) : (if p then kR L a else ([PV.v (.int .i64 i), PV.bs k] : List PV).getD c (.v undef)).one := by
 by_cases hp : p
 ·rw [if_pos hp]; exact kR_oneP _ _
 ·rw [if_neg hp]
  match c, h hp with
  | 0, _ => exact (rfl : (BV.p (.v (.int .i64 i))).one)
  | 1, _ => trivial
theorem kp_app (L : KL) (x : Int × List UInt8) (j : Nat) (hj : j < (L.length + 1) * 2) :
  (if j < L.length * 2 then kR L j else ([PV.v (.int .i64 x.1), PV.bs x.2] : List PV).getD (j - L.length * 2) (.v undef)) = kR (L ++ [x]) j := by
 rw [kR_app]
 by_cases h : j < L.length * 2
 ·rw [if_pos h, if_pos h]
 ·rw [if_neg h, if_neg h]
  rcases (show j - L.length * 2 = 0 ∨ j - L.length * 2 = 1 by omega) with e | e <;> rw [e] <;> rfl
theorem kp_1 {g : Int} {s : List UInt8} {K : KL} {m : Nat} (h : ¬ 16 < (kpN g s K m).length + 1) : kpN g s K (m + 1) = kpN g s K m ++ [(g + (m : Int), kyN g s m)] := if_neg (by rw [List.length_append]; exact h)
theorem kp_2 {g : Int} {s : List UInt8} {K : KL} {m : Nat} (h : 16 < (kpN g s K m).length + 1) : kpN g s K (m + 1) = (kpN g s K m ++ [(g + (m : Int), kyN g s m)]).drop 1 := if_pos (by rw [List.length_append]; exact h)
theorem kp_le1 {g : Int} {s : List UInt8} {K : KL} {m : Nat} (h : 16 < (kpN g s K m).length + 1) :
  (BV.p (PV.sl (0 + (((kpN g s K m).length + 1) - 1)) 2 fun j =>
      if 0 + j < 0 * 2 then ([] : List PV).getD (0 + (0 + j)) (PV.v undef)
      else
       if 0 + (1 * 2 + (0 + j - 0 * 2)) < List.length (kpN g s K m) * 2 then
        kR (kpN g s K m) (0 + (0 + (1 * 2 + (0 + j - 0 * 2))))
       else
        ([PV.v (Value.int IntKind.i64 (g + (m : Int))), PV.bs (kyN g s m)] : List PV).getD
         (0 + (0 + (1 * 2 + (0 + j - 0 * 2)) - List.length (kpN g s K m) * 2)) (PV.v undef))).le (.p (.sl (kpN g s K (m + 1)).length 2 (kR (kpN g s K (m + 1))))) := by
 rw [kp_2 h]
 refine le_sl (by rw [List.length_drop, List.length_append]; show _ = _ + 1 - 1; omega) fun j hj => ?_
 rw [if_neg (by omega), kR_drop, ← kp_app _ _ _ (by omega)]
 simp only [Nat.zero_add, Nat.zero_mul, Nat.sub_zero, Nat.one_mul]
theorem kp_le2 {g : Int} {s : List UInt8} {K : KL} {m : Nat} (h : ¬ 16 < (kpN g s K m).length + 1) :
  (BV.p (PV.sl ((kpN g s K m).length + 1) 2 fun j =>
       if 0 + j < List.length (kpN g s K m) * 2 then
        kR (kpN g s K m) (0 + (0 + j))
       else
        ([PV.v (Value.int IntKind.i64 (g + (m : Int))), PV.bs (kyN g s m)] : List PV).getD
         (0 + (0 + j - List.length (kpN g s K m) * 2)) (PV.v undef))).le (.p (.sl (kpN g s K (m + 1)).length 2 (kR (kpN g s K (m + 1))))) := by
 rw [kp_1 h]
 refine le_sl (by rw [List.length_append]; rfl) fun j hj => ?_
 rw [← kp_app _ _ _ (by omega)]
 simp only [Nat.zero_add]
theorem tkz (k : List UInt8) : List.take (0 + k.length) (List.drop 0 (List.take 0 (List.drop 0 []) ++ k)) = k := by simp
theorem kp_one2 (L : KL) (i : Int) (k : List UInt8) (n j : Nat) (hj : j < ((n + 1) - 1) * 2) :
  (if 0 + (1 * 2 + j) < n * 2 then kR L (0 + (0 + (1 * 2 + j))) else ([PV.v (.int .i64 i), PV.bs k] : List PV).getD (0 + (0 + (1 * 2 + j) - n * 2)) (.v undef)).one := kp_one L _ _ i k _ (fun h => by omega)
theorem nx_kl (g : Int) (s : List UInt8) (K : KL) : (nxR g s K).K.length ≤ 16 := by
 unfold nxR
 by_cases h : rightR g s K
 ·rw [if_neg (fun q => q h)]
  split
  ·exact Nat.zero_le _
  ·exact h.2.2.2.2
 ·rw [if_pos h]; exact Nat.zero_le _
theorem tk_kl (g : Int) (s : List UInt8) (K : KL) (gen : Int) : (takeF g s K gen).K.length ≤ 16 := by
 unfold takeF
 by_cases h : rightR g s K
 ·rw [if_neg (fun q => q h)]
  split
  ·exact Nat.le_trans (rm_sub K _).length_le h.2.2.2.2
  ·split
   ·exact Nat.zero_le _
   ·split
    ·exact Nat.zero_le _
    ·split
     ·exact Nat.zero_le _
     ·exact kp_len h.2.2.2.2 _
 ·rw [if_pos h]; exact Nat.zero_le _
end Go.Vh
