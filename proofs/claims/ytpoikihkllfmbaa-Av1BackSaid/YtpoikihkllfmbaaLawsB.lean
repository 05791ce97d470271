/- What the program writes, bit by bit. -/
import Derived.Test.YtpoikihkllfmbaaLawsA
set_option linter.unusedVariables false
namespace Go.Eng
/-! ### bytes as one number -/
def num (l : List Int) : Nat := l.foldl (fun a x => 256 * a + x.toNat) 0
def Byt (l : List Int) : Prop := ∀ x ∈ l, 0 ≤ x ∧ x < 256
theorem num_from (l : List Int) : ∀ a : Nat, l.foldl (fun a x => 256 * a + x.toNat) a = a * 256 ^ l.length + num l := by
  induction l with
  | nil => intro a; simp [num]
  | cons x r ih =>
    intro a
    have h0 := ih (256 * 0 + x.toNat)
    simp only [List.foldl_cons, num, List.length_cons] at *
    rw [ih (256 * a + x.toNat), h0, Nat.pow_succ]
    simp only [Nat.mul_zero, Nat.zero_add, Nat.add_mul]
    rw [show 256 * a * 256 ^ r.length = a * (256 ^ r.length * 256) by rw [Nat.mul_comm 256 a, Nat.mul_assoc, Nat.mul_comm 256]]
    omega
theorem num_cons (x : Int) (r : List Int) : num (x :: r) = x.toNat * 256 ^ r.length + num r := by
  show (x :: r).foldl _ 0 = _
  rw [List.foldl_cons, num_from]
  simp
theorem num_append (a b : List Int) : num (a ++ b) = num a * 256 ^ b.length + num b := by
  unfold num
  rw [List.foldl_append, num_from]
  rfl
theorem Byt.nil : Byt [] := fun x h => by cases h
theorem num_lt {l : List Int} (h : Byt l) : num l < 256 ^ l.length := by
  induction l with
  | nil => simp [num]
  | cons x r ih =>
    rw [num_cons, List.length_cons, Nat.pow_succ]
    have h1 := h x (by simp)
    have h2 := ih (fun y hy => h y (by simp [hy]))
    have h3 : x.toNat ≤ 255 := by omega
    have h4 : x.toNat * 256 ^ r.length ≤ 255 * 256 ^ r.length := Nat.mul_le_mul_right _ h3
    omega
theorem num_inj : ∀ {a b : List Int}, Byt a → Byt b → a.length = b.length → num a = num b → a = b
  | [], [], _, _, _, _ => rfl
  | [], _ :: _, _, _, h, _ => by simp at h
  | _ :: _, [], _, _, h, _ => by simp at h
  | x :: r, y :: s, ha, hb, hl, hn => by
    rw [num_cons, num_cons] at hn
    have hl' : r.length = s.length := by simpa using hl
    have h1 := num_lt (l := r) (fun z hz => ha z (by simp [hz]))
    have h2 := num_lt (l := s) (fun z hz => hb z (by simp [hz]))
    rw [hl'] at hn h1
    have p : 0 < 256 ^ s.length := Nat.pow_pos (by decide)
    have e1 : x.toNat = y.toNat := by
      have a1 : (x.toNat * 256 ^ s.length + num r) / 256 ^ s.length = x.toNat := by rw [Nat.add_comm, Nat.add_mul_div_right _ _ p, Nat.div_eq_of_lt h1]; omega
      have a2 : (y.toNat * 256 ^ s.length + num s) / 256 ^ s.length = y.toNat := by rw [Nat.add_comm, Nat.add_mul_div_right _ _ p, Nat.div_eq_of_lt h2]; omega
      rw [← a1, ← a2, hn]
    rw [e1] at hn
    have e2 : num r = num s := by omega
    have hx := ha x (by simp)
    have hy := hb y (by simp)
    rw [num_inj (fun z hz => ha z (by simp [hz])) (fun z hz => hb z (by simp [hz])) hl' e2, show x = y by omega]

theorem num_split (l : List Int) (i : Nat) (hi : i < l.length) : num l = (num (l.take i) * 256 + (l.getD i 0).toNat) * 256 ^ (l.length - 1 - i) + num (l.drop (i + 1)) := by
  have e : l = l.take i ++ l.getD i 0 :: l.drop (i + 1) := by
    rw [List.getD_eq_getElem?_getD, List.getElem?_eq_getElem hi, Option.getD_some, ← List.drop_eq_getElem_cons hi, List.take_append_drop]
  have hd : (l.drop (i + 1)).length = l.length - 1 - i := by simp; omega
  conv => lhs; rw [e]
  rw [num_append, num_cons, List.length_cons, hd, Nat.pow_succ, Nat.add_mul, Nat.mul_assoc]
  rw [Nat.mul_comm 256 (256 ^ _)]
  omega
theorem num_set (l : List Int) (i : Nat) (y : Int) (hi : i < l.length) : num (l.set i y) = (num (l.take i) * 256 + y.toNat) * 256 ^ (l.length - 1 - i) + num (l.drop (i + 1)) := by
  have h := num_split (l.set i y) i (by simpa using hi)
  rw [h]
  have h1 : (l.set i y).take i = l.take i := by rw [List.take_set_of_le (by omega)]
  have h2 : (l.set i y).drop (i + 1) = l.drop (i + 1) := by rw [List.drop_set_of_lt (by omega)]
  have h3 : (l.set i y).getD i 0 = y := by simp [List.getD, hi]
  rw [h1, h2, h3, List.length_set]
theorem byte_at {l : List Int} (h : Byt l) (i : Nat) (hi : i < l.length) : (l.getD i 0).toNat = num l / 256 ^ (l.length - 1 - i) % 256 := by
  have hs := num_split l i hi
  have hd : Byt (l.drop (i + 1)) := fun x hx => h x (List.mem_of_mem_drop hx)
  have h1 := num_lt hd
  have hl : (l.drop (i + 1)).length = l.length - 1 - i := by simp; omega
  rw [hl] at h1
  have hb : (l.getD i 0).toNat < 256 := by
    have := h (l.getD i 0) (by rw [List.getD_eq_getElem?_getD, List.getElem?_eq_getElem hi, Option.getD_some]; exact List.getElem_mem hi)
    omega
  rw [hs, Nat.add_comm, Nat.add_mul_div_right _ _ (Nat.pow_pos (by decide)), Nat.div_eq_of_lt h1, Nat.zero_add]
  omega
theorem pow256 (n : Nat) : 256 ^ n = 2 ^ (8 * n) := by rw [Nat.pow_mul]
theorem Byt.set {l : List Int} (h : Byt l) (i : Nat) {y : Int} (hy : 0 ≤ y ∧ y < 256) : Byt (l.set i y) := by
  intro x hx
  rcases List.mem_or_eq_of_mem_set hx with h1 | h1
  · exact h x h1
  · rw [h1]; exact hy
theorem Byt.append {a b : List Int} (ha : Byt a) (hb : Byt b) : Byt (a ++ b) := by
  intro x hx
  rcases List.mem_append.1 hx with h | h
  · exact ha x h
  · exact hb x h
theorem num_zeros (n : Nat) : num (List.replicate n (0 : Int)) = 0 := by
  induction n with
  | zero => rfl
  | succ n ih => rw [List.replicate_succ, num_cons, ih]; simp
theorem Byt.zeros (n : Nat) : Byt (List.replicate n (0 : Int)) := by
  intro x hx
  rw [List.eq_of_mem_replicate hx]
  decide
end Go.Eng


set_option linter.unusedVariables false
namespace Go.Eng
theorem wrap_u8 {n : Nat} (h : n < 256) : IntKind.u8.wrap (n : Int) = n := by
  unfold IntKind.wrap IntKind.signed IntKind.bits
  simp only [Bool.false_and, Bool.false_eq_true, if_false]
  exact Int.emod_eq_of_lt (by omega) (by omega)
theorem wrap_u8_mod (n : Nat) : IntKind.u8.wrap (n : Int) = ((n % 256 : Nat) : Int) := by
  unfold IntKind.wrap IntKind.signed IntKind.bits
  simp only [Bool.false_and, Bool.false_eq_true, if_false]
  rfl
theorem wrap_u64 {n : Nat} (h : n < 18446744073709551616) : IntKind.u64.wrap (n : Int) = n := by
  unfold IntKind.wrap IntKind.signed IntKind.bits
  simp only [Bool.false_and, Bool.false_eq_true, if_false]
  exact Int.emod_eq_of_lt (by omega) (by omega)
theorem wrap_u64_mod (n : Nat) : IntKind.u64.wrap (n : Int) = ((n % 18446744073709551616 : Nat) : Int) := by
  unfold IntKind.wrap IntKind.signed IntKind.bits
  simp only [Bool.false_and, Bool.false_eq_true, if_false]
  rfl
theorem or8 {x y : Nat} (hx : x < 256) (hy : y < 256) : IntKind.u8.wrap ((BitVec.ofInt IntKind.u8.bits (x : Int) ||| BitVec.ofInt IntKind.u8.bits (y : Int)).toNat : Int) = ((x ||| y : Nat) : Int) := by
  have e : (BitVec.ofInt IntKind.u8.bits (x : Int) ||| BitVec.ofInt IntKind.u8.bits (y : Int)).toNat = x ||| y := by
    show (BitVec.ofInt 8 (x : Int) ||| BitVec.ofInt 8 (y : Int)).toNat = _
    rw [BitVec.ofInt_natCast, BitVec.ofInt_natCast, BitVec.toNat_or, BitVec.toNat_ofNat, BitVec.toNat_ofNat, Nat.mod_eq_of_lt hx, Nat.mod_eq_of_lt hy]
  rw [e, wrap_u8 (Nat.or_lt_two_pow (n := 8) hx hy)]
theorem and64 {x t : Nat} (hx : x < 18446744073709551616) (ht : t ≤ 63) : IntKind.u64.wrap ((BitVec.ofInt IntKind.u64.bits (x : Int) &&& BitVec.ofInt IntKind.u64.bits ((2 ^ t - 1 : Nat) : Int)).toNat : Int) = ((x % 2 ^ t : Nat) : Int) := by
  have h2 : 2 ^ t ≤ 2 ^ 63 := Nat.pow_le_pow_right (by decide) ht
  have h3 : 2 ^ 63 = 9223372036854775808 := by decide
  have e : (BitVec.ofInt IntKind.u64.bits (x : Int) &&& BitVec.ofInt IntKind.u64.bits ((2 ^ t - 1 : Nat) : Int)).toNat = x % 2 ^ t := by
    show (BitVec.ofInt 64 (x : Int) &&& BitVec.ofInt 64 ((2 ^ t - 1 : Nat) : Int)).toNat = _
    rw [BitVec.ofInt_natCast, BitVec.ofInt_natCast, BitVec.toNat_and, BitVec.toNat_ofNat, BitVec.toNat_ofNat, Nat.mod_eq_of_lt hx, Nat.mod_eq_of_lt (by omega), Nat.and_two_pow_sub_one_eq_mod]
  rw [e, wrap_u64 (Nat.lt_of_le_of_lt (Nat.mod_le _ _) hx)]
theorem or_add {x y r : Nat} (hx : x % 2 ^ r = 0) (hy : y < 2 ^ r) : x ||| y = x + y := by
  obtain ⟨q, rfl⟩ := Nat.dvd_of_mod_eq_zero hx
  exact (Nat.two_pow_add_eq_or_of_lt hy q).symm
theorem fdiv_nat (x k : Nat) : (x : Int).fdiv (2 ^ k) = ((x / 2 ^ k : Nat) : Int) := by
  rw [Int.fdiv_eq_ediv_of_nonneg _ (by exact_mod_cast Nat.zero_le _)]
  norm_cast

/-! ### what stands behind so many bits -/
structure K (k : List Int × Int × Unit) (N m : Nat) : Prop where
  many : k.2.1 = (m : Int)
  len : k.1.length = (m + 7) / 8
  byt : Byt k.1
  num : num k.1 = N * 2 ^ (8 * k.1.length - m)
  lt : N < 2 ^ m
theorem K.inj {k k' : List Int × Int × Unit} {N m : Nat} (h : K k N m) (h' : K k' N m) : k = k' := by
  have hl : k.1.length = k'.1.length := by rw [h.len, h'.len]
  have h1 : k.1 = k'.1 := num_inj h.byt h'.byt hl (by rw [h.num, h'.num, hl])
  have h2 : k.2.1 = k'.2.1 := by rw [h.many, h'.many]
  exact Prod.ext h1 (Prod.ext h2 rfl)
theorem K.nil : K (([] : List Int), (0 : Int), ()) 0 0 := ⟨rfl, rfl, Byt.nil, rfl, by decide⟩

/-- the byte that is drawn into -/
theorem draw_step {out : List Int} {A V L a cc : Nat} (hl : out.length = L) (hb : Byt out) (ha : a + cc ≤ 8 * L) (hcc : 0 < cc) (hn : num out = A * 2 ^ (8 * L - a)) :
    ∃ X : Nat, X < 256 ∧ (out.getD (a / 8) 0).toNat ||| (V / 2 ^ (cc - min cc (8 - a % 8)) % 2 ^ (min cc (8 - a % 8)) * 2 ^ (8 - a % 8 - min cc (8 - a % 8))) = X ∧
      num (out.set (a / 8) (X : Int)) = (A * 2 ^ (min cc (8 - a % 8)) + V / 2 ^ (cc - min cc (8 - a % 8)) % 2 ^ (min cc (8 - a % 8))) * 2 ^ (8 * L - (a + min cc (8 - a % 8))) := by
  have hj : a / 8 < out.length := by omega
  generalize ht : min cc (8 - a % 8) = t
  have htr : t ≤ 8 - a % 8 := by omega
  generalize hp : V / 2 ^ (cc - t) % 2 ^ t = p
  have hpl : p < 2 ^ t := by rw [← hp]; exact Nat.mod_lt _ (Nat.pow_pos (by decide))
  have hpb : p * 2 ^ (8 - a % 8 - t) < 2 ^ (8 - a % 8) := by
    have : 2 ^ (8 - a % 8) = 2 ^ t * 2 ^ (8 - a % 8 - t) := by rw [← Nat.pow_add]; congr 1; omega
    rw [this]
    exact Nat.mul_lt_mul_of_pos_right hpl (Nat.pow_pos (by decide))
  have hob := byte_at hb (a / 8) hj
  have hexp : 8 * L - a = 8 - a % 8 + 8 * (out.length - 1 - a / 8) := by omega
  have hq : num out / 256 ^ (out.length - 1 - a / 8) = A * 2 ^ (8 - a % 8) := by
    rw [hn, hexp, Nat.pow_add, ← Nat.mul_assoc, pow256]
    exact Nat.mul_div_cancel _ (Nat.pow_pos (by decide))
  rw [hq] at hob
  have h256 : (256 : Nat) = 2 ^ (8 - a % 8) * 2 ^ (a % 8) := by rw [← Nat.pow_add]; rw [show 8 - a % 8 + a % 8 = 8 by omega]
  have hmod : (out.getD (a / 8) 0).toNat % 2 ^ (8 - a % 8) = 0 := by
    rw [hob, h256, Nat.mul_comm A, Nat.mul_mod_mul_left, Nat.mul_mod_right]
  have hsum := or_add hmod hpb
  have hlt : (out.getD (a / 8) 0).toNat < 256 := by rw [hob]; exact Nat.mod_lt _ (by decide)
  refine ⟨(out.getD (a / 8) 0).toNat + p * 2 ^ (8 - a % 8 - t), ?_, hsum, ?_⟩
  · rw [← hsum]
    exact Nat.or_lt_two_pow (n := 8) hlt (Nat.lt_of_lt_of_le hpb (by
      have : 2 ^ (8 - a % 8) ≤ 2 ^ 8 := Nat.pow_le_pow_right (by decide) (by omega)
      exact this))
  · rw [num_set _ _ _ hj]
    have hs := num_split out (a / 8) hj
    rw [Int.toNat_natCast]
    have e1 : (num (out.take (a / 8)) * 256 + ((out.getD (a / 8) 0).toNat + p * 2 ^ (8 - a % 8 - t))) * 256 ^ (out.length - 1 - a / 8) + num (out.drop (a / 8 + 1)) = num out + p * 2 ^ (8 - a % 8 - t) * 256 ^ (out.length - 1 - a / 8) := by
      rw [hs, ← Nat.add_assoc, Nat.add_mul]
      omega
    rw [e1, hn]
    have e2 : 8 * L - a = t + (8 * L - (a + t)) := by omega
    have e3 : p * 2 ^ (8 - a % 8 - t) * 256 ^ (out.length - 1 - a / 8) = p * 2 ^ (8 * L - (a + t)) := by
      rw [pow256, Nat.mul_assoc, ← Nat.pow_add]
      congr 2; omega
    rw [e3, e2, Nat.pow_add, ← Nat.mul_assoc, ← Nat.add_mul]
theorem draw_sum {N V c cc t : Nat} (h : t ≤ cc) (hc : cc ≤ c) : (N * 2 ^ (c - cc) + V / 2 ^ cc) * 2 ^ t + V / 2 ^ (cc - t) % 2 ^ t = N * 2 ^ (c - (cc - t)) + V / 2 ^ (cc - t) := by
  have e1 : V / 2 ^ cc = V / 2 ^ (cc - t) / 2 ^ t := by rw [Nat.div_div_eq_div_mul, ← Nat.pow_add]; congr 2; omega
  have e2 : 2 ^ (c - (cc - t)) = 2 ^ (c - cc) * 2 ^ t := by rw [← Nat.pow_add]; congr 1; omega
  rw [e1, e2, Nat.add_mul, Nat.mul_assoc, Nat.add_assoc, Nat.div_add_mod']
end Go.Eng


set_option linter.unusedVariables false
namespace Go.Eng
/-! ### fields of bits, one behind the other -/
def putF (s f : Nat × Nat) : Nat × Nat := (s.1 * 2 ^ f.2 + f.1, s.2 + f.2)
def puts (s : Nat × Nat) (l : List (Nat × Nat)) : Nat × Nat := l.foldl putF s
theorem puts_append (s : Nat × Nat) (a b : List (Nat × Nat)) : puts s (a ++ b) = puts (puts s a) b := List.foldl_append ..
theorem puts_snoc (s : Nat × Nat) (a : List (Nat × Nat)) (f : Nat × Nat) : puts s (a ++ [f]) = putF (puts s a) f := by rw [puts_append]; rfl
theorem puts_nil (s : Nat × Nat) : puts s [] = s := rfl
theorem puts_cons (s f : Nat × Nat) (r : List (Nat × Nat)) : puts s (f :: r) = puts (putF s f) r := rfl
/-- what is put behind something is put behind nothing, and then behind it -/
theorem puts_from (l : List (Nat × Nat)) : ∀ s : Nat × Nat, puts s l = (s.1 * 2 ^ (puts (0, 0) l).2 + (puts (0, 0) l).1, s.2 + (puts (0, 0) l).2) := by
  induction l with
  | nil => intro s; simp [puts]
  | cons f r ih =>
    intro s
    rw [puts_cons, puts_cons, ih (putF s f), ih (putF (0, 0) f)]
    simp only [putF, Nat.zero_mul, Nat.zero_add, Nat.pow_add]
    refine Prod.ext ?_ ?_
    · simp only [Nat.add_mul, Nat.mul_assoc]; omega
    · simp only []; omega
/-- two fields are one -/
theorem putF_two (s : Nat × Nat) (a b c d : Nat) : putF (putF s (a, b)) (c, d) = putF s (a * 2 ^ d + c, b + d) := by
  simp only [putF]
  refine Prod.ext ?_ ?_
  · simp only [Nat.pow_add, Nat.add_mul, Nat.mul_assoc]; omega
  · simp only []; omega
def KB (k : List Int × Int × Unit) (s : Nat × Nat) (b : Nat) : Prop := K k s.1 s.2 ∧ s.2 ≤ b
theorem KB.mono {k : List Int × Int × Unit} {s : Nat × Nat} {b c : Nat} (h : KB k s b) (hc : b ≤ c) : KB k s c := ⟨h.1, Nat.le_trans h.2 hc⟩
theorem KB.nil : KB (([] : List Int), (0 : Int), ()) (0, 0) 0 := ⟨K.nil, Nat.le_refl _⟩
def rangeF (v n : Nat) : Nat × Nat := if v < 2 ^ (Nat.log2 n + 1) - n then (v, Nat.log2 n) else (v + (2 ^ (Nat.log2 n + 1) - n), Nat.log2 n + 1)
theorem rangeF_fits {v n : Nat} (hn : 1 ≤ n) (hv : v < n) : (rangeF v n).1 < 2 ^ (rangeF v n).2 := by
  have h1 : 2 ^ Nat.log2 n ≤ n := Nat.log2_self_le (by omega)
  have h2 : n < 2 ^ (Nat.log2 n + 1) := Nat.lt_log2_self
  have h3 : 2 ^ (Nat.log2 n + 1) = 2 * 2 ^ Nat.log2 n := by rw [Nat.pow_succ]; omega
  unfold rangeF
  split <;> simp only [] <;> omega
theorem take_map_succ {α β : Type} (f : α → β) (l : List α) (z : α) (i : Nat) (hi : i < l.length) : (l.take (i + 1)).map f = (l.take i).map f ++ [f (l.getD i z)] := by
  rw [List.take_succ_eq_append_getElem hi, List.map_append]
  simp [List.getD, hi]
theorem take_flatMap_succ {α β : Type} (f : α → List β) (l : List α) (z : α) (i : Nat) (hi : i < l.length) : (l.take (i + 1)).flatMap f = (l.take i).flatMap f ++ f (l.getD i z) := by
  rw [List.take_succ_eq_append_getElem hi, List.flatMap_append]
  simp [List.getD, hi]
end Go.Eng


set_option linter.unusedVariables false
set_option linter.unusedSimpArgs false
namespace Go.Proofs.Try.Eng
open Go Go.Eng

theorem bits_Right_true {k : T_api_Ink} {N m : Nat} (h : K k N m) (hb : m ≤ 1000000000) : P_bits_Right (k, ()) = some (true, ()) := by
  obtain ⟨h1, h2, h3, h4, h5⟩ := h
  rw [E_bits_Right, N_bits_Right]
  have e1 : (m : Int).tmod 8 = ((m % 8 : Nat) : Int) := by rw [Int.tmod_eq_emod_of_nonneg (by omega)]; rfl
  have e2 : (m : Int).tdiv 8 = ((m / 8 : Nat) : Int) := by rw [Int.tdiv_eq_ediv_of_nonneg (by omega)]; rfl
  have e3 : IntKind.i64.wrap ((m / 8 : Nat) : Int) = ((m / 8 : Nat) : Int) := wrap64 (by omega) (by omega)
  have e4 : IntKind.i64.wrap (((m / 8 : Nat) : Int) + 1) = ((m / 8 + 1 : Nat) : Int) := by rw [wrap64 (by omega) (by omega)]; rfl
  have e5 : decide ((m : Int) < 0) = false := decide_eq_false (by omega)
  have e6 : decide ((8 : Int) ≠ 0) = true := by decide
  simp only [h1, e1, e2, e3, e4, e5, e6, if_true, Bool.false_eq_true, if_false]
  by_cases h8 : m % 8 = 0
  · have e7 : (((m % 8 : Nat) : Int) != 0) = false := by rw [h8]; rfl
    have e8 : ((k.1.length : Int) != ((m / 8 : Nat) : Int)) = false := by rw [h2]; simp; omega
    simp only [e7, e8, Bool.false_eq_true, if_false, Option.bind_some, e1]
  · have e7 : (((m % 8 : Nat) : Int) != 0) = true := by simp; omega
    have e8 : ((k.1.length : Int) != ((m / 8 + 1 : Nat) : Int)) = false := by rw [h2]; simp; omega
    have e9 : IntKind.i64.wrap (((m / 8 + 1 : Nat) : Int) - 1) = ((m / 8 : Nat) : Int) := by rw [wrap64 (by omega) (by omega)]; omega
    have hj : m / 8 < k.1.length := by omega
    have hbt := byte_at h3 (m / 8) hj
    have hlen : k.1.length - 1 - m / 8 = 0 := by omega
    rw [hlen, Nat.pow_zero, Nat.div_one, h4, show 8 * k.1.length - m = 8 - m % 8 by omega] at hbt
    have h256 : (256 : Nat) = 2 ^ (8 - m % 8) * 2 ^ (m % 8) := by rw [← Nat.pow_add, show 8 - m % 8 + m % 8 = 8 by omega]
    have hx : 0 ≤ k.1.getD (m / 8) 0 := (h3 _ (getD_mem hj)).1
    obtain ⟨x, hxe⟩ := Int.eq_ofNat_of_zero_le hx
    have hz : (x * 2 ^ (m % 8)) % 256 = 0 := by
      rw [hxe, Int.toNat_natCast] at hbt
      rw [h256, Nat.mul_comm N, Nat.mul_mod_mul_left] at hbt
      rw [hbt, h256, Nat.mul_assoc, Nat.mul_mod_mul_left, Nat.mul_mod_left]
      rfl
    have e10 : IntKind.u64.wrap ((m % 8 : Nat) : Int) = ((m % 8 : Nat) : Int) := wrap_u64 (by omega)
    have e11 : min (m % 8) IntKind.u8.bits = m % 8 := Nat.min_eq_left (show m % 8 ≤ 8 by omega)
    have e12 : IntKind.u8.wrap ((x : Int) * 2 ^ (m % 8)) = 0 := by
      have : (x : Int) * 2 ^ (m % 8) = ((x * 2 ^ (m % 8) : Nat) : Int) := by norm_cast
      rw [this, wrap_u8_mod, hz]; rfl
    simp only [e7, e8, Bool.false_eq_true, if_false, if_true, Option.bind_some, e1, e9, Int.toNat_natCast, e10, e11, hxe, e12]
    rw [decide_eq_true (show 0 ≤ ((m / 8 : Nat) : Int) ∧ ((m / 8 : Nat) : Int) < (k.1.length : Int) by omega), decide_eq_true (show (0 : Int) ≤ ((m % 8 : Nat) : Int) by omega)]
    rfl

theorem bits_draw_K {k : T_api_Ink} {N m : Nat} (h : K k N m) (hb : m ≤ 1000000000) (V c : Nat) (hc : c ≤ 64) (hV : V < 2 ^ c) : ∃ k', P_bits_draw (k, (V : Int), (c : Int), ()) = some (k', ()) ∧ K k' (N * 2 ^ c + V) (m + c) := by
  obtain ⟨h1, h2, h3, h4, h5⟩ := h
  rw [E_bits_draw, N_bits_draw]
  have e6 : decide ((8 : Int) ≠ 0) = true := by decide
  have e1 : IntKind.i64.wrap ((m : Int) + (c : Int)) = ((m + c : Nat) : Int) := by rw [wrap64 (by omega) (by omega)]; rfl
  have e2 : IntKind.i64.wrap (((m + c : Nat) : Int) + 7) = ((m + c + 7 : Nat) : Int) := by rw [wrap64 (by omega) (by omega)]; rfl
  have e3 : ((m + c + 7 : Nat) : Int).tdiv 8 = (((m + c + 7) / 8 : Nat) : Int) := by rw [Int.tdiv_eq_ediv_of_nonneg (by omega)]; rfl
  have e4 : IntKind.i64.wrap (((m + c + 7) / 8 : Nat) : Int) = (((m + c + 7) / 8 : Nat) : Int) := wrap64 (by omega) (by omega)
  have hV64 : V < 18446744073709551616 := Nat.lt_of_lt_of_le hV (by
    have : 2 ^ c ≤ 2 ^ 64 := Nat.pow_le_pow_right (by decide) hc
    have e : 2 ^ 64 = 18446744073709551616 := by decide
    omega)
  simp only [h1, e1, e2, e3, e4, e6, if_true, Int.toNat_natCast, List.length_replicate]
  rw [decide_eq_true (by omega), if_pos rfl]
  refine iter_less (F := L_bits_draw_5 1000000) (fun d => ∃ (cc a : Nat), d.2.2.1 = (V : Int) ∧ d.2.2.2.1 = (cc : Int) ∧ d.2.2.2.2.1 = ((m + c : Nat) : Int) ∧ d.2.2.2.2.2.1.length = (m + c + 7) / 8 ∧ d.2.2.2.2.2.2.1 = (a : Int) ∧ a + cc = m + c ∧ cc ≤ c ∧ Byt d.2.2.2.2.2.1 ∧
      num d.2.2.2.2.2.1 = (N * 2 ^ (c - cc) + V / 2 ^ cc) * 2 ^ (8 * ((m + c + 7) / 8) - a)) (fun d => d.2.2.2.1.toNat)
    (fun o => ∃ k', o = some (k', ()) ∧ K k' (N * 2 ^ c + V) (m + c)) ?_ 1000000 _ ⟨c, m, rfl, rfl, rfl, ?_, rfl, rfl, Nat.le_refl _, ?_, ?_⟩ (by simp only [Int.toNat_natCast]; omega)
  · rintro ⟨a0, b0, v, n', M, out, at', u⟩ ⟨cc, a, hv, hc1, hc2, hc3, hc4, hc5, hc6, hby, hnum⟩
    simp only at hv hc1 hc2 hc3 hc4 hby hnum
    subst hv hc1 hc2 hc4
    by_cases hz : cc = 0
    · left
      intro J
      simp only [L_bits_draw_5]
      rw [decide_eq_false (by omega)]
      subst hz
      refine ⟨_, rfl, rfl, hc3, hby, ?_, ?_⟩
      · rw [hnum, hc3, Nat.sub_zero, Nat.pow_zero, Nat.div_one, show a = m + c by omega]
      · rw [Nat.pow_add]
        have : N * 2 ^ c + V < N * 2 ^ c + 2 ^ c := by omega
        have h6 : N * 2 ^ c + 2 ^ c ≤ 2 ^ m * 2 ^ c := by
          rw [← Nat.succ_mul]; exact Nat.mul_le_mul_right _ h5
        omega
    · right
      have f1 : (a : Int).tmod 8 = ((a % 8 : Nat) : Int) := by rw [Int.tmod_eq_emod_of_nonneg (by omega)]; rfl
      have f2 : (a : Int).tdiv 8 = ((a / 8 : Nat) : Int) := by rw [Int.tdiv_eq_ediv_of_nonneg (by omega)]; rfl
      have f3 : IntKind.i64.wrap (8 - ((a % 8 : Nat) : Int)) = ((8 - a % 8 : Nat) : Int) := by rw [wrap64 (by omega) (by omega)]; omega
      have f4 : (if (cc : Int) < ((8 - a % 8 : Nat) : Int) then (cc : Int) else ((8 - a % 8 : Nat) : Int)) = ((min cc (8 - a % 8) : Nat) : Int) := by split <;> omega
      have f5 : IntKind.i64.wrap ((a / 8 : Nat) : Int) = ((a / 8 : Nat) : Int) := wrap64 (by omega) (by omega)
      generalize ht : min cc (8 - a % 8) = t at f4
      have ht1 : t ≤ cc ∧ t ≤ 8 - a % 8 ∧ 0 < t := by omega
      have f6 : IntKind.i64.wrap ((cc : Int) - (t : Int)) = ((cc - t : Nat) : Int) := by rw [wrap64 (by omega) (by omega)]; omega
      have f7 : IntKind.i64.wrap ((a : Int) + (t : Int)) = ((a + t : Nat) : Int) := by rw [wrap64 (by omega) (by omega)]; omega
      have f8 : IntKind.i64.wrap (((8 - a % 8 : Nat) : Int) - (t : Int)) = ((8 - a % 8 - t : Nat) : Int) := by rw [wrap64 (by omega) (by omega)]; omega
      have g1 : IntKind.u64.wrap ((cc - t : Nat) : Int) = ((cc - t : Nat) : Int) := wrap_u64 (by omega)
      have g2 : IntKind.u64.wrap (t : Int) = (t : Int) := wrap_u64 (by omega)
      have g3 : IntKind.u64.wrap ((8 - a % 8 - t : Nat) : Int) = ((8 - a % 8 - t : Nat) : Int) := wrap_u64 (by omega)
      have g4 : min (cc - t) IntKind.u64.bits = cc - t := Nat.min_eq_left (show cc - t ≤ 64 by omega)
      have g5 : min t IntKind.u64.bits = t := Nat.min_eq_left (show t ≤ 64 by omega)
      have g6 : min (8 - a % 8 - t) IntKind.u64.bits = 8 - a % 8 - t := Nat.min_eq_left (show 8 - a % 8 - t ≤ 64 by omega)
      have p2 : 2 ^ t ≤ 256 := by
        have : 2 ^ t ≤ 2 ^ 8 := Nat.pow_le_pow_right (by decide) (by omega)
        exact this
      have p1 : 0 < 2 ^ t := Nat.pow_pos (by decide)
      have g7 : IntKind.u64.wrap (IntKind.u64.wrap ((1 : Int) * 2 ^ t) - 1) = ((2 ^ t - 1 : Nat) : Int) := by
        have : (1 : Int) * 2 ^ t = ((2 ^ t : Nat) : Int) := by norm_cast; omega
        rw [this, wrap_u64 (by omega), show ((2 ^ t : Nat) : Int) - 1 = ((2 ^ t - 1 : Nat) : Int) by omega, wrap_u64 (by omega)]
      have g8 : (V : Int).fdiv (2 ^ (cc - t)) = ((V / 2 ^ (cc - t) : Nat) : Int) := fdiv_nat _ _
      have g9 : IntKind.u64.wrap ((BitVec.ofInt IntKind.u64.bits ((V / 2 ^ (cc - t) : Nat) : Int) &&& BitVec.ofInt IntKind.u64.bits ((2 ^ t - 1 : Nat) : Int)).toNat : Int) = ((V / 2 ^ (cc - t) % 2 ^ t : Nat) : Int) := and64 (Nat.lt_of_le_of_lt (Nat.div_le_self _ _) hV64) (by omega)
      have hpl : V / 2 ^ (cc - t) % 2 ^ t < 2 ^ t := Nat.mod_lt _ p1
      have hpb : V / 2 ^ (cc - t) % 2 ^ t * 2 ^ (8 - a % 8 - t) < 256 := by
        have e : 2 ^ t * 2 ^ (8 - a % 8 - t) ≤ 256 := by
          rw [← Nat.pow_add]
          have : 2 ^ (t + (8 - a % 8 - t)) ≤ 2 ^ 8 := Nat.pow_le_pow_right (by decide) (by omega)
          exact this
        exact Nat.lt_of_lt_of_le (Nat.mul_lt_mul_of_pos_right hpl (Nat.pow_pos (by decide))) e
      have g10 : IntKind.u8.wrap (IntKind.u64.wrap (((V / 2 ^ (cc - t) % 2 ^ t : Nat) : Int) * 2 ^ (8 - a % 8 - t))) = ((V / 2 ^ (cc - t) % 2 ^ t * 2 ^ (8 - a % 8 - t) : Nat) : Int) := by
        have : ((V / 2 ^ (cc - t) % 2 ^ t : Nat) : Int) * 2 ^ (8 - a % 8 - t) = ((V / 2 ^ (cc - t) % 2 ^ t * 2 ^ (8 - a % 8 - t) : Nat) : Int) := by norm_cast
        rw [this, wrap_u64 (by omega), wrap_u8 hpb]
      have hj : a / 8 < out.length := by omega
      have hob := hby _ (getD_mem (z := 0) hj)
      obtain ⟨ob, hobe⟩ := Int.eq_ofNat_of_zero_le hob.1
      obtain ⟨X, hX1, hX2, hX3⟩ := draw_step (V := V) (cc := cc) hc3 hby (show a + cc ≤ 8 * ((m + c + 7) / 8) by omega) (by omega) hnum
      rw [ht] at hX2 hX3
      rw [hobe, Int.toNat_natCast] at hX2
      have g11 : IntKind.u8.wrap ((BitVec.ofInt IntKind.u8.bits (ob : Int) ||| BitVec.ofInt IntKind.u8.bits ((V / 2 ^ (cc - t) % 2 ^ t * 2 ^ (8 - a % 8 - t) : Nat) : Int)).toNat : Int) = (X : Int) := by
        rw [or8 (by omega) hpb, hX2]
      refine ⟨(a0, b0, (V : Int), ((cc - t : Nat) : Int), ((m + c : Nat) : Int), out.set (a / 8) (X : Int), ((a + t : Nat) : Int), u), ⟨cc - t, a + t, rfl, rfl, rfl, ?_, rfl, by omega, by omega, hby.set _ ⟨by omega, by omega⟩, ?_⟩, ?_, fun J => ?_⟩
      · simp only [List.length_set]; exact hc3
      · simp only
        rw [hX3, draw_sum ht1.1 hc6]
      · simp only [Int.toNat_natCast]; omega
      · simp only [L_bits_draw_5, f1, f2, f3, f4, f5, f6, f7, f8, e6, if_true, decide_eq_true (u64_nonneg _), Int.toNat_natCast, g1, g2, g3, g4, g5, g6, g7, g8, g9, g10, hobe, g11]
        rw [decide_eq_true (show (cc : Int) > 0 by omega), decide_eq_true (show 0 ≤ ((a / 8 : Nat) : Int) ∧ ((a / 8 : Nat) : Int) < (out.length : Int) by omega), decide_eq_true (show (0 : Int) ≤ ((cc - t : Nat) : Int) by omega), decide_eq_true (show (0 : Int) ≤ (t : Int) by omega), decide_eq_true (show (0 : Int) ≤ ((8 - a % 8 - t : Nat) : Int) by omega)]
        rfl
  · simp only [List.length_append, List.length_take, List.length_drop, List.length_replicate]; omega
  · simp only
    exact Byt.append (fun x hx => h3 x (List.mem_of_mem_take hx)) (fun x hx => Byt.zeros _ x (List.mem_of_mem_drop hx))
  · simp only
    rw [List.take_of_length_le (by omega), num_append, List.drop_replicate, num_zeros, List.length_replicate, h4, Nat.sub_self, Nat.pow_zero, Nat.div_eq_of_lt hV, pow256, Nat.mul_assoc, ← Nat.pow_add]
    simp only [Nat.mul_one, Nat.add_zero]
    congr 2
    omega

theorem bits_Add_K {k : T_api_Ink} {N m : Nat} (h : K k N m) (hb : m ≤ 1000000000) (V c : Nat) (hc : c ≤ 64) (hV : V < 2 ^ c) : ∃ k', P_bits_Add (k, (V : Int), (c : Int), ()) = some (k', 0, ()) ∧ K k' (N * 2 ^ c + V) (m + c) := by
  rw [E_bits_Add, N_bits_Add]
  obtain ⟨k', hk, hw⟩ := bits_draw_K h hb V c hc hV
  refine ⟨k', ?_, hw⟩
  have g1 : IntKind.u64.wrap (c : Int) = (c : Int) := wrap_u64 (by omega)
  have g2 : min c IntKind.u64.bits = c := Nat.min_eq_left hc
  have g3 : (V : Int).fdiv (2 ^ c) = 0 := by rw [fdiv_nat, Nat.div_eq_of_lt hV]; rfl
  simp only [bits_Right_true h hb, hk, bif_or, bif_and, decide_eq_false (show ¬ (c : Int) < 0 by omega), decide_eq_false (show ¬ (c : Int) > 64 by omega), Bool.or_self, Bool.and_true, Bool.false_and, Bool.not_false, if_true, Option.bind_some, Bool.false_or, Bool.not_true, Bool.false_eq_true, if_false, g1, g2, g3, Int.toNat_natCast, bne_self_eq_false, Bool.and_false, decide_eq_true (show (0 : Int) ≤ (c : Int) by omega), Bool.or_true]
end Go.Proofs.Try.Eng


set_option linter.unusedVariables false
set_option linter.unusedSimpArgs false
namespace Go.Proofs.Try.Eng
open Go Go.Eng

theorem u8_half (x : Nat) (h : x < 256) : IntKind.u8.wrap ((x : Int).tdiv 2) = ((x / 2 : Nat) : Int) := by
  have : (x : Int).tdiv 2 = ((x / 2 : Nat) : Int) := by rw [Int.tdiv_eq_ediv_of_nonneg (by omega)]; rfl
  rw [this, wrap_u8 (by omega)]

/-- one bit behind the others -/
theorem step_bit {out : List Int} {A M b : Nat} (h : K (out, (M : Int), ()) A M) (hb : b < 2) :
    ∃ (o2 : List Int) (y : Nat), o2 = (if M % 8 = 0 then out ++ [0] else out) ∧ 0 < o2.length ∧ (o2.getD (o2.length - 1) 0).toNat = y ∧ 0 ≤ o2.getD (o2.length - 1) 0 ∧ y + b * 2 ^ (7 - M % 8) < 256 ∧
      K (o2.set (o2.length - 1) ((y + b * 2 ^ (7 - M % 8) : Nat) : Int), ((M + 1 : Nat) : Int), ()) (2 * A + b) (M + 1) := by
  obtain ⟨h1, h2, h3, h4, h5⟩ := h
  simp only at h1 h2 h3 h4
  have hlt : 2 * A + b < 2 ^ (M + 1) := by rw [Nat.pow_succ]; omega
  by_cases hM : M % 8 = 0
  · refine ⟨out ++ [0], 0, by rw [if_pos hM], by simp, ?_, ?_, ?_, rfl, ?_, ?_, ?_, hlt⟩
    · simp [List.getD]
    · simp [List.getD]
    · rw [hM]; have : b * 2 ^ 7 ≤ 1 * 2 ^ 7 := Nat.mul_le_mul_right _ (by omega)
      have e : (1 : Nat) * 2 ^ 7 = 128 := by decide
      simp only [Nat.sub_zero]; omega
    · simp only [List.length_set, List.length_append, List.length_singleton]; omega
    · have hp : b * 2 ^ 7 ≤ 1 * 2 ^ 7 := Nat.mul_le_mul_right _ (by omega)
      have e : (1 : Nat) * 2 ^ 7 = 128 := by decide
      refine Byt.set (Byt.append h3 (fun x hx => ?_)) _ ?_
      · simp at hx; subst hx; decide
      · rw [hM]; simp only [Nat.sub_zero]; omega
    · simp only [List.length_append, List.length_singleton, Nat.add_sub_cancel, List.length_set]
      rw [num_set _ _ _ (by simp), List.take_left, Int.toNat_natCast, hM]
      have e1 : (out ++ [0]).length - 1 - out.length = 0 := by simp
      have e2 : (out ++ [(0 : Int)]).drop (out.length + 1) = [] := by rw [List.drop_eq_nil_iff]; simp
      rw [e1, e2, h4, show 8 * out.length - M = 0 by omega, show 8 * (out.length + 1) - (M + 1) = 7 by omega]
      simp only [num, List.foldl_nil, Nat.pow_zero, Nat.mul_one, Nat.add_zero, Nat.zero_add, Nat.sub_zero]
      have e3 : (2 : Nat) ^ 7 = 128 := by decide
      rw [e3]; omega
  · have hlen : 0 < out.length := by omega
    have hj : out.length - 1 < out.length := by omega
    have hbt := byte_at h3 (out.length - 1) hj
    have hz : out.length - 1 - (out.length - 1) = 0 := by omega
    rw [hz, Nat.pow_zero, Nat.div_one, h4, show 8 * out.length - M = 8 - M % 8 by omega] at hbt
    have h256 : (256 : Nat) = 2 ^ (8 - M % 8) * 2 ^ (M % 8) := by rw [← Nat.pow_add, show 8 - M % 8 + M % 8 = 8 by omega]
    have hmod : (out.getD (out.length - 1) 0).toNat % 2 ^ (8 - M % 8) = 0 := by
      rw [hbt, h256, Nat.mul_comm A, Nat.mul_mod_mul_left, Nat.mul_mod_right]
    have hyl : (out.getD (out.length - 1) 0).toNat < 256 := by rw [hbt]; exact Nat.mod_lt _ (by decide)
    have hpw : 2 ^ (8 - M % 8) = 2 * 2 ^ (7 - M % 8) := by rw [← Nat.pow_succ']; congr 1; omega
    have hbb : b * 2 ^ (7 - M % 8) < 2 ^ (8 - M % 8) := by
      rw [hpw]
      have : b * 2 ^ (7 - M % 8) ≤ 1 * 2 ^ (7 - M % 8) := Nat.mul_le_mul_right _ (by omega)
      have hp : 0 < 2 ^ (7 - M % 8) := Nat.pow_pos (by decide)
      omega
    have hsum : (out.getD (out.length - 1) 0).toNat + b * 2 ^ (7 - M % 8) < 256 := by
      rw [← or_add hmod hbb]
      exact Nat.or_lt_two_pow (n := 8) hyl (Nat.lt_of_lt_of_le hbb (by
        have : 2 ^ (8 - M % 8) ≤ 2 ^ 8 := Nat.pow_le_pow_right (by decide) (by omega)
        exact this))
    refine ⟨out, (out.getD (out.length - 1) 0).toNat, by rw [if_neg hM], hlen, rfl, (h3 _ (getD_mem hj)).1, hsum, rfl, ?_, h3.set _ ⟨by omega, by omega⟩, ?_, hlt⟩
    · simp only [List.length_set]; omega
    · simp only [List.length_set]
      rw [num_set _ _ _ hj, Int.toNat_natCast, hz, Nat.pow_zero, Nat.mul_one]
      have hs := num_split out (out.length - 1) hj
      rw [hz, Nat.pow_zero, Nat.mul_one, h4, show 8 * out.length - M = 8 - M % 8 by omega] at hs
      rw [show 8 * out.length - (M + 1) = 7 - M % 8 by omega]
      have e : (2 * A + b) * 2 ^ (7 - M % 8) = A * 2 ^ (8 - M % 8) + b * 2 ^ (7 - M % 8) := by
        rw [hpw, Nat.add_mul, Nat.mul_comm 2 A, Nat.mul_assoc]
      rw [e, hs]
      omega

theorem ref_bit (l : List Int) (hl : Byt l) (a : Nat) (ha : a < 8 * l.length) (hb : l.length < 100000000) : P_crossbarref02_bit (l, (a : Int), ()) = some (((num l / 2 ^ (8 * l.length - 1 - a) % 2 : Nat) : Int), ()) := by
  rw [E_crossbarref02_bit, N_crossbarref02_bit]
  have e6 : decide ((8 : Int) ≠ 0) = true := by decide
  have f1 : (a : Int).tmod 8 = ((a % 8 : Nat) : Int) := by rw [Int.tmod_eq_emod_of_nonneg (by omega)]; rfl
  have f2 : (a : Int).tdiv 8 = ((a / 8 : Nat) : Int) := by rw [Int.tdiv_eq_ediv_of_nonneg (by omega)]; rfl
  have f5 : IntKind.i64.wrap ((a / 8 : Nat) : Int) = ((a / 8 : Nat) : Int) := wrap64 (by omega) (by omega)
  have hj : a / 8 < l.length := by omega
  have hx := hl _ (getD_mem (z := 0) hj)
  obtain ⟨x, hxe⟩ := Int.eq_ofNat_of_zero_le hx.1
  have hbt := byte_at hl (a / 8) hj
  rw [hxe, Int.toNat_natCast] at hbt
  rw [hxe] at hx
  simp only [f2, f5, e6, if_true, in_cast hj, Int.toNat_natCast, hxe]
  have f3 : IntKind.i64.wrap (7 - ((a % 8 : Nat) : Int)) = ((7 - a % 8 : Nat) : Int) := by rw [wrap64 (by omega) (by omega)]; omega
  have key : ∀ y k : Nat, k ≤ 7 → y % 256 / 2 ^ k % 2 = y / 2 ^ k % 2 := by
    intro y k hk
    have e : (256 : Nat) = 2 ^ k * 2 ^ (8 - k) := by rw [← Nat.pow_add, show k + (8 - k) = 8 by omega]
    rw [e, Nat.mod_mul_right_div_self]
    exact Nat.mod_mod_of_dvd _ ⟨2 ^ (7 - k), by rw [← Nat.pow_succ']; congr 1; omega⟩
  have R := iter_run (F := L_crossbarref02_bit_3 1000000) (fun i => ((a : Int), ((x / 2 ^ i : Nat) : Int), (i : Int), ())) (7 - a % 8) (r := some (((num l / 2 ^ (8 * l.length - 1 - a) % 2 : Nat) : Int), ())) (fun i J hi => ?_) (fun J => ?_) (7 - a % 8) 0 1000000 (by omega) (by omega)
  · simp only [Nat.pow_zero, Nat.div_one] at R
    exact R
  · simp only [L_crossbarref02_bit_3, f1, f3, e6, if_true, lt_cast hi, succ_cast (show i < 1000000 by omega)]
    rw [u8_half _ (Nat.lt_of_le_of_lt (Nat.div_le_self _ _) (by omega)), Nat.div_div_eq_div_mul, ← Nat.pow_succ]
    rfl
  · simp only [L_crossbarref02_bit_3, f1, f3, e6, if_true, nlt_cast, Bool.false_eq_true, if_false]
    have g : ((x / 2 ^ (7 - a % 8) : Nat) : Int).tmod 2 = ((x / 2 ^ (7 - a % 8) % 2 : Nat) : Int) := by rw [Int.tmod_eq_emod_of_nonneg (Int.natCast_nonneg _)]; rfl
    rw [g, wrap_u64 (Nat.lt_of_lt_of_le (Nat.mod_lt _ (by decide)) (by decide)), hbt, key _ _ (by omega), Nat.div_div_eq_div_mul, pow256, ← Nat.pow_add]
    rw [if_pos (by decide)]
    congr 6
    omega
theorem ref_Ink {k : T_api_Ink} {N m : Nat} (h : K k N m) (hb : m ≤ 100000000) : P_crossbarref02_Ink (k, ()) = some (true, ()) := by
  have hK := h
  obtain ⟨h1, h2, h3, h4, h5⟩ := h
  rw [E_crossbarref02_Ink, N_crossbarref02_Ink]
  have e1 : IntKind.i64.wrap (8 * (k.1.length : Int)) = ((8 * k.1.length : Nat) : Int) := by rw [wrap64 (by omega) (by omega)]; rfl
  have e2 : IntKind.i64.wrap (((8 * k.1.length : Nat) : Int) - (m : Int)) = ((8 * k.1.length - m : Nat) : Int) := by rw [wrap64 (by omega) (by omega)]; omega
  simp only [h1, e1, e2, bif_or, decide_eq_false (show ¬ (m : Int) < 0 by omega), decide_eq_false (show ¬ (m : Int) > ((8 * k.1.length : Nat) : Int) by omega), decide_eq_false (show ¬ ((8 * k.1.length - m : Nat) : Int) > 7 by omega), Bool.or_self, Bool.false_eq_true, if_false]
  have R := iter_run (F := L_crossbarref02_Ink_4 1000000) (fun i => (k.1, (m : Int), ((m + i : Nat) : Int), ())) (8 * k.1.length - m) (r := some (true, ())) (fun i J hi => ?_) (fun J => ?_) (8 * k.1.length - m) 0 1000000 (by omega) (by omega)
  · simp only [Nat.add_zero] at R
    exact R
  · have hz : num k.1 / 2 ^ (8 * k.1.length - 1 - (m + i)) % 2 = 0 := by
      rw [h4, show 8 * k.1.length - m = (8 * k.1.length - 1 - (m + i)) + (i + 1) by omega, Nat.pow_add, Nat.mul_comm (2 ^ _) (2 ^ (i + 1)), ← Nat.mul_assoc, Nat.mul_div_cancel _ (Nat.pow_pos (by decide)), Nat.pow_succ, ← Nat.mul_assoc, Nat.mul_mod_left]
    have e3 : IntKind.i64.wrap (((m + i : Nat) : Int) + 1) = ((m + (i + 1) : Nat) : Int) := by rw [wrap64 (by omega) (by omega)]; omega
    simp only [L_crossbarref02_Ink_4, e1, e3, ref_bit k.1 h3 (m + i) (by omega) (by omega), hz, Option.bind_some]
    rw [decide_eq_true (by omega)]
    rfl
  · simp only [L_crossbarref02_Ink_4, e1]
    rw [decide_eq_false (by omega)]
    rfl

theorem ref_Add {k : T_api_Ink} {N m : Nat} (h : K k N m) (hb : m ≤ 10000000) (V c : Nat) (hc : c ≤ 64) (hV : V < 2 ^ c) : ∃ k', P_crossbarref02_Add (k, (V : Int), (c : Int), ()) = some (k', 0, ()) ∧ K k' (N * 2 ^ c + V) (m + c) := by
  have hlen := h.len
  have hmany := h.many
  have hV64 : V < 18446744073709551616 := Nat.lt_of_lt_of_le hV (by
    have : 2 ^ c ≤ 2 ^ 64 := Nat.pow_le_pow_right (by decide) hc
    have e : 2 ^ 64 = 18446744073709551616 := by decide
    omega)
  have e2 : decide ((2 : Int) ≠ 0) = true := by decide
  have e8 : decide ((8 : Int) ≠ 0) = true := by decide
  -- the bits of the number, the lowest first
  let bitsL : Nat → List Int := fun i => (List.range i).map fun j => ((V / 2 ^ j % 2 : Nat) : Int)
  have bl : ∀ i, (bitsL i).length = i := fun i => by simp [bitsL]
  have bs : ∀ i, bitsL (i + 1) = bitsL i ++ [((V / 2 ^ i % 2 : Nat) : Int)] := fun i => by simp [bitsL, List.range_succ]
  have bg : ∀ i, i < c → (bitsL c).getD i 0 = ((V / 2 ^ i % 2 : Nat) : Int) := fun i hi => by simp [bitsL, List.getD, hi]
  -- the second loop
  have second : ∀ (out : List Int) (M : Nat), M = m → K (out, (M : Int), ()) (N * 2 ^ (c - c) + V / 2 ^ c) M →
      ∃ k', iter (L_crossbarref02_Add_13 1000000) 1000000 (([] : List Int), (0 : Int), out, (M : Int), bitsL c, (c : Int) - 1, ()) = some (k', 0, ()) ∧ K k' (N * 2 ^ c + V) (m + c) := by
    intro out M hM hK
    refine iter_less (F := L_crossbarref02_Add_13 1000000) (fun d => ∃ (n : Nat) (out : List Int) (M : Nat), d = (([] : List Int), (0 : Int), out, (M : Int), bitsL c, (n : Int) - 1, ()) ∧ n ≤ c ∧ M + n = m + c ∧ K (out, (M : Int), ()) (N * 2 ^ (c - n) + V / 2 ^ n) M)
      (fun d => (d.2.2.2.2.2.1 + 1).toNat) (fun o => ∃ k', o = some (k', 0, ()) ∧ K k' (N * 2 ^ c + V) (m + c)) ?_ 1000000 _ ⟨c, out, M, rfl, Nat.le_refl _, by omega, hK⟩ (by simp only []; omega)
    rintro _ ⟨n, out, M, rfl, hn, hMn, hK⟩
    by_cases hz : n = 0
    · left
      intro J
      subst hz
      simp only [L_crossbarref02_Add_13]
      rw [decide_eq_false (by omega)]
      refine ⟨_, rfl, ?_⟩
      have : M = m + c := by omega
      subst this
      simpa using hK
    · right
      obtain ⟨q, rfl⟩ : ∃ q, n = q + 1 := ⟨n - 1, by omega⟩
      have hq : q < c := by omega
      have ej : ((q + 1 : Nat) : Int) - 1 = (q : Int) := by omega
      have hb2 : V / 2 ^ q % 2 < 2 := Nat.mod_lt _ (by decide)
      obtain ⟨o2, y, ho2, hpos, hy1, hy2, hy3, hK2⟩ := step_bit hK hb2
      have hlo : o2.length ≤ 2000000 := by
        have := hK.len
        simp only at this
        rw [ho2]
        split <;> simp <;> omega
      have f1 : (M : Int).tmod 8 = ((M % 8 : Nat) : Int) := by rw [Int.tmod_eq_emod_of_nonneg (by omega)]; rfl
      have f3 : IntKind.i64.wrap (7 - ((M % 8 : Nat) : Int)) = ((7 - M % 8 : Nat) : Int) := by rw [wrap64 (by omega) (by omega)]; omega
      have fl : IntKind.i64.wrap ((o2.length : Int) - 1) = ((o2.length - 1 : Nat) : Int) := by rw [wrap64 (by omega) (by omega)]; omega
      have fm : IntKind.i64.wrap ((M : Int) + 1) = ((M + 1 : Nat) : Int) := by rw [wrap64 (by omega) (by omega)]; rfl
      have fq : IntKind.i64.wrap ((q : Int) - 1) = (q : Int) - 1 := wrap64 (by omega) (by omega)
      -- the inner loop
      obtain ⟨e, he, hin⟩ := iter_exit (F := L_crossbarref02_Add_19 1000000) (fun p d => d = (([] : List Int), (0 : Int), o2, (M : Int), bitsL c, (q : Int), ((V / 2 ^ q % 2 * 2 ^ p : Nat) : Int), (p : Int), ()))
        (fun e => e = (([] : List Int), (0 : Int), o2.set (o2.length - 1) ((y + V / 2 ^ q % 2 * 2 ^ (7 - M % 8) : Nat) : Int), ((M + 1 : Nat) : Int), bitsL c, (q : Int) - 1, ())) (7 - M % 8)
        (by
          rintro p _ hp rfl
          refine ⟨_, rfl, fun K J => ?_⟩
          have hlt : V / 2 ^ q % 2 * 2 ^ (p + 1) < 256 := by
            have h1 : V / 2 ^ q % 2 * 2 ^ (p + 1) ≤ 1 * 2 ^ (p + 1) := Nat.mul_le_mul_right _ (by omega)
            have h2 : 2 ^ (p + 1) ≤ 2 ^ 7 := Nat.pow_le_pow_right (by decide) (by omega)
            have h3 : (2 : Nat) ^ 7 = 128 := by decide
            omega
          have ex : IntKind.u8.wrap (2 * ((V / 2 ^ q % 2 * 2 ^ p : Nat) : Int)) = ((V / 2 ^ q % 2 * 2 ^ (p + 1) : Nat) : Int) := by
            have : 2 * ((V / 2 ^ q % 2 * 2 ^ p : Nat) : Int) = ((V / 2 ^ q % 2 * 2 ^ (p + 1) : Nat) : Int) := by
              rw [Nat.pow_succ, ← Nat.mul_assoc, Nat.mul_comm _ 2]; rfl
            rw [this, wrap_u8 hlt]
          simp only [L_crossbarref02_Add_19, f1, f3, e8, if_true, lt_cast hp, ex, succ_cast (show p < 1000000 by omega)])
        (by
          rintro _ rfl
          refine ⟨_, rfl, fun K J => ?_⟩
          have hval : o2.getD (o2.length - 1) 0 = (y : Int) := by omega
          have ex : IntKind.u8.wrap ((y : Int) + ((V / 2 ^ q % 2 * 2 ^ (7 - M % 8) : Nat) : Int)) = ((y + V / 2 ^ q % 2 * 2 ^ (7 - M % 8) : Nat) : Int) := by
            rw [show (y : Int) + ((V / 2 ^ q % 2 * 2 ^ (7 - M % 8) : Nat) : Int) = ((y + V / 2 ^ q % 2 * 2 ^ (7 - M % 8) : Nat) : Int) from rfl, wrap_u8 hy3]
          simp only [L_crossbarref02_Add_19, f1, f3, e8, if_true, nlt_cast, Bool.false_eq_true, if_false, fl, in_cast (show o2.length - 1 < o2.length by omega), Int.toNat_natCast, hval, ex, fm, fq])
        (7 - M % 8) 0 1000000 _ (by omega) (by omega) rfl
      subst he
      refine ⟨_, ⟨q, o2.set (o2.length - 1) ((y + V / 2 ^ q % 2 * 2 ^ (7 - M % 8) : Nat) : Int), M + 1, rfl, by omega, by omega, ?_⟩, ?_, fun J => ?_⟩
      · have e1 : N * 2 ^ (c - q) + V / 2 ^ q = 2 * (N * 2 ^ (c - (q + 1)) + V / 2 ^ (q + 1)) + V / 2 ^ q % 2 := by
          have a1 : 2 ^ (c - q) = 2 * 2 ^ (c - (q + 1)) := by rw [← Nat.pow_succ']; congr 1; omega
          have a2 : V / 2 ^ (q + 1) = V / 2 ^ q / 2 := by rw [Nat.pow_succ, Nat.div_div_eq_div_mul]
          rw [a1, a2, Nat.mul_add, ← Nat.mul_assoc, Nat.mul_comm N 2, Nat.mul_assoc]
          omega
        rw [e1]
        exact hK2
      · simp only []; omega
      · simp only [L_crossbarref02_Add_13, ej]
        rw [decide_eq_true (show (q : Int) ≥ 0 by omega)]
        simp only [if_true, e8, f1]
        have e9 : (if (((M % 8 : Nat) : Int) == 0) = true then if decide ((out.length + ([(0 : Int)] : List Int).length) * 1 ≤ 140737488355328) = true then some (([] : List Int), (0 : Int), out ++ [(0 : Int)], (M : Int), bitsL c, (q : Int), ()) else none else some (([] : List Int), (0 : Int), out, (M : Int), bitsL c, (q : Int), ())) = some (([] : List Int), (0 : Int), o2, (M : Int), bitsL c, (q : Int), ()) := by
          rw [ho2]
          have := hK.len
          simp only at this
          by_cases h8 : M % 8 = 0
          · rw [if_pos (by simp; omega), if_pos (decide_eq_true (by simp; omega)), if_pos h8]
          · rw [if_neg (by simp; omega), if_neg h8]
        rw [e9, Option.bind_some]
        simp only [bl, in_cast hq, if_true, Int.toNat_natCast, bg q hq]
        have h2 := hin J
        simp only [Nat.pow_zero, Nat.mul_one] at h2
        exact h2
  rw [E_crossbarref02_Add, N_crossbarref02_Add]
  simp only [ref_Ink h (by omega), Option.bind_some, bif_or, Bool.not_true, Bool.false_or, decide_eq_false (show ¬ (c : Int) < 0 by omega), decide_eq_false (show ¬ (c : Int) > 64 by omega), Bool.false_eq_true, if_false]
  obtain ⟨k', h2, h3⟩ := second k.1 m rfl (by
    rw [Nat.sub_self, Nat.pow_zero, Nat.mul_one, Nat.div_eq_of_lt hV, Nat.add_zero]
    have e : (k.1, (m : Int), ()) = k := by rw [← hmany]
    rw [e]; exact h)
  refine ⟨k', ?_, h3⟩
  have R := iter_run (F := L_crossbarref02_Add_5 1000000) (fun i => (k.1, (m : Int), ([] : List Int), (0 : Int), ((V / 2 ^ i : Nat) : Int), (c : Int), bitsL i, (i : Int), ())) c (r := some (k', 0, ())) (fun i J hi => ?_) (fun J => ?_) c 0 1000000 (by omega) (by omega)
  · simp only [Nat.pow_zero, Nat.div_one] at R
    rw [hmany]
    exact R
  · have g1 : ((V / 2 ^ i : Nat) : Int).tmod 2 = ((V / 2 ^ i % 2 : Nat) : Int) := by rw [Int.tmod_eq_emod_of_nonneg (Int.natCast_nonneg _)]; rfl
    have g2 : ((V / 2 ^ i : Nat) : Int).tdiv 2 = ((V / 2 ^ (i + 1) : Nat) : Int) := by rw [Int.tdiv_eq_ediv_of_nonneg (Int.natCast_nonneg _), Nat.pow_succ, ← Nat.div_div_eq_div_mul]; rfl
    have g3 : V / 2 ^ (i + 1) ≤ V := Nat.div_le_self _ _
    simp only [L_crossbarref02_Add_5, lt_cast hi, if_true, e2, g1, g2, wrap_u8 (show V / 2 ^ i % 2 < 256 from Nat.lt_of_lt_of_le (Nat.mod_lt _ (by decide)) (by decide)), wrap_u64 (show V / 2 ^ (i + 1) < 18446744073709551616 by omega), bl, succ_cast (show i < 1000000 by omega), bs]
    rw [decide_eq_true (by simp; omega)]
    rfl
  · have g4 : IntKind.i64.wrap ((c : Int) - 1) = (c : Int) - 1 := wrap64 (by omega) (by omega)
    simp only [L_crossbarref02_Add_5, nlt_cast, Bool.false_eq_true, if_false, Nat.div_eq_of_lt hV, g4]
    rw [decide_eq_false (by decide), decide_eq_true (by simp; omega)]
    simp only [Bool.false_eq_true, if_false, if_true, List.nil_append]
    exact h2
end Go.Proofs.Try.Eng


set_option linter.unusedVariables false
set_option linter.unusedSimpArgs false
namespace Go.Proofs.Try.Eng
open Go Go.Eng

theorem len64_log (n : Nat) (h1 : 1 ≤ n) (h2 : n < 256) : P_math_bits_Len64 ((n : Int), ()) = some (((Nat.log2 n + 1 : Nat) : Int), ()) := by
  rw [E_math_bits_Len64, len_eq]
  have hx : IntKind.u8.wrap (n : Int) = n := wrap_u8 h2
  have tab : ∀ i, i < 256 → 1 ≤ i → (lenTab.getD i 0).toNat = Nat.log2 i + 1 := by
    have h : (List.range 256).all (fun i => decide (i = 0) || decide ((lenTab.getD i 0).toNat = Nat.log2 i + 1)) = true := by decide +kernel
    intro i hi hp
    have := List.all_eq_true.1 h i (List.mem_range.2 hi)
    simp only [Bool.or_eq_true, decide_eq_true_eq] at this
    omega
  have hl : (lenTab.length : Int) = 256 := by decide +kernel
  have ht := tab n h2 h1
  have hw : Nat.log2 n < 8 := (Nat.log2_lt (by omega)).2 h2
  simp only [decide_eq_false (show ¬ (n : Int) ≥ 4294967296 by omega), decide_eq_false (show ¬ (n : Int) ≥ 65536 by omega), decide_eq_false (show ¬ (n : Int) ≥ 256 by omega), Bool.false_eq_true, if_false, Option.bind_some, hl, hx, Int.toNat_natCast, ht]
  rw [decide_eq_true (show 0 ≤ (n : Int) ∧ (n : Int) < 256 by omega), if_pos rfl, wrap64 (n := ((Nat.log2 n + 1 : Nat) : Int)) (by omega) (by omega), Int.zero_add, wrap64 (by omega) (by omega)]

theorem shape_log (n : Nat) (h1 : 1 ≤ n) (h2 : n < 256) : P_bits_shape ((n : Int), ()) = some (((Nat.log2 n + 1 : Nat) : Int), ((2 ^ (Nat.log2 n + 1) - n : Nat) : Int), ()) := by
  rw [E_bits_shape, N_bits_shape]
  have hw : Nat.log2 n < 8 := (Nat.log2_lt (by omega)).2 h2
  have h3 : n < 2 ^ (Nat.log2 n + 1) := Nat.lt_log2_self
  have h4 : 2 ^ (Nat.log2 n + 1) ≤ 2 ^ 8 := Nat.pow_le_pow_right (by decide) (by omega)
  have h5 : (2 : Nat) ^ 8 = 256 := by decide
  have g1 : IntKind.u64.wrap ((Nat.log2 n + 1 : Nat) : Int) = ((Nat.log2 n + 1 : Nat) : Int) := wrap_u64 (by omega)
  have g2 : min (Nat.log2 n + 1) IntKind.u64.bits = Nat.log2 n + 1 := Nat.min_eq_left (show Nat.log2 n + 1 ≤ 64 by omega)
  have g3 : (1 : Int) * 2 ^ (Nat.log2 n + 1) = ((2 ^ (Nat.log2 n + 1) : Nat) : Int) := by norm_cast; omega
  simp only [len64_log n h1 h2, Option.bind_some, g1, Int.toNat_natCast, g2, g3, wrap_u64 (show 2 ^ (Nat.log2 n + 1) < 18446744073709551616 by omega)]
  rw [decide_eq_true (show (0 : Int) ≤ ((Nat.log2 n + 1 : Nat) : Int) by omega), if_pos rfl, show ((2 ^ (Nat.log2 n + 1) : Nat) : Int) - (n : Int) = ((2 ^ (Nat.log2 n + 1) - n : Nat) : Int) by omega, wrap_u64 (by omega)]

theorem AddRange_K {k : T_api_Ink} {s : Nat × Nat} {b : Nat} (h : KB k s b) (hb : b ≤ 10000000) (v n : Nat) (h1 : 1 ≤ n) (h2 : n < 256) (hv : v < n) : ∃ k', P_bits_AddRange (k, (v : Int), (n : Int), ()) = some (k', 0, ()) ∧ KB k' (putF s (rangeF v n)) (b + 8) := by
  rw [E_bits_AddRange, N_bits_AddRange]
  have hw : Nat.log2 n < 8 := (Nat.log2_lt (by omega)).2 h2
  have hfit := rangeF_fits h1 hv
  have h3 : n < 2 ^ (Nat.log2 n + 1) := Nat.lt_log2_self
  have h4 : 2 ^ (Nat.log2 n + 1) ≤ 2 ^ 8 := Nat.pow_le_pow_right (by decide) (by omega)
  have h5 : (2 : Nat) ^ 8 = 256 := by decide
  have hs := h.2
  simp only [bits_Right_true h.1 (by omega), shape_log n h1 h2, bif_or, bif_and, decide_eq_false (show ¬ (n : Int) < 1 by omega), decide_eq_false (show ¬ (n : Int) > 4294967296 by omega), decide_eq_false (show ¬ (v : Int) ≥ (n : Int) by omega), Bool.or_self, Bool.and_true, Bool.false_and, Bool.not_false, if_true, Option.bind_some, Bool.false_or, Bool.not_true, Bool.false_eq_true, if_false]
  unfold rangeF at hfit ⊢
  by_cases hc : v < 2 ^ (Nat.log2 n + 1) - n
  · rw [if_pos hc] at hfit ⊢
    obtain ⟨k', e1, hk⟩ := bits_draw_K h.1 (by omega) v (Nat.log2 n) (by omega) hfit
    have e2 : IntKind.i64.wrap (((Nat.log2 n + 1 : Nat) : Int) - 1) = ((Nat.log2 n : Nat) : Int) := by rw [wrap64 (by omega) (by omega)]; omega
    rw [decide_eq_true (show (v : Int) < ((2 ^ (Nat.log2 n + 1) - n : Nat) : Int) by omega), if_pos rfl, e2, e1, Option.bind_some]
    exact ⟨k', rfl, hk, by simp only [putF]; omega⟩
  · rw [if_neg hc] at hfit ⊢
    obtain ⟨k', e1, hk⟩ := bits_draw_K h.1 (by omega) (v + (2 ^ (Nat.log2 n + 1) - n)) (Nat.log2 n + 1) (by omega) hfit
    have e2 : IntKind.u64.wrap ((v : Int) + ((2 ^ (Nat.log2 n + 1) - n : Nat) : Int)) = ((v + (2 ^ (Nat.log2 n + 1) - n) : Nat) : Int) := by
      rw [show (v : Int) + ((2 ^ (Nat.log2 n + 1) - n : Nat) : Int) = ((v + (2 ^ (Nat.log2 n + 1) - n) : Nat) : Int) from rfl, wrap_u64 (by omega)]
    rw [decide_eq_false (show ¬ (v : Int) < ((2 ^ (Nat.log2 n + 1) - n : Nat) : Int) by omega), if_neg (by decide), e2, e1, Option.bind_some]
    exact ⟨k', rfl, hk, by simp only [putF]; omega⟩

theorem tnumK {k : T_api_Ink} {s : Nat × Nat} {b : Nat} (h : KB k s b) (hb : b ≤ 10000000) {v n : Int} (V c : Nat) (hv : v = (V : Int)) (hn : n = (c : Int)) (hc : c ≤ 63) (hV : V < 2 ^ c) : ∃ k', P_templ_writer_number ((k, ()), v, n, ()) = some ((k', ()), ()) ∧ KB k' (putF s (V, c)) (b + c) := by
  subst hv hn
  rw [E_templ_writer_number, N_templ_writer_number]
  have hs := h.2
  have h4 : 2 ^ c ≤ 2 ^ 63 := Nat.pow_le_pow_right (by decide) hc
  have h5 : (2 : Nat) ^ 63 = 9223372036854775808 := by decide
  obtain ⟨k', e, hk⟩ := bits_Add_K h.1 (by omega) V c (by omega) hV
  simp only [wrap_u64 (show V < 18446744073709551616 by omega), e, Option.bind_some]
  exact ⟨k', rfl, hk, by simp only [putF]; omega⟩
theorem trangedK {k : T_api_Ink} {s : Nat × Nat} {b : Nat} (h : KB k s b) (hb : b ≤ 10000000) {v n : Int} (hn : 1 ≤ n) (hn2 : n < 256) (hv : 0 ≤ v) (hv2 : v < n) : ∃ k', P_templ_writer_ranged ((k, ()), v, n, ()) = some ((k', ()), ()) ∧ KB k' (putF s (rangeF v.toNat n.toNat)) (b + 8) := by
  obtain ⟨V, rfl⟩ := Int.eq_ofNat_of_zero_le hv
  obtain ⟨c, rfl⟩ := Int.eq_ofNat_of_zero_le (show 0 ≤ n by omega)
  rw [E_templ_writer_ranged, N_templ_writer_ranged]
  obtain ⟨k', e, hk⟩ := AddRange_K h hb V c (by omega) (by omega) (by omega)
  simp only [wrap_u64 (show V < 18446744073709551616 by omega), wrap_u64 (show c < 18446744073709551616 by omega), e, Option.bind_some]
  exact ⟨k', rfl, hk⟩

/-! ### a structure's fields -/
def howF (ts : List Tm) (i : Nat) : Nat × Nat := ((if i + 1 < ts.length then followS (ts.getD i zT) (ts.getD (i + 1) zT) else 3).toNat, 2)
def markF (v : Int) : Nat × Nat := (v.toNat, 2)
def diffF (v : Int) : List (Nat × Nat) := [(1, 1), ((v - 1).toNat, 4)]
def tDiffs (t : Tm) : List (Nat × Nat) := t.2.2.2.1.flatMap diffF ++ [(0, 1)]
def chainF (v : Int) : Nat × Nat := (v.toNat, 4)
def sizeF (z : T_api_Size) : List (Nat × Nat) := [((z.1 - 1).toNat, 16), ((z.2.1 - 1).toNat, 16)]
def endF (zs : List T_api_Size) : List (Nat × Nat) := if zs.length = 0 then [(0, 1)] else (1, 1) :: zs.flatMap sizeF
def sFields (s : St) : List (Nat × Nat) :=
  [(s.1.toNat, 6), ((s.2.1 - 1).toNat, 5)] ++ ((List.range s.2.2.2.2.1.length).map (howF s.2.2.2.2.1) ++ (s.2.2.2.2.1.flatMap (fun t => t.2.2.1.map markF) ++ (s.2.2.2.2.1.flatMap tDiffs ++
    ([rangeF s.2.2.1.toNat (s.2.1 + 1).toNat] ++ (s.2.2.2.1.map (fun v => rangeF v.toNat s.2.2.1.toNat) ++ (s.2.2.2.2.1.flatMap (fun t => t.2.2.2.2.1.map chainF) ++ endF s.2.2.2.2.2.1))))))

structure RV (s : St) : Prop where
  b : RightB s
  sh : Sh s
  m : ∀ t ∈ s.2.2.2.2.1, (t.2.2.1.length : Int) = s.2.1 ∧ ∀ v ∈ t.2.2.1, 0 ≤ v ∧ v ≤ 3
  d : ∀ t ∈ s.2.2.2.2.1, t.2.2.2.1.length ≤ 16 ∧ ∀ v ∈ t.2.2.2.1, 1 ≤ v ∧ v ≤ 16
  c : ∀ t ∈ s.2.2.2.2.1, (t.2.2.2.2.1.length : Int) = s.2.2.1 ∧ ∀ v ∈ t.2.2.2.2.1, 0 ≤ v ∧ v ≤ 15
  p : ∀ v ∈ s.2.2.2.1, 0 ≤ v ∧ v < s.2.2.1
  z : ∀ z ∈ s.2.2.2.2.2.1, (1 ≤ z.1 ∧ z.1 ≤ 65536) ∧ (1 ≤ z.2.1 ∧ z.2.1 ≤ 65536)
theorem right_v {s : St} (h : rightS s = true) (hs : Sh s) : RV s := by
  have hb := right_b h
  have htg := hb.tg
  have hch := hb.ch
  have hall : ∀ t ∈ s.2.2.2.2.1, ∃ i, i < s.2.2.2.2.1.length ∧ s.2.2.2.2.1.getD i zT = t := fun t ht => by
    obtain ⟨i, hi, rfl⟩ := List.getElem_of_mem ht
    exact ⟨i, hi, by simp [List.getD, hi]⟩
  have hall2 : ∀ t ∈ s.2.2.2.2.1, (markOk t.2.2.1 s.2.1 0 3 = true ∧ markOk t.2.2.2.1 t.2.2.2.1.length 1 16 = true ∧ markOk t.2.2.2.2.1 s.2.2.1 0 15 = true) ∧ t.2.2.2.1.length ≤ 16 := by
    intro t ht
    obtain ⟨i, hi, rfl⟩ := hall t ht
    have := hb.t i hi
    simp only [tmplOk, Bool.and_eq_true, Bool.not_eq_true', decide_eq_false_iff_not] at this
    obtain ⟨_, ⟨_, h1⟩, ⟨h2, h3⟩, h4⟩ := this
    exact ⟨⟨h1, h3, h4⟩, by omega⟩
  simp only [markOk, allB, inB, Bool.and_eq_true, decide_eq_true_eq, List.all_eq_true] at hall2
  simp only [rightS, Bool.and_eq_true, markOk, allB, inB, decide_eq_true_eq, List.all_eq_true, sizesOk] at h
  obtain ⟨⟨⟨_, hp⟩, _⟩, _, _, hz⟩ := h
  refine ⟨hb, hs, fun t ht => (hall2 t ht).1.1, fun t ht => ⟨(hall2 t ht).2, (hall2 t ht).1.2.1.2⟩, fun t ht => (hall2 t ht).1.2.2, fun v hv => ?_, fun z hz' => hz z hz'⟩
  have := hp.2 v hv
  rw [wrap64 (by omega) (by omega)] at this
  omega

def Qk (r : Nat × Nat) (o : Option ((T_api_Ink × Unit) × Unit)) : Prop := ∃ k', o = some ((k', ()), ()) ∧ KB k' r 120000
theorem nn {v : Int} (h : 0 ≤ v) : v = (v.toNat : Int) := by omega

theorem wk50 (zs : List T_api_Size) (hz : zs.length ≤ 99) (hv : ∀ z ∈ zs, (1 ≤ z.1 ∧ z.1 ≤ 65536) ∧ (1 ≤ z.2.1 ∧ z.2.1 ≤ 65536)) (k : T_api_Ink) (s0 : Nat × Nat) (hk : KB k s0 112000) :
    Qk (puts s0 (zs.flatMap sizeF)) (iter (L_templ_writer_write_50 1000000) 1000000 (k.1, k.2.1, zs, (zs.length : Int), (0 : Int), ())) := by
  refine iter_inv (F := L_templ_writer_write_50 1000000) (fun i d => ∃ k : T_api_Ink, KB k (puts s0 ((zs.take i).flatMap sizeF)) (112000 + 32 * i) ∧ d = (k.1, k.2.1, zs, (zs.length : Int), (i : Int), ())) (Qk _) zs.length ?_ ?_ zs.length 0 1000000 _ (by omega) (by omega) ⟨k, hk, rfl⟩
  · rintro i _ hi ⟨k, hw, rfl⟩
    have hz := hv _ (getD_mem (z := (0, 0, ())) hi)
    have w1 : IntKind.i64.wrap ((zs.getD i (0, 0, ())).1 - 1) = ((((zs.getD i (0, 0, ())).1 - 1).toNat : Nat) : Int) := by rw [wrap64 (by omega) (by omega)]; omega
    have w2 : IntKind.i64.wrap ((zs.getD i (0, 0, ())).2.1 - 1) = ((((zs.getD i (0, 0, ())).2.1 - 1).toNat : Nat) : Int) := by rw [wrap64 (by omega) (by omega)]; omega
    obtain ⟨k1, e1, h1⟩ := tnumK hw (by omega) (n := 16) _ 16 w1 rfl (by omega) (by omega)
    obtain ⟨k2, e2, h2⟩ := tnumK h1 (by omega) (n := 16) _ 16 w2 rfl (by omega) (by omega)
    refine ⟨_, ⟨k2, ?_, rfl⟩, fun J => ?_⟩
    · rw [take_flatMap_succ sizeF zs (0, 0, ()) i hi, puts_append]
      exact h2.mono (by omega)
    · simp only [L_templ_writer_write_50, lt_cast hi, in_cast hi, if_true, Int.toNat_natCast, succ_cast (show i < 1000000 by omega)]
      rw [show (((k.1, k.2.1, ()), ()) : T_api_Ink × Unit) = (k, ()) from rfl, e1, Option.bind_some, e2, Option.bind_some]
  · rintro _ ⟨k, hw, rfl⟩ J
    simp only [L_templ_writer_write_50, nlt_cast, Bool.false_eq_true, if_false]
    rw [List.take_length] at hw
    exact ⟨k, rfl, hw.mono (by omega)⟩
end Go.Proofs.Try.Eng


set_option linter.unusedVariables false
set_option linter.unusedSimpArgs false
namespace Go.Proofs.Try.Eng
open Go Go.Eng

theorem wk41 (s : St) (ts : List Tm) (l : List Int) (hl : l.length ≤ 99) (hv : ∀ v ∈ l, 0 ≤ v ∧ v ≤ 15) (i : Nat) (hi : i < 99) (b : Nat) (hb : b ≤ 900000) (k : T_api_Ink) (s0 : Nat × Nat) (hk : KB k s0 b) :
    ∃ e, (∃ k' : T_api_Ink, KB k' (puts s0 (l.map chainF)) (b + 400) ∧ e = (k'.1, k'.2.1, s.1, s.2.1, s.2.2.1, s.2.2.2.1, s.2.2.2.2.1, s.2.2.2.2.2.1, ts, (ts.length : Int), ((i + 1 : Nat) : Int), ())) ∧
      ∀ J0, iter (L_templ_writer_write_41 1000000 J0) 1000000 (k.1, k.2.1, s.1, s.2.1, s.2.2.1, s.2.2.2.1, s.2.2.2.2.1, s.2.2.2.2.2.1, ts, (ts.length : Int), (i : Int), l, (l.length : Int), (0 : Int), ()) = J0 e := by
  refine iter_exit (F := L_templ_writer_write_41 1000000) (fun j d => ∃ k : T_api_Ink, KB k (puts s0 ((l.take j).map chainF)) (b + 4 * j) ∧ d = (k.1, k.2.1, s.1, s.2.1, s.2.2.1, s.2.2.2.1, s.2.2.2.2.1, s.2.2.2.2.2.1, ts, (ts.length : Int), (i : Int), l, (l.length : Int), (j : Int), ())) _ l.length ?_ ?_ l.length 0 1000000 _ (by omega) (by omega) ⟨k, hk, rfl⟩
  · rintro j _ hj ⟨k, hw, rfl⟩
    have hx := hv _ (getD_mem (z := 0) hj)
    obtain ⟨k1, e1, w1⟩ := tnumK hw (by omega) (n := 4) _ 4 (nn hx.1) rfl (by omega) (by omega)
    refine ⟨_, ⟨k1, ?_, rfl⟩, fun K J => ?_⟩
    · rw [take_map_succ chainF l 0 j hj, puts_snoc]
      exact w1.mono (by omega)
    · simp only [L_templ_writer_write_41, lt_cast hj, in_cast hj, if_true, Int.toNat_natCast, succ_cast (show j < 1000000 by omega)]
      rw [show (((k.1, k.2.1, ()), ()) : T_api_Ink × Unit) = (k, ()) from rfl, e1, Option.bind_some]
  · rintro _ ⟨k, hw, rfl⟩
    rw [List.take_length] at hw
    refine ⟨_, ⟨k, hw.mono (by omega), rfl⟩, fun K J => ?_⟩
    simp only [L_templ_writer_write_41, nlt_cast, Bool.false_eq_true, if_false, succ_cast (show i < 1000000 by omega)]

theorem wk38 (s : St) (hs : RV s) (k : T_api_Ink) (s0 : Nat × Nat) (hk : KB k s0 72000) :
    Qk (puts s0 (s.2.2.2.2.1.flatMap (fun t => t.2.2.2.2.1.map chainF) ++ endF s.2.2.2.2.2.1)) (iter (L_templ_writer_write_38 1000000) 1000000 (k.1, k.2.1, s.1, s.2.1, s.2.2.1, s.2.2.2.1, s.2.2.2.2.1, s.2.2.2.2.2.1, s.2.2.2.2.1, (s.2.2.2.2.1.length : Int), (0 : Int), ())) := by
  have h1 := hs.sh.ts
  refine iter_inv (F := L_templ_writer_write_38 1000000) (fun i d => ∃ k : T_api_Ink, KB k (puts s0 ((s.2.2.2.2.1.take i).flatMap (fun t => t.2.2.2.2.1.map chainF))) (72000 + 400 * i) ∧ d = (k.1, k.2.1, s.1, s.2.1, s.2.2.1, s.2.2.2.1, s.2.2.2.2.1, s.2.2.2.2.2.1, s.2.2.2.2.1, (s.2.2.2.2.1.length : Int), (i : Int), ())) (Qk _) s.2.2.2.2.1.length ?_ ?_ s.2.2.2.2.1.length 0 1000000 _ (by omega) (by omega) ⟨k, hk, rfl⟩
  · rintro i _ hi ⟨k, hw, rfl⟩
    obtain ⟨e, ⟨k', w', rfl⟩, he⟩ := wk41 s s.2.2.2.2.1 (s.2.2.2.2.1.getD i zT).2.2.2.2.1 (hs.sh.t _ (getD_mem hi)).2.2 (hs.c _ (getD_mem hi)).2 i (by omega) _ (by omega) k _ hw
    refine ⟨_, ⟨k', ?_, rfl⟩, fun J => ?_⟩
    · rw [take_flatMap_succ (fun t : Tm => t.2.2.2.2.1.map chainF) s.2.2.2.2.1 zT i hi, puts_append]
      exact w'.mono (by omega)
    · simp only [L_templ_writer_write_38, lt_cast hi, in_cast hi, if_true, Int.toNat_natCast]
      exact he J
  · rintro _ ⟨k, hw, rfl⟩ J
    rw [List.take_length] at hw
    simp only [L_templ_writer_write_38, nlt_cast, Bool.false_eq_true, if_false]
    rw [show (((k.1, k.2.1, ()), ()) : T_api_Ink × Unit) = (k, ()) from rfl, puts_append]
    obtain ⟨k1, e1, w1⟩ := tnumK hw (by omega) (v := 0) (n := 1) 0 1 rfl rfl (by omega) (by decide)
    obtain ⟨k2, e2, w2⟩ := tnumK hw (by omega) (v := 1) (n := 1) 1 1 rfl rfl (by omega) (by decide)
    rw [e1, e2, Option.bind_some, Option.bind_some]
    unfold endF
    by_cases hz : s.2.2.2.2.2.1.length = 0
    · rw [if_pos hz, if_pos (by simpa using hz)]
      exact ⟨k1, rfl, w1.mono (by omega)⟩
    · rw [if_neg hz, if_neg (by simpa using hz), puts_cons]
      exact wk50 _ hs.sh.zs hs.z k2 _ (w2.mono (by omega))

theorem wk33 (s : St) (hs : RV s) (k : T_api_Ink) (s0 : Nat × Nat) (hk : KB k s0 71000) :
    Qk (puts s0 (s.2.2.2.1.map (fun v => rangeF v.toNat s.2.2.1.toNat) ++ (s.2.2.2.2.1.flatMap (fun t => t.2.2.2.2.1.map chainF) ++ endF s.2.2.2.2.2.1))) (iter (L_templ_writer_write_33 1000000) 1000000 (k.1, k.2.1, s.1, s.2.1, s.2.2.1, s.2.2.2.1, s.2.2.2.2.1, s.2.2.2.2.2.1, s.2.2.2.1, (s.2.2.2.1.length : Int), (0 : Int), ())) := by
  have h1 := hs.sh.ps
  have htg := hs.b.tg
  have hch := hs.b.ch
  refine iter_inv (F := L_templ_writer_write_33 1000000) (fun i d => ∃ k : T_api_Ink, KB k (puts s0 ((s.2.2.2.1.take i).map (fun v => rangeF v.toNat s.2.2.1.toNat))) (71000 + 8 * i) ∧ d = (k.1, k.2.1, s.1, s.2.1, s.2.2.1, s.2.2.2.1, s.2.2.2.2.1, s.2.2.2.2.2.1, s.2.2.2.1, (s.2.2.2.1.length : Int), (i : Int), ())) (Qk _) s.2.2.2.1.length ?_ ?_ s.2.2.2.1.length 0 1000000 _ (by omega) (by omega) ⟨k, hk, rfl⟩
  · rintro i _ hi ⟨k, hw, rfl⟩
    have hx := hs.p _ (getD_mem (z := 0) hi)
    obtain ⟨k1, e1, w1⟩ := trangedK hw (by omega) (v := s.2.2.2.1.getD i 0) (n := s.2.2.1) (by omega) (by omega) hx.1 hx.2
    refine ⟨_, ⟨k1, ?_, rfl⟩, fun J => ?_⟩
    · rw [take_map_succ (fun v : Int => rangeF v.toNat s.2.2.1.toNat) s.2.2.2.1 0 i hi, puts_snoc]
      exact w1.mono (by omega)
    · simp only [L_templ_writer_write_33, lt_cast hi, in_cast hi, if_true, Int.toNat_natCast, succ_cast (show i < 1000000 by omega)]
      rw [show (((k.1, k.2.1, ()), ()) : T_api_Ink × Unit) = (k, ()) from rfl, e1, Option.bind_some]
  · rintro _ ⟨k, hw, rfl⟩ J
    rw [List.take_length] at hw
    simp only [L_templ_writer_write_33, nlt_cast, Bool.false_eq_true, if_false]
    rw [puts_append]
    exact wk38 s hs k _ (hw.mono (by omega))

theorem wk24 (s : St) (ts : List Tm) (l : List Int) (hl : l.length ≤ 99) (hv : ∀ v ∈ l, 1 ≤ v ∧ v ≤ 16) (i : Nat) (hi : i < 99) (b : Nat) (hb : b ≤ 900000) (k : T_api_Ink) (s0 : Nat × Nat) (hk : KB k s0 b) :
    ∃ e, (∃ k' : T_api_Ink, KB k' (puts s0 (l.flatMap diffF ++ [(0, 1)])) (b + 500) ∧ e = (k'.1, k'.2.1, s.1, s.2.1, s.2.2.1, s.2.2.2.1, s.2.2.2.2.1, s.2.2.2.2.2.1, ts, (ts.length : Int), ((i + 1 : Nat) : Int), ())) ∧
      ∀ J0, iter (L_templ_writer_write_24 1000000 J0) 1000000 (k.1, k.2.1, s.1, s.2.1, s.2.2.1, s.2.2.2.1, s.2.2.2.2.1, s.2.2.2.2.2.1, ts, (ts.length : Int), (i : Int), l, (l.length : Int), (0 : Int), ()) = J0 e := by
  refine iter_exit (F := L_templ_writer_write_24 1000000) (fun j d => ∃ k : T_api_Ink, KB k (puts s0 ((l.take j).flatMap diffF)) (b + 5 * j) ∧ d = (k.1, k.2.1, s.1, s.2.1, s.2.2.1, s.2.2.2.1, s.2.2.2.2.1, s.2.2.2.2.2.1, ts, (ts.length : Int), (i : Int), l, (l.length : Int), (j : Int), ())) _ l.length ?_ ?_ l.length 0 1000000 _ (by omega) (by omega) ⟨k, hk, rfl⟩
  · rintro j _ hj ⟨k, hw, rfl⟩
    have hx := hv _ (getD_mem (z := 0) hj)
    have w : IntKind.i64.wrap (l.getD j 0 - 1) = (((l.getD j 0 - 1).toNat : Nat) : Int) := by rw [wrap64 (by omega) (by omega)]; omega
    obtain ⟨k1, e1, w1⟩ := tnumK hw (by omega) (v := 1) (n := 1) 1 1 rfl rfl (by omega) (by decide)
    obtain ⟨k2, e2, w2⟩ := tnumK w1 (by omega) (n := 4) _ 4 w rfl (by omega) (by omega)
    refine ⟨_, ⟨k2, ?_, rfl⟩, fun K J => ?_⟩
    · rw [take_flatMap_succ diffF l 0 j hj, puts_append]
      exact w2.mono (by omega)
    · simp only [L_templ_writer_write_24, lt_cast hj, in_cast hj, if_true, Int.toNat_natCast, succ_cast (show j < 1000000 by omega)]
      rw [show (((k.1, k.2.1, ()), ()) : T_api_Ink × Unit) = (k, ()) from rfl, e1, Option.bind_some, e2, Option.bind_some]
  · rintro _ ⟨k, hw, rfl⟩
    rw [List.take_length] at hw
    obtain ⟨k1, e1, w1⟩ := tnumK hw (by omega) (v := 0) (n := 1) 0 1 rfl rfl (by omega) (by decide)
    refine ⟨_, ⟨k1, by rw [puts_snoc]; exact w1.mono (by omega), rfl⟩, fun K J => ?_⟩
    simp only [L_templ_writer_write_24, nlt_cast, Bool.false_eq_true, if_false, succ_cast (show i < 1000000 by omega)]
    rw [show (((k.1, k.2.1, ()), ()) : T_api_Ink × Unit) = (k, ()) from rfl, e1, Option.bind_some]

theorem wk21 (s : St) (hs : RV s) (k : T_api_Ink) (s0 : Nat × Nat) (hk : KB k s0 21000) :
    Qk (puts s0 (s.2.2.2.2.1.flatMap tDiffs ++ ([rangeF s.2.2.1.toNat (s.2.1 + 1).toNat] ++ (s.2.2.2.1.map (fun v => rangeF v.toNat s.2.2.1.toNat) ++ (s.2.2.2.2.1.flatMap (fun t => t.2.2.2.2.1.map chainF) ++ endF s.2.2.2.2.2.1)))))
      (iter (L_templ_writer_write_21 1000000) 1000000 (k.1, k.2.1, s.1, s.2.1, s.2.2.1, s.2.2.2.1, s.2.2.2.2.1, s.2.2.2.2.2.1, s.2.2.2.2.1, (s.2.2.2.2.1.length : Int), (0 : Int), ())) := by
  have h1 := hs.sh.ts
  have htg := hs.b.tg
  have hch := hs.b.ch
  refine iter_inv (F := L_templ_writer_write_21 1000000) (fun i d => ∃ k : T_api_Ink, KB k (puts s0 ((s.2.2.2.2.1.take i).flatMap tDiffs)) (21000 + 500 * i) ∧ d = (k.1, k.2.1, s.1, s.2.1, s.2.2.1, s.2.2.2.1, s.2.2.2.2.1, s.2.2.2.2.2.1, s.2.2.2.2.1, (s.2.2.2.2.1.length : Int), (i : Int), ())) (Qk _) s.2.2.2.2.1.length ?_ ?_ s.2.2.2.2.1.length 0 1000000 _ (by omega) (by omega) ⟨k, hk, rfl⟩
  · rintro i _ hi ⟨k, hw, rfl⟩
    obtain ⟨e, ⟨k', w', rfl⟩, he⟩ := wk24 s s.2.2.2.2.1 (s.2.2.2.2.1.getD i zT).2.2.2.1 (hs.sh.t _ (getD_mem hi)).2.1 (hs.d _ (getD_mem hi)).2 i (by omega) _ (by omega) k _ hw
    refine ⟨_, ⟨k', ?_, rfl⟩, fun J => ?_⟩
    · rw [take_flatMap_succ tDiffs s.2.2.2.2.1 zT i hi, puts_append]
      exact w'.mono (by omega)
    · simp only [L_templ_writer_write_21, lt_cast hi, in_cast hi, if_true, Int.toNat_natCast]
      exact he J
  · rintro _ ⟨k, hw, rfl⟩ J
    rw [List.take_length] at hw
    simp only [L_templ_writer_write_21, nlt_cast, Bool.false_eq_true, if_false]
    have w : IntKind.i64.wrap (s.2.1 + 1) = s.2.1 + 1 := wrap64 (by omega) (by omega)
    obtain ⟨k1, e1, w1⟩ := trangedK hw (by omega) (v := s.2.2.1) (n := s.2.1 + 1) (by omega) (by omega) (by omega) (by omega)
    rw [show (((k.1, k.2.1, ()), ()) : T_api_Ink × Unit) = (k, ()) from rfl, w, e1, Option.bind_some, puts_append, puts_append]
    exact wk33 s hs k1 _ (w1.mono (by omega))

theorem wk15 (s : St) (ts : List Tm) (l : List Int) (hl : l.length ≤ 99) (hv : ∀ v ∈ l, 0 ≤ v ∧ v ≤ 3) (i : Nat) (hi : i < 99) (b : Nat) (hb : b ≤ 900000) (k : T_api_Ink) (s0 : Nat × Nat) (hk : KB k s0 b) :
    ∃ e, (∃ k' : T_api_Ink, KB k' (puts s0 (l.map markF)) (b + 200) ∧ e = (k'.1, k'.2.1, s.1, s.2.1, s.2.2.1, s.2.2.2.1, s.2.2.2.2.1, s.2.2.2.2.2.1, ts, (ts.length : Int), ((i + 1 : Nat) : Int), ())) ∧
      ∀ J0, iter (L_templ_writer_write_15 1000000 J0) 1000000 (k.1, k.2.1, s.1, s.2.1, s.2.2.1, s.2.2.2.1, s.2.2.2.2.1, s.2.2.2.2.2.1, ts, (ts.length : Int), (i : Int), l, (l.length : Int), (0 : Int), ()) = J0 e := by
  refine iter_exit (F := L_templ_writer_write_15 1000000) (fun j d => ∃ k : T_api_Ink, KB k (puts s0 ((l.take j).map markF)) (b + 2 * j) ∧ d = (k.1, k.2.1, s.1, s.2.1, s.2.2.1, s.2.2.2.1, s.2.2.2.2.1, s.2.2.2.2.2.1, ts, (ts.length : Int), (i : Int), l, (l.length : Int), (j : Int), ())) _ l.length ?_ ?_ l.length 0 1000000 _ (by omega) (by omega) ⟨k, hk, rfl⟩
  · rintro j _ hj ⟨k, hw, rfl⟩
    have hx := hv _ (getD_mem (z := 0) hj)
    obtain ⟨k1, e1, w1⟩ := tnumK hw (by omega) (n := 2) _ 2 (nn hx.1) rfl (by omega) (by omega)
    refine ⟨_, ⟨k1, ?_, rfl⟩, fun K J => ?_⟩
    · rw [take_map_succ markF l 0 j hj, puts_snoc]
      exact w1.mono (by omega)
    · simp only [L_templ_writer_write_15, lt_cast hj, in_cast hj, if_true, Int.toNat_natCast, succ_cast (show j < 1000000 by omega)]
      rw [show (((k.1, k.2.1, ()), ()) : T_api_Ink × Unit) = (k, ()) from rfl, e1, Option.bind_some]
  · rintro _ ⟨k, hw, rfl⟩
    rw [List.take_length] at hw
    refine ⟨_, ⟨k, hw.mono (by omega), rfl⟩, fun K J => ?_⟩
    simp only [L_templ_writer_write_15, nlt_cast, Bool.false_eq_true, if_false, succ_cast (show i < 1000000 by omega)]

abbrev sTail (s : St) : List (Nat × Nat) := s.2.2.2.2.1.flatMap (fun t => t.2.2.1.map markF) ++ (s.2.2.2.2.1.flatMap tDiffs ++
    ([rangeF s.2.2.1.toNat (s.2.1 + 1).toNat] ++ (s.2.2.2.1.map (fun v => rangeF v.toNat s.2.2.1.toNat) ++ (s.2.2.2.2.1.flatMap (fun t => t.2.2.2.2.1.map chainF) ++ endF s.2.2.2.2.2.1))))
theorem wk12 (s : St) (hs : RV s) (k : T_api_Ink) (s0 : Nat × Nat) (hk : KB k s0 400) :
    Qk (puts s0 (sTail s)) (iter (L_templ_writer_write_12 1000000) 1000000 (k.1, k.2.1, s.1, s.2.1, s.2.2.1, s.2.2.2.1, s.2.2.2.2.1, s.2.2.2.2.2.1, s.2.2.2.2.1, (s.2.2.2.2.1.length : Int), (0 : Int), ())) := by
  have h1 := hs.sh.ts
  refine iter_inv (F := L_templ_writer_write_12 1000000) (fun i d => ∃ k : T_api_Ink, KB k (puts s0 ((s.2.2.2.2.1.take i).flatMap (fun t => t.2.2.1.map markF))) (400 + 200 * i) ∧ d = (k.1, k.2.1, s.1, s.2.1, s.2.2.1, s.2.2.2.1, s.2.2.2.2.1, s.2.2.2.2.2.1, s.2.2.2.2.1, (s.2.2.2.2.1.length : Int), (i : Int), ())) (Qk _) s.2.2.2.2.1.length ?_ ?_ s.2.2.2.2.1.length 0 1000000 _ (by omega) (by omega) ⟨k, hk, rfl⟩
  · rintro i _ hi ⟨k, hw, rfl⟩
    obtain ⟨e, ⟨k', w', rfl⟩, he⟩ := wk15 s s.2.2.2.2.1 (s.2.2.2.2.1.getD i zT).2.2.1 (hs.sh.t _ (getD_mem hi)).1 (hs.m _ (getD_mem hi)).2 i (by omega) _ (by omega) k _ hw
    refine ⟨_, ⟨k', ?_, rfl⟩, fun J => ?_⟩
    · rw [take_flatMap_succ (fun t : Tm => t.2.2.1.map markF) s.2.2.2.2.1 zT i hi, puts_append]
      exact w'.mono (by omega)
    · simp only [L_templ_writer_write_12, lt_cast hi, in_cast hi, if_true, Int.toNat_natCast]
      exact he J
  · rintro _ ⟨k, hw, rfl⟩ J
    rw [List.take_length] at hw
    simp only [L_templ_writer_write_12, nlt_cast, Bool.false_eq_true, if_false]
    unfold sTail
    rw [puts_append]
    exact wk21 s hs k _ (hw.mono (by omega))

theorem how_range (a t : Tm) : 0 ≤ followS a t ∧ followS a t ≤ 3 := by
  unfold followS
  split
  · omega
  · split
    · omega
    · split <;> omega
theorem wk4 (s : St) (hs : RV s) (k : T_api_Ink) (s0 : Nat × Nat) (hk : KB k s0 100) :
    Qk (puts s0 ((List.range s.2.2.2.2.1.length).map (howF s.2.2.2.2.1) ++ sTail s)) (iter (L_templ_writer_write_4 1000000) 1000000 (k.1, k.2.1, s.1, s.2.1, s.2.2.1, s.2.2.2.1, s.2.2.2.2.1, s.2.2.2.2.2.1, (s.2.2.2.2.1.length : Int), (0 : Int), ())) := by
  have h1 := hs.sh.ts
  refine iter_inv (F := L_templ_writer_write_4 1000000) (fun i d => ∃ k : T_api_Ink, KB k (puts s0 ((List.range i).map (howF s.2.2.2.2.1))) (100 + 2 * i) ∧ d = (k.1, k.2.1, s.1, s.2.1, s.2.2.1, s.2.2.2.1, s.2.2.2.2.1, s.2.2.2.2.2.1, (s.2.2.2.2.1.length : Int), (i : Int), ())) (Qk _) s.2.2.2.2.1.length ?_ ?_ s.2.2.2.2.1.length 0 1000000 _ (by omega) (by omega) ⟨k, hk, rfl⟩
  · rintro i _ hi ⟨k, hw, rfl⟩
    have f1 : ∃ how : Int, (how = if i + 1 < s.2.2.2.2.1.length then followS (s.2.2.2.2.1.getD i zT) (s.2.2.2.2.1.getD (i + 1) zT) else 3) ∧ ∀ K : ((List (Int)) × Int × Int × Int × Int × (List (Int)) × (List (T_api_Template)) × (List (T_api_Size)) × Int × Int × Int × Unit) → Option ((T_api_Ink × Unit) × Unit), (if (decide (((i + 1 : Nat) : Int) < (s.2.2.2.2.1.length : Int))) = true then
        if decide (0 ≤ (i : Int) ∧ (i : Int) < (s.2.2.2.2.1.length : Int)) = true then
        if decide (0 ≤ ((i + 1 : Nat) : Int) ∧ ((i + 1 : Nat) : Int) < (s.2.2.2.2.1.length : Int)) = true then
        (P_templ_follow ((s.2.2.2.2.1.getD i zT), (s.2.2.2.2.1.getD (i + 1) zT), ())).bind fun (r4 : Int × Unit) => some (k.1, k.2.1, s.1, s.2.1, s.2.2.1, s.2.2.2.1, s.2.2.2.2.1, s.2.2.2.2.2.1, r4.1, (s.2.2.2.2.1.length : Int), (i : Int), ()) else none else none
        else some (k.1, k.2.1, s.1, s.2.1, s.2.2.1, s.2.2.2.1, s.2.2.2.2.1, s.2.2.2.2.2.1, 3, (s.2.2.2.2.1.length : Int), (i : Int), ())).bind K = K (k.1, k.2.1, s.1, s.2.1, s.2.2.1, s.2.2.2.1, s.2.2.2.2.1, s.2.2.2.2.2.1, how, (s.2.2.2.2.1.length : Int), (i : Int), ()) := by
      by_cases h : i + 1 < s.2.2.2.2.1.length
      · refine ⟨followS (s.2.2.2.2.1.getD i zT) (s.2.2.2.2.1.getD (i + 1) zT), by rw [if_pos h], fun K => ?_⟩
        rw [lt_cast h, in_cast hi, in_cast h, if_pos rfl, if_pos rfl, if_pos rfl, templ_follow, Option.bind_some, Option.bind_some]
      · refine ⟨3, by rw [if_neg h], fun K => ?_⟩
        rw [decide_eq_false (by omega), if_neg (by decide), Option.bind_some]
    obtain ⟨how, hh, f1⟩ := f1
    have hr : 0 ≤ how ∧ how ≤ 3 := by
      rw [hh]; split
      · exact how_range _ _
      · omega
    obtain ⟨k1, e1, w1⟩ := tnumK hw (by omega) (n := 2) _ 2 (nn hr.1) rfl (by omega) (by omega)
    refine ⟨_, ⟨k1, ?_, rfl⟩, fun J => ?_⟩
    · rw [List.range_succ, List.map_append, List.map_singleton, puts_snoc]
      have : howF s.2.2.2.2.1 i = (how.toNat, 2) := by unfold howF; rw [hh]
      rw [this]
      exact w1.mono (by omega)
    · simp only [L_templ_writer_write_4, lt_cast hi, if_true, Int.toNat_natCast, succ_cast (show i < 1000000 by omega), zT_eq]
      refine (f1 _).trans ?_
      simp only []
      rw [show (((k.1, k.2.1, ()), ()) : T_api_Ink × Unit) = (k, ()) from rfl, e1, Option.bind_some, succ_cast (show i < 1000000 by omega)]
  · rintro _ ⟨k, hw, rfl⟩ J
    simp only [L_templ_writer_write_4, nlt_cast, Bool.false_eq_true, if_false]
    rw [puts_append]
    exact wk12 s hs k _ (hw.mono (by omega))

theorem write_K (s : St) (hs : RV s) : Qk (puts (0, 0) (sFields s)) (P_templ_writer_write (((([] : List (Int)), (0 : Int), ()), ()), s, ())) := by
  rw [E_templ_writer_write, N_templ_writer_write]
  have hid := hs.b.id
  have htg := hs.b.tg
  have w : IntKind.i64.wrap (s.2.1 - 1) = (((s.2.1 - 1).toNat : Nat) : Int) := by rw [wrap64 (by omega) (by omega)]; omega
  obtain ⟨k1, e1, w1⟩ := tnumK KB.nil (by omega) (n := 6) _ 6 (nn hid.1) rfl (by omega) (by omega)
  obtain ⟨k2, e2, w2⟩ := tnumK w1 (by omega) (n := 5) _ 5 w rfl (by omega) (by omega)
  simp only [e1, e2, Option.bind_some]
  exact wk4 s hs k2 _ (w2.mono (by omega))
end Go.Proofs.Try.Eng


set_option linter.unusedVariables false
set_option linter.unusedSimpArgs false
namespace Go.Proofs.Try.Eng
open Go Go.Eng

theorem and8_1 {y : Nat} (hy : y < 256) : IntKind.u8.wrap ((BitVec.ofInt IntKind.u8.bits (y : Int) &&& BitVec.ofInt IntKind.u8.bits (1 : Int)).toNat : Int) = ((y % 2 : Nat) : Int) := by
  have e : (BitVec.ofInt IntKind.u8.bits (y : Int) &&& BitVec.ofInt IntKind.u8.bits (1 : Int)).toNat = y % 2 := by
    show (BitVec.ofInt 8 (y : Int) &&& BitVec.ofInt 8 ((1 : Nat) : Int)).toNat = _
    rw [BitVec.ofInt_natCast, BitVec.ofInt_natCast, BitVec.toNat_and, BitVec.toNat_ofNat, BitVec.toNat_ofNat, Nat.mod_eq_of_lt hy]
    exact Nat.and_two_pow_sub_one_eq_mod y 1
  rw [e, wrap_u8 (by omega)]

theorem byte_bit {y k : Nat} (hk : k ≤ 7) : y % 256 / 2 ^ k % 2 = y / 2 ^ k % 2 := by
  have e : (256 : Nat) = 2 ^ k * 2 ^ (8 - k) := by rw [← Nat.pow_add, show k + (8 - k) = 8 by omega]
  rw [e, Nat.mod_mul_right_div_self]
  exact Nat.mod_mod_of_dvd _ ⟨2 ^ (7 - k), by rw [← Nat.pow_succ']; congr 1; omega⟩
/-- a bit of what stands behind so many bits -/
theorem K_bit {k : T_api_Ink} {N m : Nat} (h : K k N m) (i : Nat) (hi : i < m) : (k.1.getD (i / 8) 0).toNat / 2 ^ (7 - i % 8) % 2 = N / 2 ^ (m - (i + 1)) % 2 := by
  have hl := h.len
  have hj : i / 8 < k.1.length := by omega
  rw [byte_at h.byt (i / 8) hj, byte_bit (by omega), Nat.div_div_eq_div_mul, pow256, ← Nat.pow_add, h.num]
  have e : 8 * (k.1.length - 1 - i / 8) + (7 - i % 8) = (8 * k.1.length - m) + (m - (i + 1)) := by omega
  rw [e, Nat.pow_add, ← Nat.div_div_eq_div_mul, Nat.mul_div_cancel _ (Nat.pow_pos (by decide))]

theorem join_K {k m : T_api_Ink} {N N2 p q : Nat} (hk : K k N p) (hm : K m N2 q) (hp : p ≤ 10000000) (hq : q ≤ 900000) : ∃ k', P_templ_join (k, m, ()) = some (k', ()) ∧ K k' (N * 2 ^ q + N2) (p + q) := by
  have p1 := hk.many
  have p2 := hk.len
  have q1 := hm.many
  have q2 := hm.len
  rw [E_templ_join, N_templ_join]
  have e6 : decide ((8 : Int) ≠ 0) = true := by decide
  have e1 : IntKind.i64.wrap ((p : Int) + (q : Int)) = ((p + q : Nat) : Int) := by rw [wrap64 (by omega) (by omega)]; rfl
  have e2 : IntKind.i64.wrap (((p + q : Nat) : Int) + 7) = ((p + q + 7 : Nat) : Int) := by rw [wrap64 (by omega) (by omega)]; rfl
  have e3 : ((p + q + 7 : Nat) : Int).tdiv 8 = (((p + q + 7) / 8 : Nat) : Int) := by rw [Int.tdiv_eq_ediv_of_nonneg (by omega)]; rfl
  have e4 : IntKind.i64.wrap (((p + q + 7) / 8 : Nat) : Int) = (((p + q + 7) / 8 : Nat) : Int) := wrap64 (by omega) (by omega)
  simp only [p1, q1, e1, e2, e3, e4, e6, if_true, Int.toNat_natCast, List.length_replicate]
  rw [decide_eq_true (by omega), if_pos rfl]
  refine iter_inv (F := L_templ_join_5 1000000) (fun i d => ∃ out : List Int, (out.length = (p + q + 7) / 8 ∧ Byt out ∧ num out = (N * 2 ^ i + N2 / 2 ^ (q - i)) * 2 ^ (8 * ((p + q + 7) / 8) - (p + i))) ∧ d = (k.1, (p : Int), m.1, (q : Int), [], 0, out, ((p + q : Nat) : Int), (q : Int), (i : Int), ()))
    (fun o => ∃ k', o = some (k', ()) ∧ K k' (N * 2 ^ q + N2) (p + q)) q ?_ ?_ q 0 1000000 _ (by omega) (by omega) ⟨_, ⟨?_, ?_, ?_⟩, rfl⟩
  · rintro i _ hi ⟨out, ⟨ho, hby, hn⟩, rfl⟩
    have f1 : (i : Int).tmod 8 = ((i % 8 : Nat) : Int) := by rw [Int.tmod_eq_emod_of_nonneg (by omega)]; rfl
    have f2 : (i : Int).tdiv 8 = ((i / 8 : Nat) : Int) := by rw [Int.tdiv_eq_ediv_of_nonneg (by omega)]; rfl
    have f3 : IntKind.i64.wrap ((i / 8 : Nat) : Int) = ((i / 8 : Nat) : Int) := wrap64 (by omega) (by omega)
    have f4 : IntKind.i64.wrap (7 - ((i % 8 : Nat) : Int)) = ((7 - i % 8 : Nat) : Int) := by rw [wrap64 (by omega) (by omega)]; omega
    have f5 : IntKind.i64.wrap ((p : Int) + (i : Int)) = ((p + i : Nat) : Int) := by rw [wrap64 (by omega) (by omega)]; rfl
    have g1 : ((p + i : Nat) : Int).tmod 8 = (((p + i) % 8 : Nat) : Int) := by rw [Int.tmod_eq_emod_of_nonneg (by omega)]; rfl
    have g2 : ((p + i : Nat) : Int).tdiv 8 = (((p + i) / 8 : Nat) : Int) := by rw [Int.tdiv_eq_ediv_of_nonneg (by omega)]; rfl
    have g3 : IntKind.i64.wrap (((p + i) / 8 : Nat) : Int) = (((p + i) / 8 : Nat) : Int) := wrap64 (by omega) (by omega)
    have g4 : IntKind.i64.wrap (7 - (((p + i) % 8 : Nat) : Int)) = ((7 - (p + i) % 8 : Nat) : Int) := by rw [wrap64 (by omega) (by omega)]; omega
    have hbit := K_bit hm i hi
    have hxj := hm.byt _ (getD_mem (z := 0) (show i / 8 < m.1.length by omega))
    obtain ⟨x, hxe⟩ := Int.eq_ofNat_of_zero_le hxj.1
    have hoj := hby _ (getD_mem (z := 0) (show (p + i) / 8 < out.length by omega))
    obtain ⟨ob, hobe⟩ := Int.eq_ofNat_of_zero_le hoj.1
    rw [hxe, Int.toNat_natCast] at hbit
    have hb2 : N2 / 2 ^ (q - (i + 1)) % 2 < 2 := Nat.mod_lt _ (by decide)
    obtain ⟨X, hX1, hX2, hX3⟩ := draw_step (V := N2 / 2 ^ (q - (i + 1)) % 2) (cc := 1) ho hby (show p + i + 1 ≤ 8 * ((p + q + 7) / 8) by omega) (by omega) hn
    have hm1 : min 1 (8 - (p + i) % 8) = 1 := by omega
    rw [hm1, hobe, Int.toNat_natCast] at hX2
    rw [hm1] at hX3
    simp only [Nat.sub_self, Nat.pow_zero, Nat.div_one, Nat.pow_one, Nat.mod_mod] at hX2 hX3
    have n1 : min (7 - i % 8) IntKind.u8.bits = 7 - i % 8 := Nat.min_eq_left (show 7 - i % 8 ≤ 8 by omega)
    have n2 : min (7 - (p + i) % 8) IntKind.u8.bits = 7 - (p + i) % 8 := Nat.min_eq_left (show 7 - (p + i) % 8 ≤ 8 by omega)
    have hpb : N2 / 2 ^ (q - (i + 1)) % 2 * 2 ^ (7 - (p + i) % 8) < 256 := by
      have a1 : N2 / 2 ^ (q - (i + 1)) % 2 * 2 ^ (7 - (p + i) % 8) ≤ 1 * 2 ^ (7 - (p + i) % 8) := Nat.mul_le_mul_right _ (by omega)
      have a2 : 2 ^ (7 - (p + i) % 8) ≤ 2 ^ 7 := Nat.pow_le_pow_right (by decide) (by omega)
      have a3 : (2 : Nat) ^ 7 = 128 := by decide
      omega
    have y1 : IntKind.u8.wrap ((BitVec.ofInt IntKind.u8.bits ((x / 2 ^ (7 - i % 8) : Nat) : Int) &&& BitVec.ofInt IntKind.u8.bits (1 : Int)).toNat : Int) = ((N2 / 2 ^ (q - (i + 1)) % 2 : Nat) : Int) := by
      rw [and8_1 (Nat.lt_of_le_of_lt (Nat.div_le_self _ _) (by omega)), hbit]
    have y2 : IntKind.u8.wrap (((N2 / 2 ^ (q - (i + 1)) % 2 : Nat) : Int) * 2 ^ (7 - (p + i) % 8)) = ((N2 / 2 ^ (q - (i + 1)) % 2 * 2 ^ (7 - (p + i) % 8) : Nat) : Int) := by
      have : ((N2 / 2 ^ (q - (i + 1)) % 2 : Nat) : Int) * 2 ^ (7 - (p + i) % 8) = ((N2 / 2 ^ (q - (i + 1)) % 2 * 2 ^ (7 - (p + i) % 8) : Nat) : Int) := by norm_cast
      rw [this, wrap_u8 hpb]
    have y3 : IntKind.u8.wrap ((BitVec.ofInt IntKind.u8.bits (ob : Int) ||| BitVec.ofInt IntKind.u8.bits ((N2 / 2 ^ (q - (i + 1)) % 2 * 2 ^ (7 - (p + i) % 8) : Nat) : Int)).toNat : Int) = (X : Int) := by
      rw [or8 (by omega) hpb]
      rw [show 8 - (p + i) % 8 - 1 = 7 - (p + i) % 8 by omega] at hX2
      rw [hX2]
    refine ⟨_, ⟨out.set ((p + i) / 8) (X : Int), ⟨by rw [List.length_set]; exact ho, hby.set _ ⟨by omega, by omega⟩, ?_⟩, rfl⟩, fun J => ?_⟩
    · rw [hX3]
      have a1 : N2 / 2 ^ (q - i) = N2 / 2 ^ (q - (i + 1)) / 2 := by
        rw [show q - i = (q - (i + 1)) + 1 by omega, Nat.pow_succ, Nat.div_div_eq_div_mul]
      have a2 : (N * 2 ^ i + N2 / 2 ^ (q - i)) * 2 + N2 / 2 ^ (q - (i + 1)) % 2 = N * 2 ^ (i + 1) + N2 / 2 ^ (q - (i + 1)) := by
        rw [a1, Nat.add_mul, Nat.pow_succ, Nat.mul_assoc]; omega
      rw [a2]
      rfl
    · simp only [L_templ_join_5, f1, f2, f3, f4, f5, g1, g2, g3, g4, e6, lt_cast hi, if_true, Int.toNat_natCast, succ_cast (show i < 1000000 by omega), n1, n2, hxe, hobe, fdiv_nat, y1, y2, y3]
      rw [in_cast (show i / 8 < m.1.length by omega), in_cast (show (p + i) / 8 < out.length by omega), decide_eq_true (show 0 ≤ ((7 - i % 8 : Nat) : Int) by omega), decide_eq_true (show 0 ≤ ((7 - (p + i) % 8 : Nat) : Int) by omega)]
      rfl
  · rintro _ ⟨out, ⟨ho, hby, hn⟩, rfl⟩ J
    simp only [L_templ_join_5, nlt_cast, Bool.false_eq_true, if_false]
    refine ⟨_, rfl, rfl, ho, hby, ?_, ?_⟩
    · rw [hn, ho, Nat.sub_self, Nat.pow_zero, Nat.div_one]
    · have h1 := hk.lt
      have h2 := hm.lt
      rw [Nat.pow_add]
      have h6 : N * 2 ^ q + 2 ^ q ≤ 2 ^ p * 2 ^ q := by
        rw [← Nat.succ_mul]; exact Nat.mul_le_mul_right _ h1
      omega
  · simp only [List.length_append, List.length_take, List.length_drop, List.length_replicate]; omega
  · exact Byt.append (fun x hx => hk.byt x (List.mem_of_mem_take hx)) (fun x hx => Byt.zeros _ x (List.mem_of_mem_drop hx))
  · have h2 := hm.lt
    rw [List.take_of_length_le (by omega), num_append, List.drop_replicate, num_zeros, List.length_replicate, hk.num, Nat.sub_zero, Nat.pow_zero, Nat.div_eq_of_lt h2, pow256, Nat.mul_assoc, ← Nat.pow_add]
    simp only [Nat.mul_one, Nat.add_zero]
    congr 2
    omega

theorem Put_K {k : T_api_Ink} {s0 : Nat × Nat} {b : Nat} (hk : KB k s0 b) (hb : b ≤ 10000000) (s : St) (hs : RV s) (hm : SmS s) (hr : rightS s = true) : ∃ k', P_templ_Put (k, s, ()) = some (k', 0, ()) ∧ KB k' (puts s0 (sFields s)) (b + 120000) := by
  rw [E_templ_Put, N_templ_Put]
  obtain ⟨m, hm1, hm2⟩ := write_K s hs
  have h2 := hk.2
  have h3 := hm2.2
  obtain ⟨k', hj, hw⟩ := join_K hk.1 hm2.1 (by omega) (by omega)
  simp only [bits_Right_true hk.1 (by omega), templ_Right s hm, hr, Option.bind_some, Bool.not_not, bif_or, hm1, hj, if_true, Bool.not_true, Bool.or_self, Bool.false_eq_true, if_false]
  refine ⟨k', rfl, ?_⟩
  rw [puts_from]
  exact ⟨hw, by simp only []; omega⟩
end Go.Proofs.Try.Eng


set_option linter.unusedVariables false
set_option linter.unusedSimpArgs false
namespace Go.Proofs.Try.Eng
open Go Go.Eng

theorem anumK {k : T_api_Ink} {s : Nat × Nat} {b : Nat} (h : KB k s b) (hb : b ≤ 10000000) {v n : Int} (V c : Nat) (hv : v = (V : Int)) (hn : n = (c : Int)) (hc : c ≤ 63) (hV : V < 2 ^ c) : ∃ k', P_av1_writer_number ((k, ()), v, n, ()) = some ((k', ()), ()) ∧ KB k' (putF s (V, c)) (b + c) := by
  subst hv hn
  rw [E_av1_writer_number, N_av1_writer_number]
  have hs := h.2
  obtain ⟨k', e, hk⟩ := bits_Add_K h.1 (by omega) V c (by omega) hV
  simp only [e, Option.bind_some]
  exact ⟨k', rfl, hk, by simp only [putF]; omega⟩
def boF (b : Bool) : Nat × Nat := (if b then 1 else 0, 1)
theorem atruthK {k : T_api_Ink} {s : Nat × Nat} {b : Nat} (h : KB k s b) (hb : b ≤ 10000000) (c : Bool) : ∃ k', P_av1_writer_truth ((k, ()), c, ()) = some ((k', ()), ()) ∧ KB k' (putF s (boF c)) (b + 1) := by
  rw [E_av1_writer_truth, N_av1_writer_truth]
  obtain ⟨k1, hk1, hw1⟩ := anumK h hb (v := 1) (n := 1) 1 1 rfl rfl (by omega) (by decide)
  obtain ⟨k0, hk0, hw0⟩ := anumK h hb (v := 0) (n := 1) 0 1 rfl rfl (by omega) (by decide)
  simp only [hk1, hk0, Option.bind_some]
  cases c with
  | false => exact ⟨k0, rfl, hw0⟩
  | true => exact ⟨k1, rfl, hw1⟩

def groups (v : Int) : Nat := if v ≤ 16 then 1 else if v ≤ 256 then 2 else 3
def gapF (v : Int) : List (Nat × Nat) := [(groups v, 2), ((v - 1).toNat, 4 * groups v)]
theorem groups_fit {v : Int} (h1 : 1 ≤ v) (h2 : v ≤ 4096) : (v - 1).toNat < 2 ^ (4 * groups v) := by
  unfold groups
  split
  · have : (2 : Nat) ^ (4 * 1) = 16 := by decide
    omega
  · split
    · have : (2 : Nat) ^ (4 * 2) = 256 := by decide
      omega
    · have : (2 : Nat) ^ (4 * 3) = 4096 := by decide
      omega
theorem adiffK {k : T_api_Ink} {s : Nat × Nat} {b : Nat} (hk : KB k s b) (hb : b ≤ 1000000) (v : Int) (h1 : 1 ≤ v) (h2 : v ≤ 4096) : ∃ k', P_av1_writer_diff ((k, ()), v, ()) = some ((k', ()), ()) ∧ KB k' (puts s (gapF v)) (b + 14) := by
  rw [E_av1_writer_diff, N_av1_writer_diff]
  have hg3 : 1 ≤ groups v ∧ groups v ≤ 3 := by
    unfold groups
    split
    · omega
    · split <;> omega
  obtain ⟨x, hx⟩ := Int.eq_ofNat_of_zero_le (show 0 ≤ v - 1 by omega)
  refine iter_less (F := L_av1_writer_diff_1 1000000) (fun d => ∃ g : Nat, 1 ≤ g ∧ g ≤ groups v ∧ d = (k.1, k.2.1, v, (g : Int), ())) (fun d => 3 - d.2.2.2.1.toNat) (fun o => ∃ k', o = some ((k', ()), ()) ∧ KB k' (puts s (gapF v)) (b + 14)) ?_ 1000000 _ ⟨1, by omega, hg3.1, rfl⟩ (by simp only []; omega)
  rintro _ ⟨g, hg1, hg2, rfl⟩
  have e1 : IntKind.i64.wrap (4 * (g : Int)) = ((4 * g : Nat) : Int) := by rw [wrap64 (by omega) (by omega)]; rfl
  have e2 : IntKind.i64.wrap (v - 1) = (x : Int) := by rw [wrap64 (by omega) (by omega), hx]
  have e3 : decide (0 ≤ ((4 * g : Nat) : Int)) = true := decide_eq_true (by omega)
  have e4 : min (4 * g) IntKind.i64.bits = 4 * g := Nat.min_eq_left (show 4 * g ≤ 64 by omega)
  have hfit := groups_fit h1 h2
  rw [hx, Int.toNat_natCast] at hfit
  by_cases hc : g = groups v
  · left
    intro J
    have hz : x / 2 ^ (4 * g) = 0 := Nat.div_eq_of_lt (by rw [hc]; exact hfit)
    simp only [L_av1_writer_diff_1, e1, e2, e3, if_true, Int.toNat_natCast, e4, fdiv_nat, hz]
    rw [decide_eq_false (by decide)]
    simp only [Bool.false_eq_true, if_false]
    rw [show (((k.1, k.2.1, ()), ()) : T_api_Ink × Unit) = (k, ()) from rfl, wrap_u64 (show g < 18446744073709551616 by omega), wrap_u64 (show x < 18446744073709551616 by omega)]
    obtain ⟨k1, f1, w1⟩ := anumK hk (by omega) (v := (g : Int)) (n := 2) g 2 rfl rfl (by omega) (by have : (2 : Nat) ^ 2 = 4 := by decide
                                                                                                    omega)
    obtain ⟨k2, f2, w2⟩ := anumK w1 (by omega) (v := (x : Int)) (n := ((4 * g : Nat) : Int)) x (4 * g) rfl rfl (by omega) (by rw [hc]; exact hfit)
    rw [f1, Option.bind_some, f2, Option.bind_some]
    refine ⟨k2, rfl, ?_⟩
    unfold gapF
    rw [← hc, hx, Int.toNat_natCast]
    exact w2.mono (by omega)
  · right
    have hgt : x / 2 ^ (4 * g) > 0 := by
      apply Nat.div_pos _ (Nat.pow_pos (by decide))
      have hlt : g < groups v := by omega
      unfold groups at hlt
      have p1 : (2 : Nat) ^ (4 * 1) = 16 := by decide
      have p2 : (2 : Nat) ^ (4 * 2) = 256 := by decide
      split at hlt
      · omega
      · split at hlt
        · have : g = 1 := by omega
          rw [this]; omega
        · rcases (show g = 1 ∨ g = 2 by omega) with h | h <;> rw [h] <;> omega
    refine ⟨_, ⟨g + 1, by omega, by omega, rfl⟩, ?_, fun J => ?_⟩
    · simp only [Int.toNat_natCast]; omega
    · simp only [L_av1_writer_diff_1, e1, e2, e3, if_true, Int.toNat_natCast, e4, fdiv_nat, succ_cast (show g < 1000000 by omega)]
      rw [decide_eq_true (show ((x / 2 ^ (4 * g) : Nat) : Int) > 0 by omega)]
      rfl

def c8F (v : Int) : Nat × Nat := (v.toNat, 8)
def Qx (r : Nat × Nat) (o : Option T_api_Ink) : Prop := ∃ k : T_api_Ink, o = some (k.1, 0, ()) ∧ KB k r 900000
theorem ak33 (l : List Int) (hl : l.length ≤ 99) (hv : ∀ v ∈ l, 0 ≤ v ∧ v ≤ 255) (k : T_api_Ink) (s0 : Nat × Nat) (hk : KB k s0 800000) : Qx (puts s0 (l.map c8F)) (iter (L_av1_Write_33 1000000) 1000000 (k.1, k.2.1, l, (l.length : Int), (0 : Int), ())) := by
  refine iter_inv (F := L_av1_Write_33 1000000) (fun i d => ∃ k : T_api_Ink, KB k (puts s0 ((l.take i).map c8F)) (800000 + 8 * i) ∧ d = (k.1, k.2.1, l, (l.length : Int), (i : Int), ())) (Qx _) l.length ?_ ?_ l.length 0 1000000 _ (by omega) (by omega) ⟨k, hk, rfl⟩
  · rintro i _ hi ⟨k, hw, rfl⟩
    have hx := hv _ (getD_mem (z := 0) hi)
    obtain ⟨k1, e1, w1⟩ := anumK hw (by omega) (v := IntKind.u64.wrap (l.getD i 0)) (n := 8) (l.getD i 0).toNat 8 (by rw [nn hx.1, wrap_u64 (by omega)]; omega) rfl (by omega) (by omega)
    refine ⟨_, ⟨k1, ?_, rfl⟩, fun J => ?_⟩
    · rw [take_map_succ c8F l 0 i hi, puts_snoc]
      exact w1.mono (by omega)
    · simp only [L_av1_Write_33, lt_cast hi, in_cast hi, if_true, Int.toNat_natCast, succ_cast (show i < 1000000 by omega)]
      rw [show (((k.1, k.2.1, ()), ()) : T_api_Ink × Unit) = (k, ()) from rfl, e1, Option.bind_some]
  · rintro _ ⟨k, hw, rfl⟩ J
    rw [List.take_length] at hw
    simp only [L_av1_Write_33, nlt_cast, Bool.false_eq_true, if_false]
    exact ⟨k, rfl, hw.mono (by omega)⟩
structure FV (f : Fr) (s : St) : Prop where
  sh : ShF f
  m : ∀ v ∈ f.2.2.2.2.2.2.2.2.2.1, 0 ≤ v ∧ v ≤ 3
  d : ∀ v ∈ f.2.2.2.2.2.2.2.2.2.2.2.1, 1 ≤ v ∧ v ≤ 4096
  c : ∀ v ∈ f.2.2.2.2.2.2.2.2.2.2.2.2.2.1, 0 ≤ v ∧ v ≤ 255
  t : 0 ≤ f.2.2.1 ∧ f.2.2.1 ≤ 63
  n : 0 ≤ f.2.2.2.1 ∧ f.2.2.2.1 ≤ 65535
  a : (IntKind.u64.wrap f.2.2.2.2.2.2.2.1).toNat < 2 ^ s.2.1.toNat
  tg : 1 ≤ s.2.1 ∧ s.2.1 ≤ 32
abbrev dTail (f : Fr) : List (Nat × Nat) := (if f.2.2.2.2.2.2.2.2.2.2.1 then [(0, 2)] else []) ++ f.2.2.2.2.2.2.2.2.2.2.2.2.2.1.map c8F
theorem ak26 (f : Fr) (s : St) (hf : FV f s) (k : T_api_Ink) (s0 : Nat × Nat) (hk : KB k s0 700000) :
    Qx (puts s0 (f.2.2.2.2.2.2.2.2.2.2.2.1.flatMap gapF ++ dTail f)) (iter (L_av1_Write_26 1000000) 1000000 (fT f (k.1, k.2.1, f.2.2.2.2.2.2.2.2.2.2.2.1, (f.2.2.2.2.2.2.2.2.2.2.2.1.length : Int), (0 : Int), ()))) := by
  have h1 := hf.sh.d
  refine iter_inv (F := L_av1_Write_26 1000000) (fun i d => ∃ k : T_api_Ink, KB k (puts s0 ((f.2.2.2.2.2.2.2.2.2.2.2.1.take i).flatMap gapF)) (700000 + 14 * i) ∧ d = fT f (k.1, k.2.1, f.2.2.2.2.2.2.2.2.2.2.2.1, (f.2.2.2.2.2.2.2.2.2.2.2.1.length : Int), (i : Int), ())) (Qx _) f.2.2.2.2.2.2.2.2.2.2.2.1.length ?_ ?_ f.2.2.2.2.2.2.2.2.2.2.2.1.length 0 1000000 _ (by omega) (by omega) ⟨k, hk, rfl⟩
  · rintro i _ hi ⟨k, hw, rfl⟩
    have hv := hf.d _ (getD_mem (z := 0) hi)
    obtain ⟨k1, e1, w1⟩ := adiffK hw (by omega) (f.2.2.2.2.2.2.2.2.2.2.2.1.getD i 0) hv.1 hv.2
    refine ⟨_, ⟨k1, ?_, rfl⟩, fun J => ?_⟩
    · rw [take_flatMap_succ gapF _ 0 i hi, puts_append]
      exact w1.mono (by omega)
    · simp only [L_av1_Write_26, lt_cast hi, in_cast hi, if_true, Int.toNat_natCast, succ_cast (show i < 1000000 by omega)]
      rw [show (((k.1, k.2.1, ()), ()) : T_api_Ink × Unit) = (k, ()) from rfl, e1, Option.bind_some]
  · rintro _ ⟨k, hw, rfl⟩ J
    rw [List.take_length] at hw
    simp only [L_av1_Write_26, nlt_cast, Bool.false_eq_true, if_false]
    rw [show (((k.1, k.2.1, ()), ()) : T_api_Ink × Unit) = (k, ()) from rfl, puts_append, puts_append]
    obtain ⟨k1, e1, w1⟩ := anumK hw (by omega) (v := 0) (n := 2) 0 2 rfl rfl (by omega) (by decide)
    cases hb : f.2.2.2.2.2.2.2.2.2.2.1 with
    | false =>
      simp only [Bool.false_eq_true, if_false, Option.bind_some]
      exact ak33 _ hf.sh.c hf.c k _ (hw.mono (by omega))
    | true =>
      simp only [if_true, e1, Option.bind_some]
      exact ak33 _ hf.sh.c hf.c k1 _ (w1.mono (by omega))
theorem ak21 (f : Fr) (s : St) (hf : FV f s) (k : T_api_Ink) (s0 : Nat × Nat) (hk : KB k s0 600000) :
    Qx (puts s0 (f.2.2.2.2.2.2.2.2.2.1.map markF ++ (f.2.2.2.2.2.2.2.2.2.2.2.1.flatMap gapF ++ dTail f))) (iter (L_av1_Write_21 1000000) 1000000 (fT f (k.1, k.2.1, f.2.2.2.2.2.2.2.2.2.1, (f.2.2.2.2.2.2.2.2.2.1.length : Int), (0 : Int), ()))) := by
  have h1 := hf.sh.m
  refine iter_inv (F := L_av1_Write_21 1000000) (fun i d => ∃ k : T_api_Ink, KB k (puts s0 ((f.2.2.2.2.2.2.2.2.2.1.take i).map markF)) (600000 + 2 * i) ∧ d = fT f (k.1, k.2.1, f.2.2.2.2.2.2.2.2.2.1, (f.2.2.2.2.2.2.2.2.2.1.length : Int), (i : Int), ())) (Qx _) f.2.2.2.2.2.2.2.2.2.1.length ?_ ?_ f.2.2.2.2.2.2.2.2.2.1.length 0 1000000 _ (by omega) (by omega) ⟨k, hk, rfl⟩
  · rintro i _ hi ⟨k, hw, rfl⟩
    have hx := hf.m _ (getD_mem (z := 0) hi)
    obtain ⟨k1, e1, w1⟩ := anumK hw (by omega) (v := IntKind.u64.wrap (f.2.2.2.2.2.2.2.2.2.1.getD i 0)) (n := 2) (f.2.2.2.2.2.2.2.2.2.1.getD i 0).toNat 2 (by rw [nn hx.1, wrap_u64 (by omega)]; omega) rfl (by omega) (by omega)
    refine ⟨_, ⟨k1, ?_, rfl⟩, fun J => ?_⟩
    · rw [take_map_succ markF _ 0 i hi, puts_snoc]
      exact w1.mono (by omega)
    · simp only [L_av1_Write_21, lt_cast hi, in_cast hi, if_true, Int.toNat_natCast, succ_cast (show i < 1000000 by omega)]
      rw [show (((k.1, k.2.1, ()), ()) : T_api_Ink × Unit) = (k, ()) from rfl, e1, Option.bind_some]
  · rintro _ ⟨k, hw, rfl⟩ J
    rw [List.take_length] at hw
    simp only [L_av1_Write_21, nlt_cast, Bool.false_eq_true, if_false]
    rw [puts_append]
    exact ak26 f s hf k _ (hw.mono (by omega))

abbrev mTail (f : Fr) : List (Nat × Nat) := f.2.2.2.2.2.2.2.2.2.1.map markF ++ (f.2.2.2.2.2.2.2.2.2.2.2.1.flatMap gapF ++ dTail f)
abbrev aTail (f : Fr) (s : St) : List (Nat × Nat) := (if f.2.2.2.2.1 then sFields f.2.2.2.2.2.1 else []) ++ ((if f.2.2.2.2.2.2.1 then [((IntKind.u64.wrap f.2.2.2.2.2.2.2.1).toNat, s.2.1.toNat)] else []) ++ mTail f)
theorem ak12 (f : Fr) (s : St) (hf : FV f s) (hs : f.2.2.2.2.1 = true → SmS f.2.2.2.2.2.1 ∧ RV f.2.2.2.2.2.1 ∧ rightS f.2.2.2.2.2.1 = true) (l : List Bool) (hl : l.length ≤ 99) (k : T_api_Ink) (s0 : Nat × Nat) (hk : KB k s0 100) :
    Qx (puts s0 (l.map boF ++ aTail f s)) (iter (L_av1_Write_12 1000000) 1000000 (fT f (s.1, s.2.1, s.2.2.1, s.2.2.2.1, s.2.2.2.2.1, s.2.2.2.2.2.1, k.1, k.2.1, l, (l.length : Int), (0 : Int), ()))) := by
  have htg := hf.tg
  refine iter_inv (F := L_av1_Write_12 1000000) (fun i d => ∃ k : T_api_Ink, KB k (puts s0 ((l.take i).map boF)) (100 + i) ∧ d = fT f (s.1, s.2.1, s.2.2.1, s.2.2.2.1, s.2.2.2.2.1, s.2.2.2.2.2.1, k.1, k.2.1, l, (l.length : Int), (i : Int), ())) (Qx _) l.length ?_ ?_ l.length 0 1000000 _ (by omega) (by omega) ⟨k, hk, rfl⟩
  · rintro i _ hi ⟨k, hw, rfl⟩
    obtain ⟨k1, e1, w1⟩ := atruthK hw (by omega) (l.getD i false)
    refine ⟨_, ⟨k1, ?_, rfl⟩, fun J => ?_⟩
    · rw [take_map_succ boF l false i hi, puts_snoc]
      exact w1.mono (by omega)
    · simp only [L_av1_Write_12, lt_cast hi, in_cast hi, if_true, Int.toNat_natCast, succ_cast (show i < 1000000 by omega)]
      rw [show (((k.1, k.2.1, ()), ()) : T_api_Ink × Unit) = (k, ()) from rfl, e1, Option.bind_some]
  · rintro _ ⟨k, hw, rfl⟩ J
    rw [List.take_length] at hw
    simp only [L_av1_Write_12, nlt_cast, Bool.false_eq_true, if_false]
    rw [puts_append, puts_append, puts_append]
    have fin : ∀ (k1 : T_api_Ink) (s1 : Nat × Nat), KB k1 s1 300000 → (f.2.2.2.2.2.2.1 = true → ∃ k2, P_av1_writer_number ((k1, ()), IntKind.u64.wrap f.2.2.2.2.2.2.2.1, s.2.1, ()) = some ((k2, ()), ()) ∧ KB k2 (putF s1 ((IntKind.u64.wrap f.2.2.2.2.2.2.2.1).toNat, s.2.1.toNat)) 400000) := by
      intro k1 s1 h1 _
      obtain ⟨k2, e2, w2⟩ := anumK h1 (by omega) (v := IntKind.u64.wrap f.2.2.2.2.2.2.2.1) (n := s.2.1) (IntKind.u64.wrap f.2.2.2.2.2.2.2.1).toNat s.2.1.toNat (nn (u64_nonneg _)) (by omega) (by omega) hf.a
      exact ⟨k2, e2, w2.mono (by omega)⟩
    by_cases hb : f.2.2.2.2.1 = true
    · obtain ⟨h1, h2, h3⟩ := hs hb
      obtain ⟨k1, e1, w1⟩ := Put_K hw (by omega) _ h2 h1 h3
      rw [if_pos hb, if_pos hb, show P_templ_Put ((k.1, k.2.1, ()), (f.2.2.2.2.2.1.1, f.2.2.2.2.2.1.2.1, f.2.2.2.2.2.1.2.2.1, f.2.2.2.2.2.1.2.2.2.1, f.2.2.2.2.2.1.2.2.2.2.1, f.2.2.2.2.2.1.2.2.2.2.2.1, ()), ()) = some (k1, 0, ()) from e1, Option.bind_some, Option.bind_some]
      simp only []
      by_cases ha : f.2.2.2.2.2.2.1 = true
      · obtain ⟨k2, e2, w2⟩ := fin k1 _ (w1.mono (by omega)) ha
        rw [if_pos ha, if_pos ha, show (((k1.1, k1.2.1, ()), ()) : T_api_Ink × Unit) = (k1, ()) from rfl, e2, Option.bind_some, Option.bind_some]
        exact ak21 f s hf k2 _ (w2.mono (by omega))
      · rw [if_neg ha, if_neg ha, Option.bind_some]
        exact ak21 f s hf k1 _ (w1.mono (by omega))
    · rw [if_neg hb, if_neg hb, Option.bind_some]
      simp only []
      by_cases ha : f.2.2.2.2.2.2.1 = true
      · obtain ⟨k2, e2, w2⟩ := fin k _ (hw.mono (by omega)) ha
        rw [if_pos ha, if_pos ha, show (((k.1, k.2.1, ()), ()) : T_api_Ink × Unit) = (k, ()) from rfl, e2, Option.bind_some, Option.bind_some]
        exact ak21 f s hf k2 _ (w2.mono (by omega))
      · rw [if_neg ha, if_neg ha, Option.bind_some]
        exact ak21 f s hf k _ (hw.mono (by omega))
end Go.Proofs.Try.Eng


set_option linter.unusedVariables false
set_option linter.unusedSimpArgs false
namespace Go.Proofs.Try.Eng
open Go Go.Eng

theorem own_all {has : Bool} {l : List Int} {many lo hi : Int} (h : ownOk has l many lo hi = true) : ∀ v ∈ l, lo ≤ v ∧ v ≤ hi := by
  intro v hv
  unfold ownOk at h
  split at h
  · simp only [Bool.and_eq_true, allB, List.all_eq_true, inB, decide_eq_true_eq] at h
    exact h.2 v hv
  · simp only [beq_iff_eq] at h
    have : l = [] := List.eq_nil_of_length_eq_zero (by omega)
    rw [this] at hv
    cases hv
theorem right_fv {f : Fr} {known : St} (hr : rightF f known = true) (hf2 : ShF f) : FV f (ofF f known) := by
  have hp := right_place hr
  have hb := right_b hp.2.2.2
  have htg := hb.tg
  simp only [rightF, Bool.and_eq_true] at hr
  obtain ⟨⟨⟨⟨⟨⟨_, _⟩, h6⟩, h7⟩, _, h8⟩, h9⟩, h10⟩ := hr
  have hpl := hp.1
  simp only [inB, Bool.and_eq_true, decide_eq_true_eq] at hpl h6
  refine ⟨hf2, own_all h9, own_all h8, own_all h10, hpl, h6, ?_, htg⟩
  simp only [Bool.not_eq_true', Bool.or_eq_false_iff, decide_eq_false_iff_not] at h7
  have e1 : min (ofF f known).2.1.toNat IntKind.u64.bits = (ofF f known).2.1.toNat := Nat.min_eq_left (show _ ≤ 64 by omega)
  have p1 : 2 ^ (ofF f known).2.1.toNat ≤ 2 ^ 32 := Nat.pow_le_pow_right (by decide) (by omega)
  have p2 : (2 : Nat) ^ 32 = 4294967296 := by decide
  have e2 : IntKind.u64.wrap ((1 : Int) * 2 ^ (min (ofF f known).2.1.toNat IntKind.u64.bits)) = ((2 ^ (ofF f known).2.1.toNat : Nat) : Int) := by
    have : (1 : Int) * 2 ^ (ofF f known).2.1.toNat = ((2 ^ (ofF f known).2.1.toNat : Nat) : Int) := by norm_cast; omega
    rw [e1, this, wrap_u64 (by omega)]
  rw [e2] at h7
  have := u64_nonneg f.2.2.2.2.2.2.2.1
  omega

def flags (f : Fr) : List Bool := [f.2.2.2.2.1, f.2.2.2.2.2.2.1, f.2.2.2.2.2.2.2.2.1, f.2.2.2.2.2.2.2.2.2.2.1, f.2.2.2.2.2.2.2.2.2.2.2.2.1]
def frFields (f : Fr) (s : St) : List (Nat × Nat) :=
  [boF f.1, boF f.2.1, (f.2.2.1.toNat, 6), (f.2.2.2.1.toNat, 16)] ++ (if (flags f).all (!·) then [] else (flags f).map boF ++ aTail f s)

theorem av1_Write_K (f : Fr) (known : St) (hf : SmF f) (hk : SmS known) (hf2 : ShF f) (hr : rightF f known = true) : Qx (puts (0, 0) (frFields f (ofF f known))) (P_av1_Write (f, known, ())) := by
  have hv := right_fv hr hf2
  obtain ⟨_, _, _, h4⟩ := right_place hr
  rw [E_av1_Write, N_av1_Write]
  simp only [av1_Right f known hf hk, hr, Option.bind_some, Bool.not_true, Bool.false_eq_true, if_false, av1_structure, if_true]
  have ht := hv.t
  have hn := hv.n
  obtain ⟨k1, e1, w1⟩ := atruthK KB.nil (by omega) f.1
  obtain ⟨k2, e2, w2⟩ := atruthK w1 (by omega) f.2.1
  obtain ⟨k3, e3, w3⟩ := anumK w2 (by omega) (v := IntKind.u64.wrap f.2.2.1) (n := 6) f.2.2.1.toNat 6 (by rw [nn ht.1, wrap_u64 (by omega)]; omega) rfl (by omega) (by omega)
  obtain ⟨k4, e4, w4⟩ := anumK w3 (by omega) (v := IntKind.u64.wrap f.2.2.2.1) (n := 16) f.2.2.2.1.toNat 16 (by rw [nn hn.1, wrap_u64 (by omega)]; omega) rfl (by omega) (by omega)
  simp only [e1, e2, e3, e4, Option.bind_some, bif_and]
  unfold frFields
  rw [puts_append]
  have hall : (flags f).all (!·) = (!f.2.2.2.2.1 && !f.2.2.2.2.2.2.1 && !f.2.2.2.2.2.2.2.2.1 && !f.2.2.2.2.2.2.2.2.2.2.1 && !f.2.2.2.2.2.2.2.2.2.2.2.2.1) := by
    simp [flags, Bool.and_assoc]
  rw [hall]
  by_cases hc : (!f.2.2.2.2.1 && !f.2.2.2.2.2.2.1 && !f.2.2.2.2.2.2.2.2.1 && !f.2.2.2.2.2.2.2.2.2.2.1 && !f.2.2.2.2.2.2.2.2.2.2.2.2.1) = true
  · rw [if_pos hc, if_pos hc]
    exact ⟨k4, rfl, w4.mono (by omega)⟩
  · rw [if_neg hc, if_neg hc]
    refine ak12 f (ofF f known) hv (fun h => ?_) (flags f) (by simp [flags]) k4 _ (w4.mono (by omega))
    have e : ofF f known = f.2.2.2.2.2.1 := by simp only [ofF, h, if_true]
    rw [e] at h4
    exact ⟨hf.s, right_v h4 hf2.s, h4⟩

/-! ### the document's writer -/
theorem raddK {k : T_api_Ink} {s : Nat × Nat} {b : Nat} (h : KB k s b) (hb : b ≤ 1000000) {v n : Int} (V c : Nat) (hv : IntKind.u64.wrap v = (V : Int)) (hn : n = (c : Int)) (hc : c ≤ 63) (hV : V < 2 ^ c) : ∃ k', P_crossbarref26_add (k, v, n, ()) = some (k', ()) ∧ KB k' (putF s (V, c)) (b + c) := by
  subst hn
  rw [E_crossbarref26_add, N_crossbarref26_add]
  have hs := h.2
  obtain ⟨k', e, hk⟩ := ref_Add h.1 (by omega) V c (by omega) hV
  simp only [hv, e, Option.bind_some]
  exact ⟨k', rfl, hk, by simp only [putF]; omega⟩
theorem fraddK {k : T_api_Ink} {s : Nat × Nat} {b : Nat} (h : KB k s b) (hb : b ≤ 1000000) {v n : Int} (V c : Nat) (hv : IntKind.u64.wrap v = (V : Int)) (hn : n = (c : Int)) (hc : c ≤ 63) (hV : V < 2 ^ c) : ∃ k', P_crossbarref27_add (k, v, n, ()) = some (k', ()) ∧ KB k' (putF s (V, c)) (b + c) := by
  subst hn
  rw [E_crossbarref27_add, N_crossbarref27_add]
  have hs := h.2
  obtain ⟨k', e, hk⟩ := ref_Add h.1 (by omega) V c (by omega) hV
  simp only [hv, e, Option.bind_some]
  exact ⟨k', rfl, hk, by simp only [putF]; omega⟩

theorem Spread_log (n : Nat) (h1 : 1 ≤ n) (h2 : n < 256) : P_crossbarref02_Spread ((n : Int), ()) = some (((Nat.log2 n + 1 : Nat) : Int), ((2 ^ (Nat.log2 n + 1) - n : Nat) : Int), ()) := by
  rw [E_crossbarref02_Spread, N_crossbarref02_Spread]
  have hw : Nat.log2 n < 8 := (Nat.log2_lt (by omega)).2 h2
  have h3 : n < 2 ^ (Nat.log2 n + 1) := Nat.lt_log2_self
  have h6 : 2 ^ Nat.log2 n ≤ n := Nat.log2_self_le (by omega)
  have h4 : 2 ^ (Nat.log2 n + 1) ≤ 2 ^ 8 := Nat.pow_le_pow_right (by decide) (by omega)
  have h5 : (2 : Nat) ^ 8 = 256 := by decide
  have R := iter_run (F := L_crossbarref02_Spread_3 1000000) (fun i => ((n : Int), (i : Int), ((2 ^ i : Nat) : Int), ())) (Nat.log2 n + 1) (r := some (((Nat.log2 n + 1 : Nat) : Int), ((2 ^ (Nat.log2 n + 1) - n : Nat) : Int), ())) (fun i J hi => ?_) (fun J => ?_) (Nat.log2 n + 1) 0 1000000 (by omega) (by omega)
  · simp only [Nat.pow_zero] at R
    exact R
  · have p1 : 2 ^ i ≤ 2 ^ Nat.log2 n := Nat.pow_le_pow_right (by decide) (by omega)
    have p2 : IntKind.u64.wrap (2 * ((2 ^ i : Nat) : Int)) = ((2 ^ (i + 1) : Nat) : Int) := by
      have : 2 * ((2 ^ i : Nat) : Int) = ((2 ^ (i + 1) : Nat) : Int) := by rw [Nat.pow_succ, Nat.mul_comm]; rfl
      rw [this, wrap_u64 (by rw [Nat.pow_succ]; omega)]
    simp only [L_crossbarref02_Spread_3, p2, succ_cast (show i < 1000000 by omega)]
    rw [decide_eq_true (show ((2 ^ i : Nat) : Int) ≤ (n : Int) by omega)]
    rfl
  · simp only [L_crossbarref02_Spread_3]
    rw [decide_eq_false (show ¬ ((2 ^ (Nat.log2 n + 1) : Nat) : Int) ≤ (n : Int) by omega), if_neg (by decide), show ((2 ^ (Nat.log2 n + 1) : Nat) : Int) - (n : Int) = ((2 ^ (Nat.log2 n + 1) - n : Nat) : Int) by omega, wrap_u64 (by omega)]

theorem rAddRange_K {k : T_api_Ink} {s : Nat × Nat} {b : Nat} (h : KB k s b) (hb : b ≤ 1000000) {v n : Int} (hn : 1 ≤ n) (hn2 : n < 256) (hv : 0 ≤ v) (hv2 : v < n) : ∃ k', P_crossbarref02_AddRange (k, IntKind.u64.wrap v, IntKind.u64.wrap n, ()) = some (k', 0, ()) ∧ KB k' (putF s (rangeF v.toNat n.toNat)) (b + 8) := by
  obtain ⟨v, rfl⟩ := Int.eq_ofNat_of_zero_le hv
  obtain ⟨n, rfl⟩ := Int.eq_ofNat_of_zero_le (show 0 ≤ n by omega)
  rw [wrap_u64 (show v < 18446744073709551616 by omega), wrap_u64 (show n < 18446744073709551616 by omega), Int.toNat_natCast, Int.toNat_natCast]
  rw [E_crossbarref02_AddRange, N_crossbarref02_AddRange]
  have hw : Nat.log2 n < 8 := (Nat.log2_lt (by omega)).2 (by omega)
  have hfit := rangeF_fits (v := v) (n := n) (by omega) (by omega)
  have h3 : n < 2 ^ (Nat.log2 n + 1) := Nat.lt_log2_self
  have h4 : 2 ^ (Nat.log2 n + 1) ≤ 2 ^ 8 := Nat.pow_le_pow_right (by decide) (by omega)
  have h5 : (2 : Nat) ^ 8 = 256 := by decide
  have hs := h.2
  simp only [ref_Ink h.1 (by omega), Spread_log n (by omega) (by omega), bif_or, decide_eq_false (show ¬ (n : Int) < 1 by omega), decide_eq_false (show ¬ (n : Int) > 4294967296 by omega), decide_eq_false (show ¬ (v : Int) ≥ (n : Int) by omega), Bool.or_self, Bool.not_true, Bool.false_eq_true, if_false, Option.bind_some]
  unfold rangeF at hfit ⊢
  by_cases hc : v < 2 ^ (Nat.log2 n + 1) - n
  · rw [if_pos hc] at hfit ⊢
    obtain ⟨k', e1, hk⟩ := ref_Add h.1 (by omega) v (Nat.log2 n) (by omega) hfit
    have e2 : IntKind.i64.wrap (((Nat.log2 n + 1 : Nat) : Int) - 1) = ((Nat.log2 n : Nat) : Int) := by rw [wrap64 (by omega) (by omega)]; omega
    rw [decide_eq_true (show (v : Int) < ((2 ^ (Nat.log2 n + 1) - n : Nat) : Int) by omega), if_pos rfl, e2, e1, Option.bind_some]
    exact ⟨k', rfl, hk, by simp only [putF]; omega⟩
  · rw [if_neg hc] at hfit ⊢
    obtain ⟨k', e1, hk⟩ := ref_Add h.1 (by omega) (v + (2 ^ (Nat.log2 n + 1) - n)) (Nat.log2 n + 1) (by omega) hfit
    have e2 : IntKind.u64.wrap ((v : Int) + ((2 ^ (Nat.log2 n + 1) - n : Nat) : Int)) = ((v + (2 ^ (Nat.log2 n + 1) - n) : Nat) : Int) := by
      rw [show (v : Int) + ((2 ^ (Nat.log2 n + 1) - n : Nat) : Int) = ((v + (2 ^ (Nat.log2 n + 1) - n) : Nat) : Int) from rfl, wrap_u64 (by omega)]
    rw [decide_eq_false (show ¬ (v : Int) < ((2 ^ (Nat.log2 n + 1) - n : Nat) : Int) by omega), if_neg (by decide), e2, e1, Option.bind_some]
    exact ⟨k', rfl, hk, by simp only [putF]; omega⟩
end Go.Proofs.Try.Eng


