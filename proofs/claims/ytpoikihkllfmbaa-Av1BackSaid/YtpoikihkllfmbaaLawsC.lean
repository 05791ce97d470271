/- What the program reads, bit by bit. -/
import Derived.Test.YtpoikihkllfmbaaLawsB
set_option linter.unusedVariables false
set_option linter.unusedSimpArgs false
namespace Go.Eng
/-- bits of bytes, as a number -/
def gbits (b : List Int) (at' n : Nat) : Nat := num b / 2 ^ (8 * b.length - (at' + n)) % 2 ^ n
theorem gbits_lt (b : List Int) (a n : Nat) : gbits b a n < 2 ^ n := Nat.mod_lt _ (Nat.pow_pos (by decide))
theorem gbits_zero (b : List Int) (a : Nat) : gbits b a 0 = 0 := by unfold gbits; rw [Nat.pow_zero, Nat.mod_one]
theorem gbits_add (b : List Int) (a c t : Nat) (h : a + c + t ≤ 8 * b.length) : gbits b a (c + t) = gbits b a c * 2 ^ t + gbits b (a + c) t := by
  unfold gbits
  have e1 : 8 * b.length - (a + c) = (8 * b.length - (a + (c + t))) + t := by omega
  have e2 : 8 * b.length - (a + c + t) = 8 * b.length - (a + (c + t)) := by omega
  rw [e1, e2, Nat.pow_add 2 (8 * b.length - (a + (c + t))) t, ← Nat.div_div_eq_div_mul, Nat.add_comm c t, Nat.pow_add 2 t c]
  generalize num b / 2 ^ (8 * b.length - (a + (t + c))) = X
  rw [Nat.mod_mul, Nat.mul_comm, Nat.add_comm]
theorem gbits_byte {b : List Int} (hb : Byt b) (a t : Nat) (ha : a / 8 < b.length) (ht : t ≤ 8 - a % 8) : (b.getD (a / 8) 0).toNat / 2 ^ (8 - a % 8 - t) % 2 ^ t = gbits b a t := by
  rw [byte_at hb (a / 8) ha]
  unfold gbits
  have e : (256 : Nat) = 2 ^ (8 - a % 8 - t) * (2 ^ t * 2 ^ (a % 8)) := by
    rw [← Nat.pow_add, ← Nat.pow_add, show 8 - a % 8 - t + (t + a % 8) = 8 by omega]
  have e2 : ∀ X : Nat, X % 256 / 2 ^ (8 - a % 8 - t) % 2 ^ t = X / 2 ^ (8 - a % 8 - t) % 2 ^ t := by
    intro X
    rw [e, Nat.mod_mul_right_div_self, Nat.mod_mul_right_mod]
  rw [e2, Nat.div_div_eq_div_mul, pow256, ← Nat.pow_add]
  congr 3
  omega
theorem or64 {x y : Nat} (hx : x < 18446744073709551616) (hy : y < 18446744073709551616) : IntKind.u64.wrap ((BitVec.ofInt IntKind.u64.bits (x : Int) ||| BitVec.ofInt IntKind.u64.bits (y : Int)).toNat : Int) = ((x ||| y : Nat) : Int) := by
  have e : (BitVec.ofInt IntKind.u64.bits (x : Int) ||| BitVec.ofInt IntKind.u64.bits (y : Int)).toNat = x ||| y := by
    show (BitVec.ofInt 64 (x : Int) ||| BitVec.ofInt 64 (y : Int)).toNat = _
    rw [BitVec.ofInt_natCast, BitVec.ofInt_natCast, BitVec.toNat_or, BitVec.toNat_ofNat, BitVec.toNat_ofNat, Nat.mod_eq_of_lt hx, Nat.mod_eq_of_lt hy]
  rw [e, wrap_u64 (Nat.or_lt_two_pow (n := 64) hx hy)]
/-- what a reader of bits gives: a value and where it stands then, or an error -/
abbrev Pa (α : Type) := Nat → Except Int (α × Nat)
def numP (b : List Int) (n : Nat) : Pa Int := fun a => if a + n ≤ 8 * b.length then .ok (((gbits b a n : Nat) : Int), a + n) else .error 2
def Pa.bind {α β : Type} (p : Pa α) (f : α → Pa β) : Pa β := fun a => match p a with
  | .ok (v, a') => f v a'
  | .error e => .error e
def Pa.map {α β : Type} (p : Pa α) (f : α → β) : Pa β := fun a => match p a with
  | .ok (v, a') => .ok (f v, a')
  | .error e => .error e
end Go.Eng
namespace Go.Proofs.Try.Eng
open Go Go.Eng

theorem bits_right (b : List Int) (hl : b.length < 100000000) (a e : Int) : P_bits_right ((b, a, e, ()), ()) = some (decide (e = 0) && decide (0 ≤ a) && decide (a ≤ 8 * b.length), ()) := by
  rw [E_bits_right, N_bits_right]
  simp (disch := omega) only [wrap64, bif_and]
  rfl
theorem bits_Left (b : List Int) (hl : b.length < 100000000) (a : Nat) (ha : a ≤ 8 * b.length) : P_bits_Left ((b, (a : Int), 0, ()), ()) = some (((8 * b.length - a : Nat) : Int), ()) := by
  rw [E_bits_Left, N_bits_Left]
  simp (disch := omega) only [bits_right, Option.bind_some, wrap64]
  simp only [decide_true, Bool.true_and, decide_eq_true (show (0 : Int) ≤ (a : Int) by omega), decide_eq_true (show (a : Int) ≤ 8 * (b.length : Int) by omega), Bool.not_true, Bool.false_eq_true, if_false]
  congr 2; omega
theorem bits_fail (b : List Int) (a e f : Int) : P_bits_fail ((b, a, e, ()), f, ()) = some ((b, a, (if e = 0 then f else e), ()), ()) := by
  rw [E_bits_fail, N_bits_fail]
  by_cases h : e = 0 <;> simp [h]
theorem bits_look (b : List Int) (hb : Byt b) (hl : b.length < 100000000) (a n : Nat) (hn : n ≤ 64) (ha : a + n ≤ 8 * b.length) : P_bits_look (b, (a : Int), (n : Int), ()) = some (((gbits b a n : Nat) : Int), ()) := by
  rw [E_bits_look, N_bits_look]
  refine iter_less (F := L_bits_look_2 1000000) (fun d => ∃ cc : Nat, cc ≤ n ∧ d = (b, ((a + (n - cc) : Nat) : Int), (cc : Int), ((gbits b a (n - cc) : Nat) : Int), ())) (fun d => d.2.2.1.toNat) (fun o => o = some (((gbits b a n : Nat) : Int), ())) ?_ 1000000 _ ⟨n, Nat.le_refl _, by simp [gbits_zero]⟩ (by simp only [Int.toNat_natCast]; omega)
  rintro _ ⟨cc, hcc, rfl⟩
  by_cases hz : cc = 0
  · left
    intro J
    subst hz
    simp only [L_bits_look_2]
    rw [decide_eq_false (by omega)]
    rfl
  · right
    generalize hA : a + (n - cc) = A
    have e6 : decide ((8 : Int) ≠ 0) = true := by decide
    have f1 : (A : Int).tmod 8 = ((A % 8 : Nat) : Int) := by rw [Int.tmod_eq_emod_of_nonneg (by omega)]; rfl
    have f2 : (A : Int).tdiv 8 = ((A / 8 : Nat) : Int) := by rw [Int.tdiv_eq_ediv_of_nonneg (by omega)]; rfl
    have f3 : IntKind.i64.wrap (8 - ((A % 8 : Nat) : Int)) = ((8 - A % 8 : Nat) : Int) := by rw [wrap64 (by omega) (by omega)]; omega
    have f4 : (if (cc : Int) < ((8 - A % 8 : Nat) : Int) then (cc : Int) else ((8 - A % 8 : Nat) : Int)) = ((min cc (8 - A % 8) : Nat) : Int) := by split <;> omega
    have f5 : IntKind.i64.wrap ((A / 8 : Nat) : Int) = ((A / 8 : Nat) : Int) := wrap64 (by omega) (by omega)
    generalize ht : min cc (8 - A % 8) = t at f4
    have ht1 : t ≤ cc ∧ t ≤ 8 - A % 8 ∧ 0 < t := by omega
    have f6 : IntKind.i64.wrap ((cc : Int) - (t : Int)) = ((cc - t : Nat) : Int) := by rw [wrap64 (by omega) (by omega)]; omega
    have f7 : IntKind.i64.wrap ((A : Int) + (t : Int)) = ((A + t : Nat) : Int) := by rw [wrap64 (by omega) (by omega)]; omega
    have f8 : IntKind.i64.wrap (((8 - A % 8 : Nat) : Int) - (t : Int)) = ((8 - A % 8 - t : Nat) : Int) := by rw [wrap64 (by omega) (by omega)]; omega
    have g2 : IntKind.u64.wrap (t : Int) = (t : Int) := wrap_u64 (by omega)
    have g3 : IntKind.u64.wrap ((8 - A % 8 - t : Nat) : Int) = ((8 - A % 8 - t : Nat) : Int) := wrap_u64 (by omega)
    have g5 : min t IntKind.u64.bits = t := Nat.min_eq_left (show t ≤ 64 by omega)
    have g6 : min (8 - A % 8 - t) IntKind.u64.bits = 8 - A % 8 - t := Nat.min_eq_left (show 8 - A % 8 - t ≤ 64 by omega)
    have p2 : 2 ^ t ≤ 256 := by
      have : 2 ^ t ≤ 2 ^ 8 := Nat.pow_le_pow_right (by decide) (by omega)
      exact this
    have p1 : 0 < 2 ^ t := Nat.pow_pos (by decide)
    have g7 : IntKind.u64.wrap (IntKind.u64.wrap ((1 : Int) * 2 ^ t) - 1) = ((2 ^ t - 1 : Nat) : Int) := by
      have : (1 : Int) * 2 ^ t = ((2 ^ t : Nat) : Int) := by norm_cast; omega
      rw [this, wrap_u64 (by omega), show ((2 ^ t : Nat) : Int) - 1 = ((2 ^ t - 1 : Nat) : Int) by omega, wrap_u64 (by omega)]
    have hj : A / 8 < b.length := by omega
    have hob := hb _ (getD_mem (z := 0) hj)
    obtain ⟨ob, hobe⟩ := Int.eq_ofNat_of_zero_le hob.1
    have g8 : IntKind.u64.wrap (b.getD (A / 8) 0) = (ob : Int) := by rw [hobe, wrap_u64 (by omega)]
    have hbits := gbits_byte hb A t hj ht1.2.1
    rw [hobe, Int.toNat_natCast] at hbits
    have g9 : IntKind.u64.wrap ((BitVec.ofInt IntKind.u64.bits ((ob / 2 ^ (8 - A % 8 - t) : Nat) : Int) &&& BitVec.ofInt IntKind.u64.bits ((2 ^ t - 1 : Nat) : Int)).toNat : Int) = ((gbits b A t : Nat) : Int) := by
      rw [and64 (Nat.lt_of_le_of_lt (Nat.div_le_self _ _) (by omega)) (by omega), hbits]
    have hlt := gbits_lt b a (n - cc)
    have hlt2 := gbits_lt b A t
    have hpw : gbits b a (n - cc) * 2 ^ t < 2 ^ 64 := by
      have h1 : gbits b a (n - cc) * 2 ^ t < 2 ^ (n - cc) * 2 ^ t := Nat.mul_lt_mul_of_pos_right hlt p1
      rw [← Nat.pow_add] at h1
      exact Nat.lt_of_lt_of_le h1 (Nat.pow_le_pow_right (by decide) (by omega))
    have e64 : (2 : Nat) ^ 64 = 18446744073709551616 := by decide
    have g10 : IntKind.u64.wrap (((gbits b a (n - cc) : Nat) : Int) * 2 ^ t) = ((gbits b a (n - cc) * 2 ^ t : Nat) : Int) := by
      have : ((gbits b a (n - cc) : Nat) : Int) * 2 ^ t = ((gbits b a (n - cc) * 2 ^ t : Nat) : Int) := by norm_cast
      rw [this, wrap_u64 (by omega)]
    have g11 : IntKind.u64.wrap ((BitVec.ofInt IntKind.u64.bits ((gbits b a (n - cc) * 2 ^ t : Nat) : Int) ||| BitVec.ofInt IntKind.u64.bits ((gbits b A t : Nat) : Int)).toNat : Int) = ((gbits b a (n - (cc - t)) : Nat) : Int) := by
      rw [or64 (by omega) (by omega), or_add (Nat.mul_mod_left _ _) hlt2]
      have := gbits_add b a (n - cc) t (by omega)
      rw [hA] at this
      rw [show n - (cc - t) = n - cc + t by omega, this]
    refine ⟨(b, ((A + t : Nat) : Int), ((cc - t : Nat) : Int), ((gbits b a (n - (cc - t)) : Nat) : Int), ()), ⟨cc - t, by omega, ?_⟩, ?_, fun J => ?_⟩
    · rw [show a + (n - (cc - t)) = A + t by omega]
    · simp only [Int.toNat_natCast]; omega
    · simp only [L_bits_look_2, f1, f2, f3, f4, f5, f6, f7, f8, e6, if_true, g2, g3, g5, g6, g7, g8, Int.toNat_natCast, fdiv_nat, g9, g10, g11]
      rw [decide_eq_true (show (cc : Int) > 0 by omega), in_cast hj, decide_eq_true (show (0 : Int) ≤ (t : Int) by omega), decide_eq_true (show (0 : Int) ≤ ((8 - A % 8 - t : Nat) : Int) by omega)]
      rfl

/-- a reader of bits, and what is known of it -/
def Sim {β : Type} (b : List Int) (V : β → Prop) (q : Except Int (β × Nat)) (x : β) (st : T_api_Bits) : Prop :=
  V x ∧ match q with
    | .ok (v, a) => x = v ∧ st = (b, (a : Int), 0, ()) ∧ a ≤ 8 * b.length
    | .error e => e ≠ 0 ∧ ∃ a, st = (b, a, e, ())
abbrev SR (b : List Int) (q : Except Int (Unit × Nat)) (st : T_api_Bits) : Prop := Sim b (fun _ => True) q () st

theorem bits_Get (b : List Int) (hb : Byt b) (hl : b.length < 100000000) {α : Type} {V : α → Prop} {q : Except Int (α × Nat)} {x : α} {st : T_api_Bits} (h : Sim b V q x st) (n : Nat) (hn : n ≤ 64) :
    ∃ v st', P_bits_Get (st, (n : Int), ()) = some (st', v, ()) ∧ Sim b (fun v => 0 ≤ v ∧ v < 2 ^ n) (match q with | .ok (_, a) => numP b n a | .error e => .error e) v st' := by
  have p2 : (0 : Int) < 2 ^ n := by
    have : 0 < 2 ^ n := Nat.pow_pos (by decide)
    exact_mod_cast this
  obtain ⟨_, h⟩ := h
  rw [E_bits_Get, N_bits_Get]
  cases q with
  | error e =>
    obtain ⟨he, a, rfl⟩ := h
    simp only [bits_right _ hl, decide_eq_false he, Bool.false_and, Option.bind_some, Bool.not_false, if_true, bits_fail, if_neg he]
    exact ⟨0, _, rfl, ⟨by omega, p2⟩, he, a, rfl⟩
  | ok y =>
    obtain ⟨y, a⟩ := y
    obtain ⟨_, rfl, ha⟩ := h
    simp (disch := omega) only [bits_right, bits_Left, Option.bind_some, bits_fail, if_true, decide_true, Bool.true_and]
    simp only [decide_eq_true (show (0 : Int) ≤ (a : Int) by omega), decide_eq_true (show (a : Int) ≤ 8 * (b.length : Int) by omega), Bool.not_true, Bool.and_self, Bool.false_eq_true, if_false, decide_eq_false (show ¬ (n : Int) < 0 by omega), decide_eq_false (show ¬ (n : Int) > 64 by omega)]
    by_cases hc : a + n ≤ 8 * b.length
    · rw [decide_eq_false (show ¬ (n : Int) > ((8 * b.length - a : Nat) : Int) by omega)]
      simp only [Bool.false_eq_true, if_false, bits_look b hb hl a n hn hc, Option.bind_some, numP, if_pos hc, wrap64 (n := (a : Int) + (n : Int)) (by omega) (by omega)]
      have hlt := gbits_lt b a n
      exact ⟨_, _, rfl, ⟨Int.natCast_nonneg _, by exact_mod_cast hlt⟩, rfl, rfl, hc⟩
    · rw [decide_eq_true (show (n : Int) > ((8 * b.length - a : Nat) : Int) by omega)]
      simp only [if_true, numP, if_neg hc]
      exact ⟨0, _, rfl, ⟨by omega, p2⟩, by decide, _, rfl⟩
end Go.Proofs.Try.Eng


set_option linter.unusedVariables false
set_option linter.unusedSimpArgs false
namespace Go.Eng
/-- go on with a reader, unless there is an error -/
def nxt {α β : Type} (q : Except Int (α × Nat)) (p : Pa β) : Except Int (β × Nat) := match q with
  | .ok (_, a) => p a
  | .error e => .error e
def isOk {α : Type} : Except Int (α × Nat) → Bool
  | .ok _ => true
  | .error _ => false
def pureP {α : Type} (x : α) : Pa α := fun a => .ok (x, a)
def failP {α : Type} (e : Int) : Pa α := fun _ => .error e
def rangeP (b : List Int) (n : Nat) : Pa Int := fun a =>
  if a + Nat.log2 n ≤ 8 * b.length then
    if gbits b a (Nat.log2 n) < 2 ^ (Nat.log2 n + 1) - n then .ok (((gbits b a (Nat.log2 n) : Nat) : Int), a + Nat.log2 n)
    else if a + (Nat.log2 n + 1) ≤ 8 * b.length then .ok (((gbits b a (Nat.log2 n + 1) - (2 ^ (Nat.log2 n + 1) - n) : Nat) : Int), a + (Nat.log2 n + 1)) else .error 2
  else .error 2
def repP {α : Type} (p : Pa α) : Nat → Pa (List α)
  | 0 => pureP []
  | k + 1 => p.bind fun v => (repP p k).map (v :: ·)
theorem Pa.map_map {α β γ : Type} (p : Pa α) (f : α → β) (g : β → γ) : (p.map f).map g = p.map (g ∘ f) := by
  funext a
  simp only [Pa.map]
  cases p a <;> rfl
theorem Pa.bind_map {α β γ : Type} (p : Pa α) (f : α → Pa β) (g : β → γ) : (p.bind f).map g = p.bind fun v => (f v).map g := by
  funext a
  simp only [Pa.map, Pa.bind]
  cases p a <;> rfl
theorem Pa.map_id {α : Type} (p : Pa α) : p.map (fun x => x) = p := by
  funext a
  simp only [Pa.map]
  cases p a <;> rfl
theorem nxt_error {α β : Type} (e : Int) (p : Pa β) : nxt (.error e : Except Int (α × Nat)) p = .error e := rfl
end Go.Eng
namespace Go.Proofs.Try.Eng
open Go Go.Eng

theorem Sim.nxt_bind {α β γ : Type} {b : List Int} {V : β → Prop} {q : Except Int (α × Nat)} {p : Pa β} {x : β} {st : T_api_Bits} (h : Sim b V (nxt q p) x st) (f : β → Pa γ) : nxt q (p.bind f) = nxt (nxt q p) (f x) := by
  obtain ⟨_, h⟩ := h
  cases q with
  | error e => rfl
  | ok y =>
    obtain ⟨y, a⟩ := y
    simp only [nxt] at h
    simp only [nxt, Pa.bind]
    cases hp : p a with
    | error e => rfl
    | ok z =>
      obtain ⟨v, a'⟩ := z
      rw [hp] at h
      simp only [h.1]
theorem Sim.pure {α β : Type} {b : List Int} {V : α → Prop} {V' : β → Prop} {q : Except Int (α × Nat)} {x : α} {st : T_api_Bits} (h : Sim b V q x st) {y : β} (hy : V' y) : Sim b V' (nxt q (pureP y)) y st := by
  obtain ⟨_, h⟩ := h
  refine ⟨hy, ?_⟩
  cases q with
  | error e => exact h
  | ok z => obtain ⟨v, a⟩ := z; exact ⟨rfl, h.2⟩
theorem Sim.mono {β : Type} {b : List Int} {V V' : β → Prop} {q : Except Int (β × Nat)} {x : β} {st : T_api_Bits} (h : Sim b V q x st) (hv : V x → V' x) : Sim b V' q x st := ⟨hv h.1, h.2⟩
/-- forget the value -/
theorem Sim.sr {β : Type} {b : List Int} {V : β → Prop} {q : Except Int (β × Nat)} {x : β} {st : T_api_Bits} (h : Sim b V q x st) : SR b (nxt q (pureP ())) st := h.pure trivial
theorem nxt_sr {α β : Type} (q : Except Int (α × Nat)) (p : Pa β) : nxt (nxt q (pureP ())) p = nxt q p := by
  cases q <;> rfl

theorem bits_Get' (b : List Int) (hb : Byt b) (hl : b.length < 100000000) {α : Type} {V : α → Prop} {q : Except Int (α × Nat)} {x : α} {st : T_api_Bits} (h : Sim b V q x st) (n : Nat) (hn : n ≤ 64) :
    ∃ v st', P_bits_Get (st, (n : Int), ()) = some (st', v, ()) ∧ Sim b (fun v => 0 ≤ v ∧ v < 2 ^ n) (nxt q (numP b n)) v st' := by
  obtain ⟨v, st', h1, h2⟩ := bits_Get b hb hl h n hn
  refine ⟨v, st', h1, ?_⟩
  cases q <;> exact h2

theorem bits_Range (b : List Int) (hb : Byt b) (hl : b.length < 100000000) {α : Type} {V : α → Prop} {q : Except Int (α × Nat)} {x : α} {st : T_api_Bits} (h : Sim b V q x st) (n : Nat) (hn1 : 1 ≤ n) (hn : n < 256) :
    ∃ v st', P_bits_Range (st, (n : Int), ()) = some (st', v, ()) ∧ Sim b (fun v => 0 ≤ v ∧ v < (n : Int)) (nxt q (rangeP b n)) v st' := by
  obtain ⟨_, h⟩ := h
  rw [E_bits_Range, N_bits_Range]
  cases q with
  | error e =>
    obtain ⟨he, a, rfl⟩ := h
    simp only [bits_right _ hl, decide_eq_false he, Bool.false_and, Option.bind_some, Bool.not_false, if_true, bits_fail, if_neg he]
    exact ⟨0, _, rfl, ⟨by omega, by omega⟩, he, a, rfl⟩
  | ok y =>
    obtain ⟨y, a⟩ := y
    obtain ⟨_, rfl, ha⟩ := h
    have hw : Nat.log2 n < 8 := (Nat.log2_lt (by omega)).2 hn
    have h3 : n < 2 ^ (Nat.log2 n + 1) := Nat.lt_log2_self
    have h6 : 2 ^ Nat.log2 n ≤ n := Nat.log2_self_le (by omega)
    have h4 : 2 ^ (Nat.log2 n + 1) ≤ 2 ^ 8 := Nat.pow_le_pow_right (by decide) (by omega)
    have h5 : (2 : Nat) ^ 8 = 256 := by decide
    have h7 : 2 ^ (Nat.log2 n + 1) = 2 * 2 ^ Nat.log2 n := by rw [Nat.pow_succ]; omega
    have e2 : IntKind.i64.wrap (((Nat.log2 n + 1 : Nat) : Int) - 1) = ((Nat.log2 n : Nat) : Int) := by rw [wrap64 (by omega) (by omega)]; omega
    simp (disch := omega) only [bits_right, bits_Left, Option.bind_some, bits_fail, if_true, decide_true, Bool.true_and, shape_log, e2]
    simp only [decide_eq_true (show (0 : Int) ≤ (a : Int) by omega), decide_eq_true (show (a : Int) ≤ 8 * (b.length : Int) by omega), Bool.not_true, Bool.and_self, Bool.false_eq_true, if_false, decide_eq_false (show ¬ (n : Int) < 1 by omega), decide_eq_false (show ¬ (n : Int) > 4294967296 by omega)]
    simp only [nxt, rangeP]
    by_cases hc : a + Nat.log2 n ≤ 8 * b.length
    · rw [decide_eq_false (show ¬ ((Nat.log2 n : Nat) : Int) > ((8 * b.length - a : Nat) : Int) by omega)]
      simp only [Bool.false_eq_true, if_false, bits_look b hb hl a (Nat.log2 n) (by omega) hc, Option.bind_some, if_pos hc]
      have hlt := gbits_lt b a (Nat.log2 n)
      by_cases hv : gbits b a (Nat.log2 n) < 2 ^ (Nat.log2 n + 1) - n
      · rw [decide_eq_true (show ((gbits b a (Nat.log2 n) : Nat) : Int) < ((2 ^ (Nat.log2 n + 1) - n : Nat) : Int) by omega), if_pos hv, if_pos rfl, wrap64 (n := (a : Int) + ((Nat.log2 n : Nat) : Int)) (by omega) (by omega)]
        exact ⟨_, _, rfl, ⟨Int.natCast_nonneg _, by omega⟩, rfl, rfl, hc⟩
      · rw [decide_eq_false (show ¬ ((gbits b a (Nat.log2 n) : Nat) : Int) < ((2 ^ (Nat.log2 n + 1) - n : Nat) : Int) by omega), if_neg hv, if_neg (by decide)]
        by_cases hc2 : a + (Nat.log2 n + 1) ≤ 8 * b.length
        · have hg := gbits_add b a (Nat.log2 n) 1 (by omega)
          have hlt2 := gbits_lt b a (Nat.log2 n + 1)
          rw [decide_eq_false (show ¬ ((Nat.log2 n + 1 : Nat) : Int) > ((8 * b.length - a : Nat) : Int) by omega), if_pos hc2, if_neg (by decide), bits_look b hb hl a (Nat.log2 n + 1) (by omega) hc2, Option.bind_some, wrap64 (n := (a : Int) + ((Nat.log2 n + 1 : Nat) : Int)) (by omega) (by omega)]
          have e3 : IntKind.u64.wrap (((gbits b a (Nat.log2 n + 1) : Nat) : Int) - ((2 ^ (Nat.log2 n + 1) - n : Nat) : Int)) = ((gbits b a (Nat.log2 n + 1) - (2 ^ (Nat.log2 n + 1) - n) : Nat) : Int) := by
            rw [show ((gbits b a (Nat.log2 n + 1) : Nat) : Int) - ((2 ^ (Nat.log2 n + 1) - n : Nat) : Int) = ((gbits b a (Nat.log2 n + 1) - (2 ^ (Nat.log2 n + 1) - n) : Nat) : Int) by omega, wrap_u64 (by omega)]
          simp only [e3]
          exact ⟨_, _, rfl, ⟨Int.natCast_nonneg _, by omega⟩, rfl, rfl, hc2⟩
        · rw [decide_eq_true (show ((Nat.log2 n + 1 : Nat) : Int) > ((8 * b.length - a : Nat) : Int) by omega), if_neg hc2, if_pos rfl]
          exact ⟨0, _, rfl, ⟨by omega, by omega⟩, by decide, _, rfl⟩
    · rw [decide_eq_true (show ((Nat.log2 n : Nat) : Int) > ((8 * b.length - a : Nat) : Int) by omega), if_neg hc, if_pos rfl]
      exact ⟨0, _, rfl, ⟨by omega, by omega⟩, by decide, _, rfl⟩

theorem tnumR {b : List Int} (hb : Byt b) (hl : b.length < 100000000) {α : Type} {V : α → Prop} {q : Except Int (α × Nat)} {x : α} {st : T_api_Bits} (h : Sim b V q x st) (n : Nat) (hn : n ≤ 32) :
    ∃ v st', P_templ_reader_number ((st, ()), (n : Int), ()) = some (v, (st', ()), ()) ∧ Sim b (fun v => 0 ≤ v ∧ v < 2 ^ n) (nxt q (numP b n)) v st' := by
  rw [E_templ_reader_number, N_templ_reader_number]
  obtain ⟨v, st', h1, h2⟩ := bits_Get' b hb hl h n (by omega)
  have p2 : (2 : Int) ^ n ≤ 2 ^ 32 := by
    have : 2 ^ n ≤ 2 ^ 32 := Nat.pow_le_pow_right (by decide) hn
    exact_mod_cast this
  have p3 : (2 : Int) ^ 32 = 4294967296 := by decide
  have hv := h2.1
  simp only [h1, Option.bind_some, wrap64 (n := v) (by omega) (by omega)]
  exact ⟨v, st', rfl, h2⟩
theorem anumR {b : List Int} (hb : Byt b) (hl : b.length < 100000000) {α : Type} {V : α → Prop} {q : Except Int (α × Nat)} {x : α} {st : T_api_Bits} (h : Sim b V q x st) (n : Nat) (hn : n ≤ 32) :
    ∃ v st', P_av1_reader_number ((st, ()), (n : Int), ()) = some (v, (st', ()), ()) ∧ Sim b (fun v => 0 ≤ v ∧ v < 2 ^ n) (nxt q (numP b n)) v st' := by
  rw [E_av1_reader_number, N_av1_reader_number]
  obtain ⟨v, st', h1, h2⟩ := bits_Get' b hb hl h n (by omega)
  have p2 : (2 : Int) ^ n ≤ 2 ^ 32 := by
    have : 2 ^ n ≤ 2 ^ 32 := Nat.pow_le_pow_right (by decide) hn
    exact_mod_cast this
  have p3 : (2 : Int) ^ 32 = 4294967296 := by decide
  have hv := h2.1
  simp only [h1, Option.bind_some, wrap64 (n := v) (by omega) (by omega)]
  exact ⟨v, st', rfl, h2⟩
theorem trangR {b : List Int} (hb : Byt b) (hl : b.length < 100000000) {α : Type} {V : α → Prop} {q : Except Int (α × Nat)} {x : α} {st : T_api_Bits} (h : Sim b V q x st) (n : Int) (hn1 : 1 ≤ n) (hn : n < 256) :
    ∃ v st', P_templ_reader_ranged ((st, ()), n, ()) = some (v, (st', ()), ()) ∧ Sim b (fun v => 0 ≤ v ∧ v < n) (nxt q (rangeP b n.toNat)) v st' := by
  obtain ⟨n, rfl⟩ := Int.eq_ofNat_of_zero_le (show 0 ≤ n by omega)
  rw [E_templ_reader_ranged, N_templ_reader_ranged]
  obtain ⟨v, st', h1, h2⟩ := bits_Range b hb hl h n (by omega) (by omega)
  have hv := h2.1
  simp only [wrap_u64 (show n < 18446744073709551616 by omega), h1, Option.bind_some, wrap64 (n := v) (by omega) (by omega)]
  exact ⟨v, st', rfl, h2⟩
def boP (b : List Int) : Pa Bool := (numP b 1).map (fun v => decide (v = 1))
theorem Sim.map {b : List Int} {α β γ : Type} {V : β → Prop} {V' : γ → Prop} {q : Except Int (α × Nat)} {p : Pa β} {x : β} {st : T_api_Bits} (h : Sim b V (nxt q p) x st) (f : β → γ) (hv : V' (f x)) : Sim b V' (nxt q (p.map f)) (f x) st := by
  obtain ⟨_, h⟩ := h
  refine ⟨hv, ?_⟩
  cases q with
  | error e => exact h
  | ok y =>
    obtain ⟨y, a⟩ := y
    simp only [nxt] at h
    simp only [nxt, Pa.map]
    cases hp : p a with
    | error e => rw [hp] at h; exact h
    | ok z => obtain ⟨z, a'⟩ := z; rw [hp] at h; exact ⟨by rw [h.1], h.2⟩
theorem atruthR {b : List Int} (hb : Byt b) (hl : b.length < 100000000) {α : Type} {V : α → Prop} {q : Except Int (α × Nat)} {x : α} {st : T_api_Bits} (h : Sim b V q x st) :
    ∃ v st', P_av1_reader_truth ((st, ()), ()) = some (v, (st', ()), ()) ∧ Sim b (fun _ => True) (nxt q (boP b)) v st' := by
  rw [E_av1_reader_truth, N_av1_reader_truth]
  obtain ⟨v, st', h1, h2⟩ := anumR hb hl h 1 (by omega)
  have h1' : P_av1_reader_number ((st, ()), (1 : Int), ()) = some (v, (st', ()), ()) := h1
  refine ⟨decide (v = 1), st', ?_, h2.map _ trivial⟩
  simp only [h1', Option.bind_some, beq_dec]
theorem ok_sim {β : Type} {b : List Int} {V : β → Prop} {q : Except Int (β × Nat)} {x : β} {st : T_api_Bits} (h : Sim b V q x st) : P_templ_reader_ok ((st, ()), ()) = some (isOk q, ()) := by
  rw [E_templ_reader_ok, N_templ_reader_ok]
  obtain ⟨_, h⟩ := h
  cases q with
  | error e =>
    obtain ⟨he, a, rfl⟩ := h
    simp [he, isOk]
  | ok y =>
    obtain ⟨y, a⟩ := y
    obtain ⟨_, rfl, ha⟩ := h
    rfl
theorem wrong_sim {β : Type} {b : List Int} {V : β → Prop} {q : Except Int (β × Nat)} {x : β} {st : T_api_Bits} (h : Sim b V q x st) : ∃ st', P_templ_reader_wrong ((st, ()), ()) = some ((st', ()), ()) ∧ ∀ (γ : Type) (V' : γ → Prop) (y : γ), V' y → Sim b V' (nxt q (failP 6)) y st' := by
  rw [E_templ_reader_wrong, N_templ_reader_wrong]
  simp only [ok_sim h, isOk]
  obtain ⟨_, h⟩ := h
  cases q with
  | error e =>
    obtain ⟨he, a, rfl⟩ := h
    exact ⟨_, rfl, fun γ V' y hy => ⟨hy, he, a, rfl⟩⟩
  | ok y =>
    obtain ⟨y, a⟩ := y
    obtain ⟨_, rfl, ha⟩ := h
    exact ⟨_, rfl, fun γ V' y hy => ⟨hy, by decide, _, rfl⟩⟩
theorem repP_map_succ {α : Type} (p : Pa α) (k : Nat) (acc : List α) : (repP p (k + 1)).map (acc ++ ·) = p.bind fun v => (repP p k).map (acc ++ [v] ++ ·) := by
  simp only [repP, Pa.bind_map, Pa.map_map]
  congr 1
  funext v
  congr 1
  funext l
  simp
/-- a list of so many -/
theorem list_loop_aux {α D R : Type} {b : List Int} {F : (D → Option R) → D → Option R} (mk : T_api_Bits → List α → Nat → D) (fin : List α → T_api_Bits → R) (many : Nat) (p : Pa α) (V : α → Prop)
    (hok : ∀ (st : T_api_Bits) acc i (a : Nat), i < many → st = (b, (a : Int), 0, ()) → acc.length = i → SR b (.ok ((), a)) st → ∃ v st', Sim b V (p a) v st' ∧ ∀ J, F J (mk st acc i) = J (mk st' (acc ++ [v]) (i + 1)))
    (hbad : ∀ (st : T_api_Bits) acc i e (a : Int) J, st = (b, a, e, ()) → e ≠ 0 → F J (mk st acc i) = some (fin acc st))
    (hend : ∀ st acc J, F J (mk st acc many) = some (fin acc st)) :
    ∀ (k i fuel : Nat) (acc : List α) (st : T_api_Bits) (q : Except Int (Unit × Nat)), i + k = many → k < fuel → acc.length = i → (∀ v ∈ acc, V v) → SR b q st →
    ∃ acc' st', iter F fuel (mk st acc i) = some (fin acc' st') ∧ Sim b (fun l => l.length ≤ many ∧ ∀ v ∈ l, V v) (nxt q ((repP p k).map (acc ++ ·))) acc' st'
  | k, i, 0, _, _, _, _, h, _, _, _ => by omega
  | 0, i, n + 1, acc, st, q, hi, _, hal, hv, h => by
    have : i = many := by omega
    subst this
    rw [iter_step, hend]
    refine ⟨acc, st, rfl, ⟨by omega, hv⟩, ?_⟩
    obtain ⟨_, h⟩ := h
    cases q with
    | error e => exact h
    | ok y => obtain ⟨y, a⟩ := y; exact ⟨by simp, h.2⟩
  | k + 1, i, n + 1, acc, st, q, hi, hf, hal, hv, h => by
    rw [iter_step]
    cases q with
    | error e =>
      obtain ⟨_, he, a, rfl⟩ := h
      rw [hbad _ acc i e a _ rfl he]
      exact ⟨acc, _, rfl, ⟨by omega, hv⟩, he, a, rfl⟩
    | ok y =>
      obtain ⟨y, a⟩ := y
      have hst := h.2.2.1
      obtain ⟨v, st', h1, h2⟩ := hok st acc i a (by omega) hst hal h
      rw [h2]
      obtain ⟨acc', st2, h3, h4⟩ := list_loop_aux mk fin many p V hok hbad hend k (i + 1) n (acc ++ [v]) st' (nxt (p a) (pureP ())) (by omega) (by omega) (by simp [hal]) (by
        intro w hw
        rcases List.mem_append.1 hw with h | h
        · exact hv w h
        · simp only [List.mem_singleton] at h; subst h; exact h1.1) h1.sr
      refine ⟨acc', st2, h3, ?_⟩
      rw [repP_map_succ]
      have e := Sim.nxt_bind (q := (.ok (y, a) : Except Int (Unit × Nat))) (p := p) h1 (fun v => (repP p k).map (acc ++ [v] ++ ·))
      rw [e]
      rw [nxt_sr] at h4
      exact h4
theorem list_loop {α D R : Type} {b : List Int} {F : (D → Option R) → D → Option R} (mk : T_api_Bits → List α → Nat → D) (fin : List α → T_api_Bits → R) (many : Nat) (p : Pa α) (V : α → Prop)
    (hok : ∀ (st : T_api_Bits) acc i (a : Nat), i < many → st = (b, (a : Int), 0, ()) → acc.length = i → SR b (.ok ((), a)) st → ∃ v st', Sim b V (p a) v st' ∧ ∀ J, F J (mk st acc i) = J (mk st' (acc ++ [v]) (i + 1)))
    (hbad : ∀ (st : T_api_Bits) acc i e (a : Int) J, st = (b, a, e, ()) → e ≠ 0 → F J (mk st acc i) = some (fin acc st))
    (hend : ∀ st acc J, F J (mk st acc many) = some (fin acc st)) {fuel : Nat} (hf : many < fuel) {β : Type} {V0 : β → Prop} {q : Except Int (β × Nat)} {x : β} {st : T_api_Bits} (h : Sim b V0 q x st) :
    ∃ acc st', iter F fuel (mk st [] 0) = some (fin acc st') ∧ Sim b (fun l => l.length ≤ many ∧ ∀ v ∈ l, V v) (nxt q (repP p many)) acc st' := by
  obtain ⟨acc, st', h1, h2⟩ := list_loop_aux mk fin many p V hok hbad hend many 0 fuel [] st _ (by omega) hf rfl (by simp) h.sr
  refine ⟨acc, st', h1, ?_⟩
  rw [nxt_sr] at h2
  simpa [Pa.map_id] using h2

theorem av1_list {b : List Int} (hb : Byt b) (hl : b.length < 100000000) {α : Type} {V : α → Prop} {q : Except Int (α × Nat)} {x : α} {st : T_api_Bits} (h : Sim b V q x st) (has : Bool) (many : Int) (h1 : 0 ≤ many) (h2 : many ≤ 100000) (n : Nat) (hn : n ≤ 32) :
    ∃ v st', P_av1_reader_list ((st, ()), has, many, (n : Int), ()) = some (v, (st', ()), ()) ∧ Sim b (fun l => l.length ≤ many.toNat ∧ ∀ v ∈ l, 0 ≤ v ∧ v < 2 ^ n) (nxt q (if has then repP (numP b n) many.toNat else pureP [])) v st' := by
  obtain ⟨m, rfl⟩ := Int.eq_ofNat_of_zero_le h1
  rw [E_av1_reader_list, N_av1_reader_list]
  cases has with
  | false => exact ⟨[], st, rfl, h.pure ⟨by simp, by simp⟩⟩
  | true =>
    simp only [Bool.not_true, Bool.false_eq_true, if_false, if_true, Int.toNat_natCast]
    obtain ⟨acc, st', h3, h4⟩ := list_loop (F := L_av1_reader_list_5 1000000) (b := b) (fun st acc i => (st.1, st.2.1, st.2.2.1, (m : Int), (n : Int), acc, (i : Int), ())) (fun acc st => (acc, (st, ()), ())) m (numP b n) (fun v => 0 ≤ v ∧ v < 2 ^ n)
      (fun st acc i a hi hst hal hs => by
        obtain ⟨v, st', e1, hs'⟩ := anumR hb hl hs n hn
        refine ⟨v, st', hs', fun J => ?_⟩
        subst hst
        simp only [L_av1_reader_list_5, lt_cast hi, if_true, e1, Option.bind_some, succ_cast (show i < 1000000 by omega)]
        rw [if_pos (by decide : ((0 : Int) == 0) = true), if_pos (decide_eq_true (by simp; omega))])
      (fun st acc i e a J hst he => by
        subst hst
        simp only [L_av1_reader_list_5, bif_and, beq_dec, decide_eq_false he, Bool.and_false, Bool.false_eq_true, if_false])
      (fun st acc J => by simp only [L_av1_reader_list_5, nlt_cast, Bool.false_eq_true, if_false]) (fuel := 1000000) (by omega) h
    exact ⟨acc, st', h3, h4⟩
theorem tlist1 {b : List Int} (hb : Byt b) (hl : b.length < 100000000) {α : Type} {V : α → Prop} {q : Except Int (α × Nat)} {x : α} {st : T_api_Bits} (h : Sim b V q x st) (many : Int) (h1 : 0 ≤ many) (h2 : many ≤ 100000) :
    ∃ v st', P_templ_reader_list__templ_reader_read_1 ((st, ()), many, (), ()) = some (v, (st', ()), ()) ∧ Sim b (fun l => l.length ≤ many.toNat ∧ ∀ v ∈ l, 0 ≤ v ∧ v < 2 ^ 2) (nxt q (repP (numP b 2) many.toNat)) v st' := by
  obtain ⟨m, rfl⟩ := Int.eq_ofNat_of_zero_le h1
  rw [E_templ_reader_list__templ_reader_read_1, N_templ_reader_list__templ_reader_read_1]
  obtain ⟨acc, st', h3, h4⟩ := list_loop (F := L_templ_reader_list__templ_reader_read_1_3 1000000) (b := b) (fun st acc i => (st.1, st.2.1, st.2.2.1, (m : Int), acc, (i : Int), ())) (fun acc st => (acc, (st, ()), ())) m (numP b 2) (fun v => 0 ≤ v ∧ v < 2 ^ 2)
      (fun st acc i a hi hst hal hs => by
        obtain ⟨v, st', e1, hs'⟩ := tnumR hb hl hs 2 (by omega)
        refine ⟨v, st', hs', fun J => ?_⟩
        have e0 := ok_sim hs
        subst hst
        have e1' : P_templ_reader_number (((b, (a : Int), (0 : Int), ()), ()), (2 : Int), ()) = some (v, (st', ()), ()) := e1
        simp only [L_templ_reader_list__templ_reader_read_1_3, lt_cast hi, if_true, e0, isOk, Option.bind_some, E_templ_reader_read_1, N_templ_reader_read_1, e1', succ_cast (show i < 1000000 by omega)]
        rw [if_pos (decide_eq_true (by simp; omega))])
      (fun st acc i e a J hst he => by
        subst hst
        have e0 := ok_sim (b := b) (V := fun _ : Unit => True) (q := .error e) (x := ()) (st := (b, a, e, ())) ⟨trivial, he, a, rfl⟩
        simp only [L_templ_reader_list__templ_reader_read_1_3, e0]
        split <;> simp [isOk])
      (fun st acc J => by simp [L_templ_reader_list__templ_reader_read_1_3]) (fuel := 1000000) (by omega) h
  exact ⟨acc, st', h3, h4⟩
theorem tlist2 {b : List Int} (hb : Byt b) (hl : b.length < 100000000) {α : Type} {V : α → Prop} {q : Except Int (α × Nat)} {x : α} {st : T_api_Bits} (h : Sim b V q x st) (many : Int) (h1 : 0 ≤ many) (h2 : many ≤ 100000) (n : Int) (hn1 : 1 ≤ n) (hn2 : n < 256) :
    ∃ v st', P_templ_reader_list__templ_reader_read_2 ((st, ()), many, ((n, ()), ()), ()) = some (v, (st', ()), ()) ∧ Sim b (fun l => l.length ≤ many.toNat ∧ ∀ v ∈ l, 0 ≤ v ∧ v < n) (nxt q (repP (rangeP b n.toNat) many.toNat)) v st' := by
  obtain ⟨m, rfl⟩ := Int.eq_ofNat_of_zero_le h1
  rw [E_templ_reader_list__templ_reader_read_2, N_templ_reader_list__templ_reader_read_2]
  obtain ⟨acc, st', h3, h4⟩ := list_loop (F := L_templ_reader_list__templ_reader_read_2_3 1000000) (b := b) (fun st acc i => (st.1, st.2.1, st.2.2.1, n, (m : Int), acc, (i : Int), ())) (fun acc st => (acc, (st, ()), ())) m (rangeP b n.toNat) (fun v => 0 ≤ v ∧ v < n)
      (fun st acc i a hi hst hal hs => by
        obtain ⟨v, st', e1, hs'⟩ := trangR hb hl hs n hn1 hn2
        refine ⟨v, st', hs', fun J => ?_⟩
        have e0 := ok_sim hs
        subst hst
        simp only [L_templ_reader_list__templ_reader_read_2_3, lt_cast hi, if_true, e0, isOk, Option.bind_some, E_templ_reader_read_2, N_templ_reader_read_2, e1, succ_cast (show i < 1000000 by omega)]
        rw [if_pos (decide_eq_true (by simp; omega))])
      (fun st acc i e a J hst he => by
        subst hst
        have e0 := ok_sim (b := b) (V := fun _ : Unit => True) (q := .error e) (x := ()) (st := (b, a, e, ())) ⟨trivial, he, a, rfl⟩
        simp only [L_templ_reader_list__templ_reader_read_2_3, e0]
        split <;> simp [isOk])
      (fun st acc J => by simp [L_templ_reader_list__templ_reader_read_2_3]) (fuel := 1000000) (by omega) h
  exact ⟨acc, st', h3, h4⟩
theorem tlist3 {b : List Int} (hb : Byt b) (hl : b.length < 100000000) {α : Type} {V : α → Prop} {q : Except Int (α × Nat)} {x : α} {st : T_api_Bits} (h : Sim b V q x st) (many : Int) (h1 : 0 ≤ many) (h2 : many ≤ 100000) :
    ∃ v st', P_templ_reader_list__templ_reader_read_3 ((st, ()), many, (), ()) = some (v, (st', ()), ()) ∧ Sim b (fun l => l.length ≤ many.toNat ∧ ∀ v ∈ l, 0 ≤ v ∧ v < 2 ^ 4) (nxt q (repP (numP b 4) many.toNat)) v st' := by
  obtain ⟨m, rfl⟩ := Int.eq_ofNat_of_zero_le h1
  rw [E_templ_reader_list__templ_reader_read_3, N_templ_reader_list__templ_reader_read_3]
  obtain ⟨acc, st', h3, h4⟩ := list_loop (F := L_templ_reader_list__templ_reader_read_3_3 1000000) (b := b) (fun st acc i => (st.1, st.2.1, st.2.2.1, (m : Int), acc, (i : Int), ())) (fun acc st => (acc, (st, ()), ())) m (numP b 4) (fun v => 0 ≤ v ∧ v < 2 ^ 4)
      (fun st acc i a hi hst hal hs => by
        obtain ⟨v, st', e1, hs'⟩ := tnumR hb hl hs 4 (by omega)
        refine ⟨v, st', hs', fun J => ?_⟩
        have e0 := ok_sim hs
        subst hst
        have e1' : P_templ_reader_number (((b, (a : Int), (0 : Int), ()), ()), (4 : Int), ()) = some (v, (st', ()), ()) := e1
        simp only [L_templ_reader_list__templ_reader_read_3_3, lt_cast hi, if_true, e0, isOk, Option.bind_some, E_templ_reader_read_3, N_templ_reader_read_3, e1', succ_cast (show i < 1000000 by omega)]
        rw [if_pos (decide_eq_true (by simp; omega))])
      (fun st acc i e a J hst he => by
        subst hst
        have e0 := ok_sim (b := b) (V := fun _ : Unit => True) (q := .error e) (x := ()) (st := (b, a, e, ())) ⟨trivial, he, a, rfl⟩
        simp only [L_templ_reader_list__templ_reader_read_3_3, e0]
        split <;> simp [isOk])
      (fun st acc J => by simp [L_templ_reader_list__templ_reader_read_3_3]) (fuel := 1000000) (by omega) h
  exact ⟨acc, st', h3, h4⟩
end Go.Proofs.Try.Eng


set_option linter.unusedVariables false
set_option linter.unusedSimpArgs false
namespace Go.Proofs.Try.Eng
open Go Go.Eng

def difP (b : List Int) : Nat → Pa (List Int)
  | 0 => (numP b 1).bind fun g => if g = 1 then failP 6 else pureP []
  | k + 1 => (numP b 1).bind fun g => if g = 1 then (numP b 4).bind fun v => (difP b k).map ((v + 1) :: ·) else pureP []
def layP (b : List Int) : Nat → Int → Int → Pa (List Tm)
  | 0, sid, tid => (numP b 2).bind fun how => if how = 3 then pureP [] else failP 6
  | k + 1, sid, tid => (numP b 2).bind fun how => if how = 3 then pureP [] else
    if (if how = 2 then sid + 1 else sid) > 3 ∨ (if how = 1 then tid + 1 else if how = 2 then 0 else tid) > 7 then failP 6 else
      (layP b k (if how = 2 then sid + 1 else sid) (if how = 1 then tid + 1 else if how = 2 then 0 else tid)).map (((if how = 2 then sid + 1 else sid), (if how = 1 then tid + 1 else if how = 2 then 0 else tid), [], [], [], ()) :: ·)
def fillP (f : Tm → Pa Tm) : List Tm → Pa (List Tm)
  | [] => pureP []
  | t :: r => (f t).bind fun t' => (fillP f r).map (t' :: ·)

theorem tdiffs_aux {b : List Int} (hb : Byt b) (hl : b.length < 100000000) : ∀ (k fuel : Nat) (acc : List Int) (st : T_api_Bits) (q : Except Int (Unit × Nat)), acc.length + k = 16 → k < fuel → (∀ v ∈ acc, 1 ≤ v ∧ v ≤ 16) → SR b q st →
    ∃ acc' st', iter (L_templ_reader_diffs_2 1000000) fuel (st.1, st.2.1, st.2.2.1, acc, ()) = some (acc', (st', ()), ()) ∧ Sim b (fun l => l.length ≤ 16 ∧ ∀ v ∈ l, 1 ≤ v ∧ v ≤ 16) (nxt q ((difP b k).map (acc ++ ·))) acc' st'
  | k, 0, _, _, _, _, h, _, _ => by omega
  | k, n + 1, acc, st, q, hk, hf, hv, h => by
    rw [iter_step]
    obtain ⟨g, st1, e1, h1⟩ := tnumR hb hl h 1 (by omega)
    have e1' : P_templ_reader_number (((st.1, st.2.1, st.2.2.1, ()), ()), (1 : Int), ()) = some (g, (st1, ()), ()) := e1
    simp only [L_templ_reader_diffs_2, e1', Option.bind_some, beq_dec]
    by_cases hg : g = 1
    · subst hg
      rw [decide_eq_true rfl, if_pos rfl]
      cases k with
      | zero =>
        obtain ⟨st2, e2, h2⟩ := wrong_sim h1
        rw [decide_eq_true (by omega), if_pos rfl, e2, Option.bind_some]
        refine ⟨[], st2, rfl, ?_⟩
        have e3 := h1.nxt_bind (fun g => ((if g = 1 then failP 6 else pureP [] : Pa (List Int))).map (acc ++ ·))
        simp only [difP, Pa.bind_map, e3, if_true]
        have := h2 (List Int) (fun l => l.length ≤ 16 ∧ ∀ v ∈ l, 1 ≤ v ∧ v ≤ 16) [] ⟨by simp, by simp⟩
        have e4 : (failP 6 : Pa (List Int)).map (acc ++ ·) = failP 6 := rfl
        rw [e4]
        exact this
      | succ k =>
        obtain ⟨v, st2, e2, h2⟩ := tnumR hb hl h1 4 (by omega)
        have e2' : P_templ_reader_number ((st1, ()), (4 : Int), ()) = some (v, (st2, ()), ()) := e2
        have hvr := h2.1
        have p4 : (2 : Int) ^ 4 = 16 := by decide
        rw [decide_eq_false (by omega), if_neg (by decide), e2', Option.bind_some]
        simp only [wrap64 (n := v + 1) (by omega) (by omega)]
        rw [if_pos (decide_eq_true (by simp; omega))]
        obtain ⟨acc', st3, e3, h3⟩ := tdiffs_aux hb hl k n (acc ++ [v + 1]) st2 (nxt (nxt (nxt q (numP b 1)) (numP b 4)) (pureP ())) (by simp; omega) (by omega) (by
          intro w hw
          rcases List.mem_append.1 hw with h | h
          · exact hv w h
          · simp only [List.mem_singleton] at h; subst h; omega) h2.sr
        refine ⟨acc', st3, e3, ?_⟩
        have e4 := h1.nxt_bind (fun g => ((if g = 1 then (numP b 4).bind fun v => (difP b k).map ((v + 1) :: ·) else pureP [] : Pa (List Int))).map (acc ++ ·))
        simp only [difP, Pa.bind_map, e4, if_true]
        rw [h2.nxt_bind]
        rw [nxt_sr] at h3
        simp only [Pa.map_map] at h3 ⊢
        have e5 : ((fun x => acc ++ x) ∘ fun x => (v + 1) :: x) = (acc ++ [v + 1] ++ ·) := by funext l; simp
        rw [e5]
        exact h3
    · rw [decide_eq_false hg, if_neg (by decide)]
      refine ⟨acc, st1, rfl, ?_⟩
      have e4 : nxt q ((difP b k).map (acc ++ ·)) = nxt (nxt q (numP b 1)) ((pureP [] : Pa (List Int)).map (acc ++ ·)) := by
        cases k with
        | zero =>
          have e3 := h1.nxt_bind (fun g => ((if g = 1 then failP 6 else pureP [] : Pa (List Int))).map (acc ++ ·))
          simp only [difP, Pa.bind_map, e3, if_neg hg]
        | succ k =>
          have e4 := h1.nxt_bind (fun g => ((if g = 1 then (numP b 4).bind fun v => (difP b k).map ((v + 1) :: ·) else pureP [] : Pa (List Int))).map (acc ++ ·))
          simp only [difP, Pa.bind_map, e4, if_neg hg]
      rw [e4]
      have e5 : (pureP [] : Pa (List Int)).map (acc ++ ·) = pureP acc := by
        funext a; simp [Pa.map, pureP]
      rw [e5]
      exact h1.pure ⟨by omega, hv⟩
theorem tdiffs {b : List Int} (hb : Byt b) (hl : b.length < 100000000) {α : Type} {V : α → Prop} {q : Except Int (α × Nat)} {x : α} {st : T_api_Bits} (h : Sim b V q x st) :
    ∃ v st', P_templ_reader_diffs ((st, ()), ()) = some (v, (st', ()), ()) ∧ Sim b (fun l => l.length ≤ 16 ∧ ∀ v ∈ l, 1 ≤ v ∧ v ≤ 16) (nxt q (difP b 16)) v st' := by
  rw [E_templ_reader_diffs, N_templ_reader_diffs]
  obtain ⟨acc, st', e1, h1⟩ := tdiffs_aux hb hl 16 1000000 [] st _ rfl (by omega) (by simp) h.sr
  refine ⟨acc, st', e1, ?_⟩
  rw [nxt_sr] at h1
  simpa [Pa.map_id] using h1

/-- what stands in templates' list while it is read -/
structure LV (ts : List Tm) : Prop where
  n : 1 ≤ ts.length ∧ ts.length ≤ 64
  s : ∀ t ∈ ts, (0 ≤ t.1 ∧ t.1 ≤ 3) ∧ (0 ≤ t.2.1 ∧ t.2.1 ≤ 7)
theorem tlay_aux {b : List Int} (hb : Byt b) (hl : b.length < 100000000) : ∀ (k fuel : Nat) (acc : List Tm) (sid tid : Int) (st : T_api_Bits) (q : Except Int (Unit × Nat)), acc.length + 1 + k = 64 → k < fuel → LV (acc ++ [(sid, tid, [], [], [], ())]) → SR b q st →
    ∃ acc' st', iter (L_templ_reader_layers_2 1000000) fuel (st.1, st.2.1, st.2.2.1, acc ++ [(sid, tid, [], [], [], ())], ()) = some (acc', (st', ()), ()) ∧ Sim b LV (nxt q ((layP b k sid tid).map ((acc ++ [(sid, tid, [], [], [], ())]) ++ ·))) acc' st'
  | k, 0, _, _, _, _, _, _, h, _, _ => by omega
  | k, n + 1, acc, sid, tid, st, q, hk, hf, hv, h => by
    rw [iter_step]
    obtain ⟨g, st1, e1, h1⟩ := tnumR hb hl h 2 (by omega)
    have e1' : P_templ_reader_number (((st.1, st.2.1, st.2.2.1, ()), ()), (2 : Int), ()) = some (g, (st1, ()), ()) := e1
    have hst := hv.s (sid, tid, [], [], [], ()) (by simp)
    simp only at hst
    have hg := h1.1
    have p2 : (2 : Int) ^ 2 = 4 := by decide
    have hlen : (acc ++ [((sid, tid, [], [], [], ()) : Tm)]).length = acc.length + 1 := by simp
    have w1 : IntKind.i64.wrap (((acc.length + 1 : Nat) : Int) - 1) = ((acc.length : Nat) : Int) := by rw [wrap64 (by omega) (by omega)]; omega
    have hget : (acc ++ [((sid, tid, [], [], [], ()) : Tm)]).getD acc.length (0, 0, [], [], [], ()) = (sid, tid, [], [], [], ()) := by simp [List.getD]
    simp only [L_templ_reader_layers_2, e1', Option.bind_some, beq_dec, hlen, w1, Int.toNat_natCast, hget, wrap64 (n := sid + 1) (by omega) (by omega), wrap64 (n := tid + 1) (by omega) (by omega)]
    rw [decide_eq_true (show 0 ≤ ((acc.length : Nat) : Int) ∧ ((acc.length : Nat) : Int) < ((acc.length + 1 : Nat) : Int) by omega), if_pos rfl, if_pos rfl]
    generalize hs' : (if g = 2 then sid + 1 else sid) = s'
    generalize ht' : (if g = 1 then tid + 1 else if g = 2 then 0 else tid) = t'
    have key : ∀ (K : (List (Int)) × Int × Int × Int × Int × (List (Int)) × (List (Int)) × (List (Int)) × (List (T_api_Template)) × Int × Unit → Option ((List (T_api_Template)) × (T_api_Bits × Unit) × Unit)),
        ((if decide (g = 1) = true then some (st1.1, st1.2.1, st1.2.2.1, sid, tid + 1, ([] : List Int), ([] : List Int), ([] : List Int), acc ++ [(sid, tid, [], [], [], ())], g, ()) else
          (if decide (g = 2) = true then some (st1.1, st1.2.1, st1.2.2.1, sid + 1, (0 : Int), ([] : List Int), ([] : List Int), ([] : List Int), acc ++ [(sid, tid, [], [], [], ())], g, ()) else
            some (st1.1, st1.2.1, st1.2.2.1, sid, tid, ([] : List Int), ([] : List Int), ([] : List Int), acc ++ [(sid, tid, [], [], [], ())], g, ())).bind fun d3 => some d3).bind K) =
        K (st1.1, st1.2.1, st1.2.2.1, s', t', ([] : List Int), ([] : List Int), ([] : List Int), acc ++ [(sid, tid, [], [], [], ())], g, ()) := by
      intro K
      rw [← hs', ← ht']
      by_cases g1 : g = 1
      · subst g1; rfl
      · by_cases g2 : g = 2
        · subst g2; rfl
        · simp [g1, g2]
    refine (show ∃ acc' st', (Option.bind _ _) = some (acc', (st', ()), ()) ∧ _ from ?_)
    rw [key]
    simp only [hlen]
    have hok : ∀ (st1 : T_api_Bits), (((st1.1, st1.2.1, st1.2.2.1, ()), ()) : T_api_Bits × Unit) = (st1, ()) := fun _ => rfl
    rw [hok, ok_sim h1]
    by_cases g3 : g = 3
    · subst g3
      simp only [decide_true, Bool.not_true, Bool.false_eq_true, if_false, Option.bind_some, if_true, hok]
      refine ⟨_, st1, rfl, ?_⟩
      have e4 : nxt q ((layP b k sid tid).map ((acc ++ [(sid, tid, [], [], [], ())]) ++ ·)) = nxt (nxt q (numP b 2)) (pureP (acc ++ [(sid, tid, [], [], [], ())])) := by
        have e5 : ∀ l : List Tm, (pureP [] : Pa (List Tm)).map (l ++ ·) = pureP l := by
          intro l; funext a; simp [Pa.map, pureP]
        cases k with
        | zero => simp only [layP, Pa.bind_map, h1.nxt_bind, if_true, e5]
        | succ k => simp only [layP, Pa.bind_map, h1.nxt_bind, if_true, e5]
      rw [e4]
      exact h1.pure hv
    · simp only [decide_eq_false g3, Bool.not_false, if_true, Option.bind_some, Bool.false_eq_true, if_false]
      cases hq : nxt q (numP b 2) with
      | error e =>
        simp only [isOk, Bool.not_false, if_true]
        refine ⟨_, st1, rfl, ?_⟩
        have e4 : nxt q ((layP b k sid tid).map ((acc ++ [(sid, tid, [], [], [], ())]) ++ ·)) = .error e := by
          cases k with
          | zero => simp only [layP, Pa.bind_map, h1.nxt_bind, hq]; rfl
          | succ k => simp only [layP, Pa.bind_map, h1.nxt_bind, hq]; rfl
        rw [e4]
        rw [hq] at h1
        exact ⟨hv, h1.2⟩
      | ok z =>
        simp only [isOk, Bool.not_true, Bool.false_eq_true, if_false, bif_or]
        have hs'b : 0 ≤ s' := by rw [← hs']; split <;> omega
        have ht'b : 0 ≤ t' := by
          rw [← ht']
          split
          · omega
          · split <;> omega
        obtain ⟨st2, e2, h2⟩ := wrong_sim h1
        have bad : ∀ {p : Pa (List Tm)}, p = failP 6 → Sim b LV (nxt (nxt q (numP b 2)) (p.map ((acc ++ [(sid, tid, [], [], [], ())]) ++ ·))) (acc ++ [(sid, tid, [], [], [], ())]) st2 := by
          rintro p rfl
          exact h2 _ _ _ hv
        cases k with
        | zero =>
          rw [decide_eq_true (show ((acc.length + 1 : Nat) : Int) = 64 by omega), Bool.or_true, if_pos rfl, e2, Option.bind_some]
          refine ⟨_, st2, rfl, ?_⟩
          simp only [layP, Pa.bind_map, h1.nxt_bind, if_neg g3]
          exact bad rfl
        | succ k =>
          rw [decide_eq_false (show ¬ ((acc.length + 1 : Nat) : Int) = 64 by omega), Bool.or_false]
          simp only [layP, Pa.bind_map, h1.nxt_bind, if_neg g3, hs', ht']
          by_cases hc : s' > 3 ∨ t' > 7
          · rw [if_pos hc, if_pos (by simpa using hc), e2, Option.bind_some]
            exact ⟨_, st2, rfl, bad rfl⟩
          · rw [if_neg hc, if_neg (by simpa using hc), if_pos (decide_eq_true (by simp; omega))]
            have hv' : LV (acc ++ [(sid, tid, [], [], [], ())] ++ [(s', t', [], [], [], ())]) := by
              refine ⟨by simp; omega, fun t ht => ?_⟩
              rcases List.mem_append.1 ht with h | h
              · exact hv.s t h
              · simp only [List.mem_singleton] at h; subst h; simp only []; omega
            obtain ⟨acc', st3, e3, h3⟩ := tlay_aux hb hl k n (acc ++ [(sid, tid, [], [], [], ())]) s' t' st1 (nxt (nxt q (numP b 2)) (pureP ())) (by simp; omega) (by omega) hv' h1.sr
            refine ⟨acc', st3, e3, ?_⟩
            rw [nxt_sr] at h3
            rw [Pa.map_map]
            have e5 : ((fun x => acc ++ [((sid, tid, [], [], [], ()) : Tm)] ++ x) ∘ fun x => (s', t', [], [], [], ()) :: x) = (acc ++ [(sid, tid, [], [], [], ())] ++ [(s', t', [], [], [], ())] ++ ·) := by funext l; simp
            rw [e5]
            exact h3
theorem tlay {b : List Int} (hb : Byt b) (hl : b.length < 100000000) {α : Type} {V : α → Prop} {q : Except Int (α × Nat)} {x : α} {st : T_api_Bits} (h : Sim b V q x st) :
    ∃ v st', P_templ_reader_layers ((st, ()), ()) = some (v, (st', ()), ()) ∧ Sim b LV (nxt q ((layP b 63 0 0).map (zT :: ·))) v st' := by
  rw [E_templ_reader_layers, N_templ_reader_layers]
  obtain ⟨acc, st', e1, h1⟩ := tlay_aux hb hl 63 1000000 [] 0 0 st _ rfl (by omega) ⟨by simp, by simp⟩ h.sr
  refine ⟨acc, st', e1, ?_⟩
  rw [nxt_sr] at h1
  exact h1
end Go.Proofs.Try.Eng


set_option linter.unusedVariables false
set_option linter.unusedSimpArgs false
namespace Go.Proofs.Try.Eng
open Go Go.Eng

/-- a list of so many, whatever happens; then on -/
theorem list_loopT_aux {α D R : Type} {b : List Int} {F : (D → Option R) → D → Option R} (mk : T_api_Bits → List α → Nat → D) (many : Nat) (p : Pa α) (V : α → Prop)
    (hok : ∀ (st : T_api_Bits) acc i (q : Except Int (Unit × Nat)), i < many → acc.length = i → SR b q st → ∃ v st', Sim b V (nxt q p) v st' ∧ ∀ J, F J (mk st acc i) = J (mk st' (acc ++ [v]) (i + 1))) :
    ∀ (k i fuel : Nat) (acc : List α) (st : T_api_Bits) (q : Except Int (Unit × Nat)), i + k = many → k < fuel → acc.length = i → (∀ v ∈ acc, V v) → SR b q st →
    ∃ acc' st' J, iter F fuel (mk st acc i) = F J (mk st' acc' many) ∧ Sim b (fun l => l.length = many ∧ ∀ v ∈ l, V v) (nxt q ((repP p k).map (acc ++ ·))) acc' st'
  | k, i, 0, _, _, _, _, h, _, _, _ => by omega
  | 0, i, n + 1, acc, st, q, hi, _, hal, hv, h => by
    have : i = many := by omega
    subst this
    rw [iter_step]
    refine ⟨acc, st, _, rfl, ⟨hal, hv⟩, ?_⟩
    obtain ⟨_, h⟩ := h
    cases q with
    | error e => exact h
    | ok y => obtain ⟨y, a⟩ := y; exact ⟨by simp, h.2⟩
  | k + 1, i, n + 1, acc, st, q, hi, hf, hal, hv, h => by
    rw [iter_step]
    obtain ⟨v, st', h1, h2⟩ := hok st acc i q (by omega) hal h
    rw [h2]
    obtain ⟨acc', st2, J, h3, h4⟩ := list_loopT_aux mk many p V hok k (i + 1) n (acc ++ [v]) st' (nxt (nxt q p) (pureP ())) (by omega) (by omega) (by simp [hal]) (by
      intro w hw
      rcases List.mem_append.1 hw with h | h
      · exact hv w h
      · simp only [List.mem_singleton] at h; subst h; exact h1.1) h1.sr
    refine ⟨acc', st2, J, h3, ?_⟩
    rw [repP_map_succ, h1.nxt_bind]
    rw [nxt_sr] at h4
    exact h4
theorem list_loopT {α D R : Type} {b : List Int} {F : (D → Option R) → D → Option R} (mk : T_api_Bits → List α → Nat → D) (many : Nat) (p : Pa α) (V : α → Prop)
    (hok : ∀ (st : T_api_Bits) acc i (q : Except Int (Unit × Nat)), i < many → acc.length = i → SR b q st → ∃ v st', Sim b V (nxt q p) v st' ∧ ∀ J, F J (mk st acc i) = J (mk st' (acc ++ [v]) (i + 1)))
    {fuel : Nat} (hf : many < fuel) {β : Type} {V0 : β → Prop} {q : Except Int (β × Nat)} {x : β} {st : T_api_Bits} (h : Sim b V0 q x st) :
    ∃ acc st' J, iter F fuel (mk st [] 0) = F J (mk st' acc many) ∧ Sim b (fun l => l.length = many ∧ ∀ v ∈ l, V v) (nxt q (repP p many)) acc st' := by
  obtain ⟨acc, st', J, h1, h2⟩ := list_loopT_aux mk many p V hok many 0 fuel [] st _ (by omega) hf rfl (by simp) h.sr
  refine ⟨acc, st', J, h1, ?_⟩
  rw [nxt_sr] at h2
  simpa [Pa.map_id] using h2

/-- each of a list of templates -/
theorem fill_loop_aux {D R : Type} {b : List Int} {F : (D → Option R) → D → Option R} (mk : T_api_Bits → List Tm → Nat → D) (n : Nat) (f : Tm → Pa Tm) (W : Tm → Prop)
    (hok : ∀ (st : T_api_Bits) (ts : List Tm) i (q : Except Int (Unit × Nat)), i < n → ts.length = n → W (ts.getD i zT) → SR b q st → ∃ t' st', Sim b W (nxt q (f (ts.getD i zT))) t' st' ∧ ∀ J, F J (mk st ts i) = J (mk st' (ts.set i t') (i + 1))) :
    ∀ (k i fuel : Nat) (ts : List Tm) (st : T_api_Bits) (q : Except Int (Unit × Nat)), i + k = n → k < fuel → ts.length = n → (∀ t ∈ ts, W t) → SR b q st →
    ∃ ts' st' J, iter F fuel (mk st ts i) = F J (mk st' ts' n) ∧ Sim b (fun l => l.length = n ∧ ∀ t ∈ l, W t) (nxt q ((fillP f (ts.drop i)).map (ts.take i ++ ·))) ts' st'
  | k, i, 0, _, _, _, _, h, _, _, _ => by omega
  | 0, i, m + 1, ts, st, q, hi, _, hn, hv, h => by
    have : i = n := by omega
    subst this
    rw [iter_step]
    refine ⟨ts, st, _, rfl, ⟨hn, hv⟩, ?_⟩
    rw [List.drop_of_length_le (by omega), List.take_of_length_le (by omega)]
    obtain ⟨_, h⟩ := h
    cases q with
    | error e => exact h
    | ok y => obtain ⟨y, a⟩ := y; exact ⟨by simp, h.2⟩
  | k + 1, i, m + 1, ts, st, q, hi, hf, hn, hv, h => by
    rw [iter_step]
    have hlt : i < ts.length := by omega
    obtain ⟨t', st', h1, h2⟩ := hok st ts i q (by omega) hn (hv _ (getD_mem hlt)) h
    rw [h2]
    obtain ⟨ts', st2, J, h3, h4⟩ := fill_loop_aux mk n f W hok k (i + 1) m (ts.set i t') st' (nxt (nxt q (f (ts.getD i zT))) (pureP ())) (by omega) (by omega) (by simp [hn]) (by
      intro w hw
      rcases List.mem_or_eq_of_mem_set hw with h | h
      · exact hv w h
      · subst h; exact h1.1) h1.sr
    refine ⟨ts', st2, J, h3, ?_⟩
    rw [nxt_sr, List.drop_set_of_lt (by omega)] at h4
    have e1 : ts.drop i = ts.getD i zT :: ts.drop (i + 1) := by
      rw [List.drop_eq_getElem_cons hlt, List.getD_eq_getElem?_getD, List.getElem?_eq_getElem hlt, Option.getD_some]
    have e2 : (ts.set i t').take (i + 1) = ts.take i ++ [t'] := by
      rw [List.take_succ_eq_append_getElem (by simpa using hlt)]
      simp [List.take_set_of_le]
    rw [e1]
    simp only [fillP, Pa.bind_map, h1.nxt_bind, Pa.map_map]
    rw [e2] at h4
    have e3 : ((fun x => List.take i ts ++ x) ∘ fun x => t' :: x) = (List.take i ts ++ [t'] ++ ·) := by funext l; simp
    rw [e3]
    exact h4
theorem fill_loop {D R : Type} {b : List Int} {F : (D → Option R) → D → Option R} (mk : T_api_Bits → List Tm → Nat → D) (f : Tm → Pa Tm) (W : Tm → Prop) (ts : List Tm) (hW : ∀ t ∈ ts, W t)
    (hok : ∀ (st : T_api_Bits) (ts' : List Tm) i (q : Except Int (Unit × Nat)), i < ts.length → ts'.length = ts.length → W (ts'.getD i zT) → SR b q st → ∃ t' st', Sim b W (nxt q (f (ts'.getD i zT))) t' st' ∧ ∀ J, F J (mk st ts' i) = J (mk st' (ts'.set i t') (i + 1)))
    {fuel : Nat} (hf : ts.length < fuel) {β : Type} {V0 : β → Prop} {q : Except Int (β × Nat)} {x : β} {st : T_api_Bits} (h : Sim b V0 q x st) :
    ∃ ts' st' J, iter F fuel (mk st ts 0) = F J (mk st' ts' ts.length) ∧ Sim b (fun l => l.length = ts.length ∧ ∀ t ∈ l, W t) (nxt q (fillP f ts)) ts' st' := by
  obtain ⟨acc, st', J, h1, h2⟩ := fill_loop_aux mk ts.length f W hok ts.length 0 fuel ts st _ (by omega) hf rfl hW h.sr
  refine ⟨acc, st', J, h1, ?_⟩
  rw [nxt_sr] at h2
  simpa [Pa.map_id] using h2

def setM (t : Tm) (l : List Int) : Tm := (t.1, t.2.1, l, t.2.2.2.1, t.2.2.2.2.1, ())
def setD (t : Tm) (l : List Int) : Tm := (t.1, t.2.1, t.2.2.1, l, t.2.2.2.2.1, ())
def setC (t : Tm) (l : List Int) : Tm := (t.1, t.2.1, t.2.2.1, t.2.2.2.1, l, ())
def sizeP (b : List Int) : Pa T_api_Size := (numP b 16).bind fun w => (numP b 16).map fun h => (w + 1, h + 1, ())
def structP (b : List Int) : Pa St :=
  (numP b 6).bind fun id => (numP b 5).bind fun tg => ((layP b 63 0 0).map (zT :: ·)).bind fun ts0 =>
  (fillP (fun t => (repP (numP b 2) (tg + 1).toNat).map (setM t)) ts0).bind fun ts1 => (fillP (fun t => (difP b 16).map (setD t)) ts1).bind fun ts2 =>
  (rangeP b (tg + 2).toNat).bind fun ch => (if ch > 0 then repP (rangeP b ch.toNat) (tg + 1).toNat else pureP []).bind fun pr =>
  (fillP (fun t => (repP (numP b 4) ch.toNat).map (setC t)) ts2).bind fun ts3 => (numP b 1).bind fun z =>
  (if z = 1 then repP (sizeP b) ((ts3.getD (ts3.length - 1) zT).1 + 1).toNat else pureP []).bind fun zs => pureP (id, tg + 1, ch, pr, ts3, zs, ())

def WT (t : Tm) : Prop := 0 ≤ t.1 ∧ t.1 ≤ 3
theorem templ_read {b : List Int} (hb : Byt b) (hl : b.length < 100000000) {α : Type} {V : α → Prop} {q : Except Int (α × Nat)} {x : α} {st : T_api_Bits} (h : Sim b V q x st) :
    ∃ v st', P_templ_reader_read ((st, ()), ()) = some (v, (st', ()), ()) ∧ Sim b (fun _ => True) (nxt q (structP b)) v st' := by
  rw [E_templ_reader_read, N_templ_reader_read]
  obtain ⟨id, st1, e1, h1⟩ := tnumR hb hl h 6 (by omega)
  obtain ⟨tg, st2, e2, h2⟩ := tnumR hb hl h1 5 (by omega)
  obtain ⟨ts0, st3, e3, h3⟩ := tlay hb hl h2
  have e1' : P_templ_reader_number ((st, ()), (6 : Int), ()) = some (id, (st1, ()), ()) := e1
  have e2' : P_templ_reader_number ((st1, ()), (5 : Int), ()) = some (tg, (st2, ()), ()) := e2
  have htg := h2.1
  have p5 : (2 : Int) ^ 5 = 32 := by decide
  have hts := h3.1
  have h64 := hts.n
  simp only [e1', e2', e3, Option.bind_some, wrap64 (n := tg + 1) (by omega) (by omega)]
  unfold structP
  rw [h1.nxt_bind, h2.nxt_bind, h3.nxt_bind]
  generalize hq3 : nxt (nxt (nxt q (numP b 6)) (numP b 5)) ((layP b 63 0 0).map (zT :: ·)) = q3 at h3
  clear hq3 e1 e2 e3 e1' e2' h1 h2 h
  -- marks
  obtain ⟨ts1, st4, J1, f1, h4⟩ := fill_loop (F := L_templ_reader_read_5 1000000) (b := b) (fun st ts i => (st.1, st.2.1, st.2.2.1, (0 : Int), (0 : Int), (0 : Int), id, tg + 1, (0 : Int), ts, (ts0.length : Int), (i : Int), ())) (fun t => (repP (numP b 2) (tg + 1).toNat).map (setM t)) WT ts0 (fun t ht => (hts.s t ht).1)
    (fun st ts i q hi hn hw hs => by
      obtain ⟨l, st', e, hs'⟩ := tlist1 hb hl hs (tg + 1) (by omega) (by omega)
      refine ⟨setM (ts.getD i zT) l, st', hs'.map _ hw, fun J => ?_⟩
      have hok : (((st.1, st.2.1, st.2.2.1, ()), ()) : T_api_Bits × Unit) = (st, ()) := rfl
      simp only [L_templ_reader_read_5, lt_cast hi, if_true, hok, e, Option.bind_some, Int.toNat_natCast, zT_eq, succ_cast (show i < 1000000 by omega)]
      rw [decide_eq_true (by omega), if_pos rfl]
      rfl) (fuel := 1000000) (by omega) h3
  refine (show ∃ v st', iter (L_templ_reader_read_5 1000000) 1000000 (st3.1, st3.2.1, st3.2.2.1, (0 : Int), (0 : Int), (0 : Int), id, tg + 1, (0 : Int), ts0, (ts0.length : Int), ((0 : Nat) : Int), ()) = some (v, (st', ()), ()) ∧ _ from ?_)
  rw [f1]
  have hn1 := h4.1.1
  simp only [L_templ_reader_read_5, nlt_cast, Bool.false_eq_true, if_false]
  rw [h4.nxt_bind]
  generalize hq4 : nxt q3 (fillP (fun t => (repP (numP b 2) (tg + 1).toNat).map (setM t)) ts0) = q4 at h4
  clear hq4 f1
  -- diffs
  obtain ⟨ts2, st5, J2, f2, h5⟩ := fill_loop (F := L_templ_reader_read_10 1000000) (b := b) (fun st ts i => (st.1, st.2.1, st.2.2.1, (0 : Int), (0 : Int), (0 : Int), id, tg + 1, (0 : Int), ts, (ts1.length : Int), (i : Int), ())) (fun t => (difP b 16).map (setD t)) WT ts1 h4.1.2
    (fun st ts i q hi hn hw hs => by
      obtain ⟨l, st', e, hs'⟩ := tdiffs hb hl hs
      refine ⟨setD (ts.getD i zT) l, st', hs'.map _ hw, fun J => ?_⟩
      have hok : (((st.1, st.2.1, st.2.2.1, ()), ()) : T_api_Bits × Unit) = (st, ()) := rfl
      simp only [L_templ_reader_read_10, lt_cast hi, if_true, hok, e, Option.bind_some, Int.toNat_natCast, zT_eq, succ_cast (show i < 1000000 by omega)]
      rw [decide_eq_true (by omega), if_pos rfl]
      rfl) (fuel := 1000000) (by omega) h4
  refine (show ∃ v st', iter (L_templ_reader_read_10 1000000) 1000000 (st4.1, st4.2.1, st4.2.2.1, (0 : Int), (0 : Int), (0 : Int), id, tg + 1, (0 : Int), ts1, (ts1.length : Int), ((0 : Nat) : Int), ()) = some (v, (st', ()), ()) ∧ _ from ?_)
  rw [f2]
  have hn2 := h5.1.1
  obtain ⟨ch, st6, e6, h6⟩ := trangR hb hl h5 (tg + 2) (by omega) (by omega)
  have hch := h6.1
  have hok : (((st5.1, st5.2.1, st5.2.2.1, ()), ()) : T_api_Bits × Unit) = (st5, ()) := rfl
  simp only [L_templ_reader_read_10, nlt_cast, Bool.false_eq_true, if_false, wrap64 (n := tg + 1 + 1) (by omega) (by omega), hok]
  rw [show tg + 1 + 1 = tg + 2 by omega, e6, h5.nxt_bind, h6.nxt_bind]
  simp only [Option.bind_some]
  generalize hq6 : nxt (nxt q4 (fillP (fun t => (difP b 16).map (setD t)) ts1)) (rangeP b (tg + 2).toNat) = q6 at h6
  clear hq6 f2 e6
  -- chains of targets
  obtain ⟨pr, st7, e7, h7⟩ : ∃ pr st7, (∀ K : ((List (Int)) × Int × Int × Int × Int × Int × Int × Int × Int × (List (Int)) × (List (T_api_Template)) × Unit) → Option (T_api_Structure × (T_api_Bits × Unit) × Unit),
      (if decide (ch > 0) = true then (P_templ_reader_list__templ_reader_read_2 ((st6, ()), tg + 1, ((ch, ()), ()), ())).bind fun (r8 : (List (Int)) × (T_api_Bits × Unit) × Unit) => some (r8.2.1.1.1, r8.2.1.1.2.1, r8.2.1.1.2.2.1, (0 : Int), (0 : Int), (0 : Int), id, tg + 1, ch, r8.1, ts2, ())
        else some (st6.1, st6.2.1, st6.2.2.1, (0 : Int), (0 : Int), (0 : Int), id, tg + 1, ch, ([] : List Int), ts2, ())).bind K = K (st7.1, st7.2.1, st7.2.2.1, (0 : Int), (0 : Int), (0 : Int), id, tg + 1, ch, pr, ts2, ())) ∧
      Sim b (fun l : List Int => True) (nxt q6 (if ch > 0 then repP (rangeP b ch.toNat) (tg + 1).toNat else pureP [])) pr st7 := by
    by_cases hc : ch > 0
    · obtain ⟨pr, st7, e7, h7⟩ := tlist2 hb hl h6 (tg + 1) (by omega) (by omega) ch (by omega) (by omega)
      refine ⟨pr, st7, fun K => ?_, ?_⟩
      · rw [decide_eq_true hc, if_pos rfl, e7]; rfl
      · rw [if_pos hc]; exact h7.mono (fun _ => trivial)
    · refine ⟨[], st6, fun K => ?_, ?_⟩
      · rw [decide_eq_false hc]; rfl
      · rw [if_neg hc]; exact h6.pure trivial
  rw [e7, h7.nxt_bind]
  generalize hq7 : nxt q6 (if ch > 0 then repP (rangeP b ch.toNat) (tg + 1).toNat else pureP []) = q7 at h7
  clear hq7 e7
  simp only []
  -- chains of templates
  obtain ⟨ts3, st8, J3, f3, h8⟩ := fill_loop (F := L_templ_reader_read_18 1000000) (b := b) (fun st ts i => (st.1, st.2.1, st.2.2.1, (0 : Int), (0 : Int), (0 : Int), id, tg + 1, ch, pr, ts, (ts2.length : Int), (i : Int), ())) (fun t => (repP (numP b 4) ch.toNat).map (setC t)) WT ts2 h5.1.2
    (fun st ts i q hi hn hw hs => by
      obtain ⟨l, st', e, hs'⟩ := tlist3 hb hl hs ch (by omega) (by omega)
      refine ⟨setC (ts.getD i zT) l, st', hs'.map _ hw, fun J => ?_⟩
      have hok : (((st.1, st.2.1, st.2.2.1, ()), ()) : T_api_Bits × Unit) = (st, ()) := rfl
      simp only [L_templ_reader_read_18, lt_cast hi, if_true, hok, e, Option.bind_some, Int.toNat_natCast, zT_eq, succ_cast (show i < 1000000 by omega)]
      rw [decide_eq_true (by omega), if_pos rfl]
      rfl) (fuel := 1000000) (by omega) h7
  refine (show ∃ v st', iter (L_templ_reader_read_18 1000000) 1000000 (st7.1, st7.2.1, st7.2.2.1, (0 : Int), (0 : Int), (0 : Int), id, tg + 1, ch, pr, ts2, (ts2.length : Int), ((0 : Nat) : Int), ()) = some (v, (st', ()), ()) ∧ _ from ?_)
  rw [f3]
  have hn3 := h8.1.1
  obtain ⟨z, st9, e9, h9⟩ := tnumR hb hl h8 1 (by omega)
  have e9' : P_templ_reader_number (((st8.1, st8.2.1, st8.2.2.1, ()), ()), (1 : Int), ()) = some (z, (st9, ()), ()) := e9
  simp only [L_templ_reader_read_18, nlt_cast, Bool.false_eq_true, if_false, e9', Option.bind_some]
  rw [h8.nxt_bind, h9.nxt_bind]
  have hWl : WT (ts3.getD (ts3.length - 1) zT) := h8.1.2 _ (getD_mem (by omega))
  generalize hq9 : nxt (nxt q7 (fillP (fun t => (repP (numP b 4) ch.toNat).map (setC t)) ts2)) (numP b 1) = q9 at h9
  clear hq9 e9 e9' f3
  -- sizes
  by_cases hz : z = 1
  · subst hz
    unfold WT at hWl
    rw [if_pos rfl, if_pos (by decide), templ_sizes _ (by simp only; omega) (by simp only; omega)]
    simp only [Option.bind_some, wrap64 (n := (ts3.getD (ts3.length - 1) zT).1 + 1) (by omega) (by omega)]
    obtain ⟨m, hm⟩ := Int.eq_ofNat_of_zero_le (show 0 ≤ (ts3.getD (ts3.length - 1) zT).1 + 1 by omega)
    rw [hm, Int.toNat_natCast]
    obtain ⟨zs, st10, J4, f4, h10⟩ := list_loopT (F := L_templ_reader_read_24 1000000) (b := b) (fun st zs i => (st.1, st.2.1, st.2.2.1, (0 : Int), (0 : Int), (0 : Int), id, tg + 1, ch, pr, ts3, zs, (m : Int), (i : Int), ())) m (sizeP b) (fun _ => True)
      (fun st acc i q hi hal hs => by
        obtain ⟨w, sa, ea, ha⟩ := tnumR hb hl hs 16 (by omega)
        obtain ⟨h, sb, eb, hb'⟩ := tnumR hb hl ha 16 (by omega)
        have ea' : P_templ_reader_number (((st.1, st.2.1, st.2.2.1, ()), ()), (16 : Int), ()) = some (w, (sa, ()), ()) := ea
        have eb' : P_templ_reader_number ((sa, ()), (16 : Int), ()) = some (h, (sb, ()), ()) := eb
        have p16 : (2 : Int) ^ 16 = 65536 := by decide
        have hw := ha.1
        have hh := hb'.1
        refine ⟨(w + 1, h + 1, ()), sb, ?_, fun J => ?_⟩
        · unfold sizeP
          rw [ha.nxt_bind]
          exact hb'.map (fun h => (w + 1, h + 1, ())) trivial
        · simp only [L_templ_reader_read_24, lt_cast hi, if_true, ea', eb', Option.bind_some, succ_cast (show i < 1000000 by omega), wrap64 (n := w + 1) (by omega) (by omega), wrap64 (n := h + 1) (by omega) (by omega)]
          rw [if_pos (decide_eq_true (by simp; omega))]) (fuel := 1000000) (by omega) h9
    refine (show ∃ v st', (Option.bind (iter (L_templ_reader_read_24 1000000) 1000000 (st9.1, st9.2.1, st9.2.2.1, (0 : Int), (0 : Int), (0 : Int), id, tg + 1, ch, pr, ts3, [], (m : Int), ((0 : Nat) : Int), ())) _) = some (v, (st', ()), ()) ∧ _ from ?_)
    rw [f4]
    simp only [L_templ_reader_read_24, nlt_cast, Bool.false_eq_true, if_false, Option.bind_some]
    refine ⟨_, st10, rfl, ?_⟩
    rw [h10.nxt_bind]
    exact h10.pure trivial
  · rw [if_neg hz, if_neg (by simpa using hz), Option.bind_some]
    refine ⟨_, st9, rfl, ?_⟩
    have h10 : Sim b (fun _ : List T_api_Size => True) (nxt q9 (pureP [])) [] st9 := h9.pure trivial
    rw [h10.nxt_bind]
    exact h10.pure trivial
def getR (b : List Int) (a : Nat) : Except Int (St × Nat) → T_api_Bits × T_api_Structure × Unit
  | .ok (s, a') => ((b, (a' : Int), 0, ()), s, ())
  | .error e => ((b, (a : Int), e, ()), zS, ())
theorem templ_Get {b : List Int} (hb : Byt b) (hl : b.length < 100000000) (a : Nat) (ha : a ≤ 8 * b.length) : P_templ_Get ((b, (a : Int), 0, ()), ()) = some (getR b a (structP b a)) ∧ (∀ e, structP b a = .error e → e ≠ 0) ∧ (∀ s a', structP b a = .ok (s, a') → a' ≤ 8 * b.length) := by
  rw [E_templ_Get, N_templ_Get]
  obtain ⟨v, st', e1, h1⟩ := templ_read hb hl (q := .ok ((), a)) (V := fun _ : Unit => True) (x := ()) (st := (b, (a : Int), 0, ())) ⟨trivial, rfl, rfl, ha⟩
  simp only [e1, Option.bind_some]
  rw [show (((st'.1, st'.2.1, st'.2.2.1, ()), ()) : T_api_Bits × Unit) = (st', ()) from rfl] at *
  have h2 := ok_sim h1
  obtain ⟨_, h1⟩ := h1
  cases hs : structP b a with
  | error e =>
    simp only [nxt, hs] at h1 h2
    obtain ⟨he, a', rfl⟩ := h1
    rw [h2]
    exact ⟨rfl, fun e' h => by cases h; exact he, fun s a' h => by cases h⟩
  | ok z =>
    obtain ⟨s, a'⟩ := z
    simp only [nxt, hs] at h1 h2
    obtain ⟨rfl, rfl, h3⟩ := h1
    rw [h2]
    refine ⟨rfl, ?_, ?_⟩
    · intro e' h; cases h
    · intro s a' h; cases h; exact h3
end Go.Proofs.Try.Eng


set_option linter.unusedVariables false
set_option linter.unusedSimpArgs false
namespace Go.Eng
theorem bind_ok {α β : Type} {p : Pa α} {f : α → Pa β} {a : Nat} {y : β} {a' : Nat} : (p.bind f) a = .ok (y, a') ↔ ∃ v a1, p a = .ok (v, a1) ∧ f v a1 = .ok (y, a') := by
  simp only [Pa.bind]
  cases h : p a with
  | error e => simp
  | ok z =>
    obtain ⟨v, a1⟩ := z
    constructor
    · intro h; exact ⟨v, a1, rfl, h⟩
    · rintro ⟨v', a1', h1, h2⟩
      simp only [Except.ok.injEq, Prod.mk.injEq] at h1
      obtain ⟨rfl, rfl⟩ := h1
      exact h2
theorem map_ok {α β : Type} {p : Pa α} {f : α → β} {a : Nat} {y : β} {a' : Nat} : (p.map f) a = .ok (y, a') ↔ ∃ v, p a = .ok (v, a') ∧ f v = y := by
  simp only [Pa.map]
  cases h : p a with
  | error e => simp
  | ok z =>
    obtain ⟨v, a1⟩ := z
    simp only [Except.ok.injEq, Prod.mk.injEq]
    constructor
    · rintro ⟨rfl, rfl⟩; exact ⟨v, ⟨rfl, rfl⟩, rfl⟩
    · rintro ⟨v', ⟨rfl, rfl⟩, rfl⟩; exact ⟨rfl, rfl⟩
theorem pure_ok {α : Type} {x : α} {a : Nat} {y : α} {a' : Nat} : pureP x a = .ok (y, a') ↔ x = y ∧ a = a' := by
  simp only [pureP, Except.ok.injEq, Prod.mk.injEq]
theorem num_ok {b : List Int} {n a : Nat} {v : Int} {a' : Nat} : numP b n a = .ok (v, a') ↔ a + n ≤ 8 * b.length ∧ v = (gbits b a n : Nat) ∧ a' = a + n := by
  unfold numP
  split
  · rename_i h
    simp only [Except.ok.injEq, Prod.mk.injEq, h, true_and]
    exact ⟨fun h => ⟨h.1.symm, h.2.symm⟩, fun h => ⟨h.1.symm, h.2.symm⟩⟩
  · rename_i h; simp [h]
theorem num_range {b : List Int} {n a : Nat} {v : Int} {a' : Nat} (h : numP b n a = .ok (v, a')) : 0 ≤ v ∧ v < 2 ^ n ∧ a' ≤ 8 * b.length := by
  obtain ⟨h1, rfl, rfl⟩ := num_ok.1 h
  have := gbits_lt b a n
  exact ⟨Int.natCast_nonneg _, by exact_mod_cast this, h1⟩
theorem range_range {b : List Int} {n a : Nat} (hn : 1 ≤ n) {v : Int} {a' : Nat} (h : rangeP b n a = .ok (v, a')) : 0 ≤ v ∧ v < (n : Int) ∧ a' ≤ 8 * b.length := by
  have h3 : n < 2 ^ (Nat.log2 n + 1) := Nat.lt_log2_self
  have h6 : 2 ^ Nat.log2 n ≤ n := Nat.log2_self_le (by omega)
  have h7 : 2 ^ (Nat.log2 n + 1) = 2 * 2 ^ Nat.log2 n := by rw [Nat.pow_succ]; omega
  unfold rangeP at h
  have g1 := gbits_lt b a (Nat.log2 n)
  have g2 := gbits_lt b a (Nat.log2 n + 1)
  split at h
  · split at h
    · simp only [Except.ok.injEq, Prod.mk.injEq] at h
      obtain ⟨rfl, rfl⟩ := h
      exact ⟨Int.natCast_nonneg _, by omega, by omega⟩
    · split at h
      · simp only [Except.ok.injEq, Prod.mk.injEq] at h
        obtain ⟨rfl, rfl⟩ := h
        exact ⟨Int.natCast_nonneg _, by omega, by omega⟩
      · cases h
  · cases h
theorem rep_ok {α : Type} {p : Pa α} {V : α → Prop} {L : Nat} (hp : ∀ a v a', p a = .ok (v, a') → V v ∧ a' ≤ L) : ∀ {k a : Nat} {l : List α} {a' : Nat}, a ≤ L → repP p k a = .ok (l, a') → l.length = k ∧ (∀ v ∈ l, V v) ∧ a' ≤ L
  | 0, a, l, a', ha, h => by
    obtain ⟨rfl, rfl⟩ := pure_ok.1 h
    exact ⟨rfl, by simp, ha⟩
  | k + 1, a, l, a', ha, h => by
    obtain ⟨v, a1, h1, h2⟩ := bind_ok.1 h
    obtain ⟨r, h3, rfl⟩ := map_ok.1 h2
    obtain ⟨v1, v2⟩ := hp _ _ _ h1
    obtain ⟨r1, r2, r3⟩ := rep_ok hp v2 h3
    refine ⟨by simp [r1], ?_, r3⟩
    intro w hw
    rcases List.mem_cons.1 hw with rfl | hw
    · exact v1
    · exact r2 w hw
end Go.Eng
namespace Go.Proofs.Try.Eng
open Go Go.Eng
theorem dif_ok {b : List Int} : ∀ {k a : Nat} {l : List Int} {a' : Nat}, difP b k a = .ok (l, a') → l.length ≤ k ∧ (∀ v ∈ l, 1 ≤ v ∧ v ≤ 16) ∧ a' ≤ 8 * b.length
  | 0, a, l, a', h => by
    obtain ⟨g, a1, h1, h2⟩ := bind_ok.1 h
    have hr := num_range h1
    split at h2
    · cases h2
    · obtain ⟨rfl, rfl⟩ := pure_ok.1 h2
      exact ⟨by simp, by simp, hr.2.2⟩
  | k + 1, a, l, a', h => by
    obtain ⟨g, a1, h1, h2⟩ := bind_ok.1 h
    have hr := num_range h1
    split at h2
    · obtain ⟨v, a2, h3, h4⟩ := bind_ok.1 h2
      obtain ⟨r, h5, rfl⟩ := map_ok.1 h4
      have hv := num_range h3
      have p4 : (2 : Int) ^ 4 = 16 := by decide
      obtain ⟨r1, r2, r3⟩ := dif_ok h5
      refine ⟨by simp; omega, ?_, r3⟩
      intro w hw
      rcases List.mem_cons.1 hw with rfl | hw
      · omega
      · exact r2 w hw
    · obtain ⟨rfl, rfl⟩ := pure_ok.1 h2
      exact ⟨by simp, by simp, hr.2.2⟩

/-- how templates' layers follow each other -/
def stepL (x y : Tm) : Prop := (y.1 = x.1 ∧ y.2.1 = x.2.1) ∨ (y.1 = x.1 ∧ y.2.1 = x.2.1 + 1) ∨ (y.1 = x.1 + 1 ∧ y.2.1 = 0)
def emptyT (t : Tm) : Prop := t.2.2.1 = [] ∧ t.2.2.2.1 = [] ∧ t.2.2.2.2.1 = []
def LayR : Tm → List Tm → Prop
  | _, [] => True
  | x, y :: r => stepL x y ∧ ((0 ≤ y.1 ∧ y.1 ≤ 3) ∧ (0 ≤ y.2.1 ∧ y.2.1 ≤ 7)) ∧ emptyT y ∧ LayR y r
theorem lay_ok {b : List Int} : ∀ {k a : Nat} {sid tid : Int} {l : List Tm} {a' : Nat}, 0 ≤ sid → 0 ≤ tid → layP b k sid tid a = .ok (l, a') → l.length ≤ k ∧ LayR (sid, tid, [], [], [], ()) l ∧ a' ≤ 8 * b.length
  | 0, a, sid, tid, l, a', hs, ht, h => by
    obtain ⟨g, a1, h1, h2⟩ := bind_ok.1 h
    have hr := num_range h1
    split at h2
    · obtain ⟨rfl, rfl⟩ := pure_ok.1 h2
      exact ⟨by simp, trivial, hr.2.2⟩
    · cases h2
  | k + 1, a, sid, tid, l, a', hs, ht, h => by
    obtain ⟨g, a1, h1, h2⟩ := bind_ok.1 h
    have hr := num_range h1
    have p2 : (2 : Int) ^ 2 = 4 := by decide
    split at h2
    · obtain ⟨rfl, rfl⟩ := pure_ok.1 h2
      exact ⟨by simp, trivial, hr.2.2⟩
    · rename_i g3
      have hs' : 0 ≤ (if g = 2 then sid + 1 else sid) := by split <;> omega
      have ht' : 0 ≤ (if g = 1 then tid + 1 else if g = 2 then 0 else tid) := by
        split
        · omega
        · split <;> omega
      have hst : stepL (sid, tid, [], [], [], ()) ((if g = 2 then sid + 1 else sid), (if g = 1 then tid + 1 else if g = 2 then 0 else tid), [], [], [], ()) := by
        simp only [stepL]
        by_cases e1 : g = 1
        · subst e1; right; left; exact ⟨rfl, rfl⟩
        · by_cases e2 : g = 2
          · subst e2; right; right; exact ⟨rfl, rfl⟩
          · left; simp [e1, e2]
      generalize (if g = 2 then sid + 1 else sid) = s' at h2 hs' hst
      generalize (if g = 1 then tid + 1 else if g = 2 then 0 else tid) = t' at h2 ht' hst
      by_cases hc : s' > 3 ∨ t' > 7
      · rw [if_pos hc] at h2; cases h2
      · rw [if_neg hc] at h2
        obtain ⟨r, h5, rfl⟩ := map_ok.1 h2
        obtain ⟨r1, r2, r3⟩ := lay_ok hs' ht' h5
        exact ⟨by simp; omega, ⟨hst, by simp only; omega, ⟨rfl, rfl, rfl⟩, r2⟩, r3⟩
theorem LayR.get : ∀ {x : Tm} {l : List Tm}, LayR x l → ∀ i, i < l.length → stepL ((x :: l).getD i zT) (l.getD i zT) ∧ ((0 ≤ (l.getD i zT).1 ∧ (l.getD i zT).1 ≤ 3) ∧ (0 ≤ (l.getD i zT).2.1 ∧ (l.getD i zT).2.1 ≤ 7)) ∧ emptyT (l.getD i zT)
  | x, y :: r, h, 0, _ => ⟨h.1, h.2.1, h.2.2.1⟩
  | x, y :: r, h, i + 1, hi => LayR.get h.2.2.2 i (by simpa using hi)
theorem fill_ok {f : Tm → Pa Tm} {V : Tm → Tm → Prop} {L : Nat} (hf : ∀ t a t' a', a ≤ L → f t a = .ok (t', a') → V t t' ∧ a' ≤ L) : ∀ {ts : List Tm} {a : Nat} {l : List Tm} {a' : Nat}, a ≤ L → fillP f ts a = .ok (l, a') → l.length = ts.length ∧ (∀ i, i < ts.length → V (ts.getD i zT) (l.getD i zT)) ∧ a' ≤ L
  | [], a, l, a', ha, h => by
    obtain ⟨rfl, rfl⟩ := pure_ok.1 h
    exact ⟨rfl, fun i hi => by simp at hi, ha⟩
  | t :: r, a, l, a', ha, h => by
    obtain ⟨t', a1, h1, h2⟩ := bind_ok.1 h
    obtain ⟨r', h3, rfl⟩ := map_ok.1 h2
    obtain ⟨v1, v2⟩ := hf _ _ _ _ ha h1
    obtain ⟨r1, r2, r3⟩ := fill_ok hf v2 h3
    refine ⟨by simp [r1], fun i hi => ?_, r3⟩
    cases i with
    | zero => exact v1
    | succ i => exact r2 i (by simpa using hi)

theorem follow_step {x y : Tm} (h : stepL x y) (h1 : 0 ≤ x.1 ∧ x.1 ≤ 3) (h2 : 0 ≤ x.2.1 ∧ x.2.1 ≤ 7) : (followS x y == 3) = false := by
  unfold followS
  rw [wrap64 (n := x.2.1 + 1) (by omega) (by omega), wrap64 (n := x.1 + 1) (by omega) (by omega)]
  rcases h with ⟨h, h'⟩ | ⟨h, h'⟩ | ⟨h, h'⟩
  · simp [h, h']
  · simp [h, h']
    split <;> simp
  · simp [h, h']
    split
    · simp
    · split <;> simp

theorem struct_right {b : List Int} (hl : b.length < 100000000) {a : Nat} {s : St} {a' : Nat} (ha : a ≤ 8 * b.length) (h : structP b a = .ok (s, a')) : rightS s = true ∧ Sh s ∧ a' ≤ 8 * b.length := by
  unfold structP at h
  obtain ⟨id, a1, h1, h⟩ := bind_ok.1 h
  obtain ⟨tg, a2, h2, h⟩ := bind_ok.1 h
  obtain ⟨ts0, a3, h3, h⟩ := bind_ok.1 h
  obtain ⟨ts1, a4, h4, h⟩ := bind_ok.1 h
  obtain ⟨ts2, a5, h5, h⟩ := bind_ok.1 h
  obtain ⟨ch, a6, h6, h⟩ := bind_ok.1 h
  obtain ⟨pr, a7, h7, h⟩ := bind_ok.1 h
  obtain ⟨ts3, a8, h8, h⟩ := bind_ok.1 h
  obtain ⟨z, a9, h9, h⟩ := bind_ok.1 h
  obtain ⟨zs, a10, h10, h⟩ := bind_ok.1 h
  obtain ⟨rfl, rfl⟩ := pure_ok.1 h
  clear h
  have p6 : (2 : Int) ^ 6 = 64 := by decide
  have p5 : (2 : Int) ^ 5 = 32 := by decide
  have p2 : (2 : Int) ^ 2 = 4 := by decide
  have p4 : (2 : Int) ^ 4 = 16 := by decide
  have p16 : (2 : Int) ^ 16 = 65536 := by decide
  have r1 := num_range h1
  have r2 := num_range h2
  obtain ⟨l0, h3', rfl⟩ := map_ok.1 h3
  obtain ⟨q1, q2, q3⟩ := lay_ok (by omega) (by omega) h3'
  obtain ⟨m1, m2, m3⟩ := fill_ok (V := fun t t' => t'.1 = t.1 ∧ t'.2.1 = t.2.1 ∧ (t'.2.2.1.length : Int) = tg + 1 ∧ (∀ v ∈ t'.2.2.1, 0 ≤ v ∧ v ≤ 3) ∧ t'.2.2.2.1 = t.2.2.2.1 ∧ t'.2.2.2.2.1 = t.2.2.2.2.1) (L := 8 * b.length) (fun t a t' a' ha h => by
    obtain ⟨l, h', rfl⟩ := map_ok.1 h
    obtain ⟨k1, k2, k3⟩ := rep_ok (V := fun v => 0 ≤ v ∧ v ≤ 3) (L := 8 * b.length) (fun a v a' h => by have := num_range h; exact ⟨by omega, this.2.2⟩) ha h'
    exact ⟨⟨rfl, rfl, by simp only [setM]; omega, k2, rfl, rfl⟩, k3⟩) q3 h4
  obtain ⟨d1, d2, d3⟩ := fill_ok (V := fun t t' => t'.1 = t.1 ∧ t'.2.1 = t.2.1 ∧ t'.2.2.1 = t.2.2.1 ∧ t'.2.2.2.1.length ≤ 16 ∧ (∀ v ∈ t'.2.2.2.1, 1 ≤ v ∧ v ≤ 16) ∧ t'.2.2.2.2.1 = t.2.2.2.2.1) (L := 8 * b.length) (fun t a t' a' ha h => by
    obtain ⟨l, h', rfl⟩ := map_ok.1 h
    obtain ⟨k1, k2, k3⟩ := dif_ok h'
    exact ⟨⟨rfl, rfl, rfl, k1, k2, rfl⟩, k3⟩) m3 h5
  have r6 := range_range (by omega) h6
  obtain ⟨pl, pv, pa⟩ : (pr.length : Int) = (if ch = 0 then 0 else tg + 1) ∧ (∀ v ∈ pr, 0 ≤ v ∧ v < ch) ∧ a7 ≤ 8 * b.length := by
    by_cases hc : ch > 0
    · rw [if_pos hc] at h7
      obtain ⟨k1, k2, k3⟩ := rep_ok (V := fun v => 0 ≤ v ∧ v < ch) (L := 8 * b.length) (fun a v a' h => by have := range_range (by omega) h; exact ⟨by omega, this.2.2⟩) r6.2.2 h7
      exact ⟨by rw [if_neg (by omega)]; omega, k2, k3⟩
    · rw [if_neg hc] at h7
      obtain ⟨rfl, rfl⟩ := pure_ok.1 h7
      exact ⟨by rw [if_pos (by omega)]; rfl, by simp, r6.2.2⟩
  obtain ⟨c1, c2, c3⟩ := fill_ok (V := fun t t' => t'.1 = t.1 ∧ t'.2.1 = t.2.1 ∧ t'.2.2.1 = t.2.2.1 ∧ t'.2.2.2.1 = t.2.2.2.1 ∧ (t'.2.2.2.2.1.length : Int) = ch ∧ (∀ v ∈ t'.2.2.2.2.1, 0 ≤ v ∧ v ≤ 15)) (L := 8 * b.length) (fun t a t' a' ha h => by
    obtain ⟨l, h', rfl⟩ := map_ok.1 h
    obtain ⟨k1, k2, k3⟩ := rep_ok (V := fun v => 0 ≤ v ∧ v ≤ 15) (L := 8 * b.length) (fun a v a' h => by have := num_range h; exact ⟨by omega, this.2.2⟩) ha h'
    exact ⟨⟨rfl, rfl, rfl, rfl, by simp only [setC]; omega, k2⟩, k3⟩) pa h8
  have r9 := num_range h9
  have hn : ts3.length = l0.length + 1 := by simp [c1, d1, m1]
  have hlen : 1 ≤ ts3.length ∧ ts3.length ≤ 64 := by omega
  -- each template
  have hT : ∀ i, i < ts3.length → (ts3.getD i zT).1 = ((zT :: l0).getD i zT).1 ∧ (ts3.getD i zT).2.1 = ((zT :: l0).getD i zT).2.1 ∧ ((ts3.getD i zT).2.2.1.length : Int) = tg + 1 ∧ (∀ v ∈ (ts3.getD i zT).2.2.1, 0 ≤ v ∧ v ≤ 3) ∧
      (ts3.getD i zT).2.2.2.1.length ≤ 16 ∧ (∀ v ∈ (ts3.getD i zT).2.2.2.1, 1 ≤ v ∧ v ≤ 16) ∧ ((ts3.getD i zT).2.2.2.2.1.length : Int) = ch ∧ (∀ v ∈ (ts3.getD i zT).2.2.2.2.1, 0 ≤ v ∧ v ≤ 15) := by
    intro i hi
    obtain ⟨x1, x2, x3, x4, x5, x6⟩ := c2 i (by omega)
    obtain ⟨y1, y2, y3, y4, y5, y6⟩ := d2 i (by omega)
    obtain ⟨w1, w2, w3, w4, w5, w6⟩ := m2 i (by rw [← m1]; omega)
    refine ⟨by rw [x1, y1, w1], by rw [x2, y2, w2], by rw [x3, y3, w3], by rw [x3, y3]; exact w4, by rw [x4]; exact y4, by rw [x4]; exact y5, x5, x6⟩
  have hL : ∀ i, i < ts3.length → (0 ≤ (ts3.getD i zT).1 ∧ (ts3.getD i zT).1 ≤ 3) ∧ (0 ≤ (ts3.getD i zT).2.1 ∧ (ts3.getD i zT).2.1 ≤ 7) := by
    intro i hi
    obtain ⟨x1, x2, _⟩ := hT i hi
    rw [x1, x2]
    cases i with
    | zero => exact ⟨by simp [zT], by simp [zT]⟩
    | succ i => exact (LayR.get q2 i (by omega)).2.1
  have hzs : (zs.length = 0 ∨ (zs.length : Int) = (ts3.getD (ts3.length - 1) zT).1 + 1) ∧ (∀ v ∈ zs, (1 ≤ v.1 ∧ v.1 ≤ 65536) ∧ (1 ≤ v.2.1 ∧ v.2.1 ≤ 65536)) ∧ a10 ≤ 8 * b.length := by
    have hl := (hL (ts3.length - 1) (by omega)).1
    by_cases hz : z = 1
    · rw [if_pos hz] at h10
      obtain ⟨k1, k2, k3⟩ := rep_ok (V := fun v : T_api_Size => (1 ≤ v.1 ∧ v.1 ≤ 65536) ∧ (1 ≤ v.2.1 ∧ v.2.1 ≤ 65536)) (L := 8 * b.length) (fun a v a' h => by
        obtain ⟨w, aw, hw, h⟩ := bind_ok.1 h
        obtain ⟨x, hx, rfl⟩ := map_ok.1 h
        have z1 := num_range hw
        have z2 := num_range hx
        exact ⟨⟨by simp only; omega, by simp only; omega⟩, z2.2.2⟩) r9.2.2 h10
      exact ⟨.inr (by omega), k2, k3⟩
    · rw [if_neg hz] at h10
      obtain ⟨rfl, rfl⟩ := pure_ok.1 h10
      exact ⟨.inl rfl, by simp, r9.2.2⟩
  obtain ⟨z1, z2, z3⟩ := hzs
  have hmem : ∀ t ∈ ts3, ∃ i, i < ts3.length ∧ ts3.getD i zT = t := fun t ht => by
    obtain ⟨i, hi, rfl⟩ := List.getElem_of_mem ht
    exact ⟨i, hi, by simp [List.getD, hi]⟩
  have hlast := (hL (ts3.length - 1) (by omega)).1
  refine ⟨?_, ⟨by simp only; omega, by simp only; split at pl <;> omega, by simp only; rcases z1 with h | h <;> omega, fun t ht => ?_⟩, z3⟩
  · simp only [rightS, Bool.and_eq_true, inB, decide_eq_true_eq, markOk, allB, List.all_eq_true, sizesOk, Bool.or_eq_true, beq_iff_eq]
    refine ⟨⟨⟨⟨⟨⟨by omega, by omega⟩, by omega, by omega⟩, by omega, by omega⟩, ⟨pl, fun v hv => ?_⟩⟩, by omega, by omega⟩, fun i hi => ?_, ?_, fun v hv => ?_⟩
    · have := pv v hv
      rw [wrap64 (by omega) (by omega)]
      omega
    · have hi' : i < ts3.length := by
        simp only [List.mem_range'_1] at hi; omega
      obtain ⟨x1, x2, x3, x4, x5, x6, x7, x8⟩ := hT i hi'
      obtain ⟨y1, y2⟩ := hL i hi'
      simp only [tmplOk, Bool.and_eq_true, Bool.not_eq_true', Bool.or_eq_false_iff, decide_eq_false_iff_not, markOk, decide_eq_true_eq, allB, List.all_eq_true, inB]
      refine ⟨?_, ⟨⟨by omega, by omega⟩, x3, x4⟩, ⟨by omega, trivial, x6⟩, x7, x8⟩
      cases i with
      | zero =>
        rw [if_pos rfl]
        rw [x1, x2]
        rfl
      | succ i =>
        rw [if_neg (by omega)]
        simp only [Nat.add_sub_cancel, Bool.not_eq_true']
        obtain ⟨u1, u2, _⟩ := hT i (by omega)
        obtain ⟨w1, w2⟩ := hL i (by omega)
        refine follow_step ?_ w1 w2
        have := (LayR.get q2 i (by omega)).1
        simp only [stepL] at this ⊢
        rw [x1, x2, u1, u2]
        exact this
    · rcases z1 with h | h
      · exact .inl h
      · right
        rw [wrap64 (by omega) (by omega)]
        exact h
    · exact z2 v hv
  · obtain ⟨i, hi, rfl⟩ := hmem t ht
    obtain ⟨x1, x2, x3, x4, x5, x6, x7, x8⟩ := hT i hi
    omega
end Go.Proofs.Try.Eng


set_option linter.unusedVariables false
set_option linter.unusedSimpArgs false
namespace Go.Proofs.Try.Eng
open Go Go.Eng

def gapP (b : List Int) : Nat → Pa (List Int)
  | 0 => (numP b 2).bind fun g => if g = 0 then pureP [] else failP 6
  | k + 1 => (numP b 2).bind fun g => if g = 0 then pureP [] else (numP b (4 * g).toNat).bind fun v => (gapP b k).map ((v + 1) :: ·)
theorem anum0 {b : List Int} (hl : b.length < 100000000) {α : Type} {V : α → Prop} {q : Except Int (α × Nat)} {x : α} {st st' : T_api_Bits} (h : Sim b V q x st) (n : Nat) (hn : n ≤ 32) {v e : Int} (h1 : P_av1_reader_number ((st, ()), (n : Int), ()) = some (v, (st', ()), ())) (he : nxt q (numP b n) = .error e) : v = 0 := by
  obtain ⟨_, h⟩ := h
  rw [E_av1_reader_number, N_av1_reader_number, E_bits_Get, N_bits_Get] at h1
  cases q with
  | error e =>
    obtain ⟨he, a, rfl⟩ := h
    simp only [bits_right _ hl, decide_eq_false he, Bool.false_and, Option.bind_some, Bool.not_false, if_true, bits_fail, if_neg he] at h1
    simp only [Option.some.injEq, Prod.mk.injEq] at h1
    rw [← h1.1]; rfl
  | ok y =>
    obtain ⟨y, a⟩ := y
    obtain ⟨_, rfl, ha⟩ := h
    simp only [nxt, numP] at he
    split at he
    · cases he
    · rename_i hc
      simp (disch := omega) only [bits_right, bits_Left, Option.bind_some, bits_fail, if_true, decide_true, Bool.true_and] at h1
      simp only [decide_eq_true (show (0 : Int) ≤ (a : Int) by omega), decide_eq_true (show (a : Int) ≤ 8 * (b.length : Int) by omega), Bool.not_true, Bool.and_self, Bool.false_eq_true, if_false, decide_eq_false (show ¬ (n : Int) < 0 by omega), decide_eq_false (show ¬ (n : Int) > 64 by omega),
        decide_eq_true (show (n : Int) > ((8 * b.length - a : Nat) : Int) by omega), if_true, Option.bind_some] at h1
      simp only [Option.some.injEq, Prod.mk.injEq] at h1
      rw [← h1.1]; rfl
theorem agaps_aux {b : List Int} (hb : Byt b) (hl : b.length < 100000000) : ∀ (k fuel : Nat) (acc : List Int) (st : T_api_Bits) (q : Except Int (Unit × Nat)), acc.length + k = 16 → k < fuel → (∀ v ∈ acc, 1 ≤ v ∧ v ≤ 4096) → SR b q st →
    ∃ acc' st', iter (L_av1_reader_diffs_4 1000000) fuel (st.1, st.2.1, st.2.2.1, acc, ()) = some (acc', (st', ()), ()) ∧ Sim b (fun l => l.length ≤ 16 ∧ ∀ v ∈ l, 1 ≤ v ∧ v ≤ 4096) (nxt q ((gapP b k).map (acc ++ ·))) acc' st'
  | k, 0, _, _, _, _, h, _, _ => by omega
  | k, n + 1, acc, st, q, hk, hf, hv, h => by
    rw [iter_step]
    obtain ⟨g, st1, e1, h1⟩ := anumR hb hl h 2 (by omega)
    have e1' : P_av1_reader_number (((st.1, st.2.1, st.2.2.1, ()), ()), (2 : Int), ()) = some (g, (st1, ()), ()) := e1
    have hgr := h1.1
    have p2 : (2 : Int) ^ 2 = 4 := by decide
    simp only [L_av1_reader_diffs_4, e1', Option.bind_some, beq_dec]
    have e5 : (pureP [] : Pa (List Int)).map (acc ++ ·) = pureP acc := by
      funext a; simp [Pa.map, pureP]
    by_cases hg : g = 0
    · subst hg
      rw [decide_eq_true rfl, if_pos rfl]
      refine ⟨acc, st1, rfl, ?_⟩
      have e4 : nxt q ((gapP b k).map (acc ++ ·)) = nxt (nxt q (numP b 2)) ((pureP [] : Pa (List Int)).map (acc ++ ·)) := by
        cases k with
        | zero => simp only [gapP, Pa.bind_map, h1.nxt_bind, if_true]
        | succ k => simp only [gapP, Pa.bind_map, h1.nxt_bind, if_true]
      rw [e4, e5]
      exact h1.pure ⟨by omega, hv⟩
    · rw [decide_eq_false hg, if_neg (by decide)]
      cases hq : nxt q (numP b 2) with
      | error e => exact absurd (anum0 hl h 2 (by omega) e1 hq) hg
      | ok z =>
        obtain ⟨z, a⟩ := z
        cases k with
        | zero =>
          rw [decide_eq_true (by omega), if_pos rfl]
          refine ⟨[], _, rfl, ⟨by simp, by simp⟩, ?_⟩
          simp only [gapP, Pa.bind_map, h1.nxt_bind, if_neg hg, hq]
          have h2 := h1.2
          rw [hq] at h2
          refine ⟨by decide, st1.2.1, ?_⟩
          rw [h2.2.1]
        | succ k =>
          rw [decide_eq_false (by omega), if_neg (by decide)]
          obtain ⟨g, rfl⟩ := Int.eq_ofNat_of_zero_le hgr.1
          have w4 : IntKind.i64.wrap (4 * (g : Int)) = ((4 * g : Nat) : Int) := by rw [wrap64 (by omega) (by omega)]; rfl
          obtain ⟨v, st2, e2, h2⟩ := anumR hb hl h1 (4 * g) (by omega)
          have hvr := h2.1
          have p12 : (2 : Int) ^ (4 * g) ≤ 4096 := by
            have h3 : 2 ^ (4 * g) ≤ 2 ^ 12 := Nat.pow_le_pow_right (by decide) (by omega)
            have h4 : (2 : Nat) ^ 12 = 4096 := by decide
            rw [show (2 : Int) ^ (4 * g) = ((2 ^ (4 * g) : Nat) : Int) from (Int.natCast_pow 2 (4 * g)).symm]
            omega
          rw [w4, e2, Option.bind_some]
          simp only [wrap64 (n := v + 1) (by omega) (by omega)]
          rw [if_pos (decide_eq_true (by simp; omega))]
          obtain ⟨acc', st3, e3, h3⟩ := agaps_aux hb hl k n (acc ++ [v + 1]) st2 (nxt (nxt (nxt q (numP b 2)) (numP b (4 * g))) (pureP ())) (by simp; omega) (by omega) (by
            intro w hw
            rcases List.mem_append.1 hw with h | h
            · exact hv w h
            · simp only [List.mem_singleton] at h; subst h; omega) h2.sr
          refine ⟨acc', st3, e3, ?_⟩
          have e4 := h1.nxt_bind (fun g => ((if g = 0 then pureP [] else (numP b (4 * g).toNat).bind fun v => (gapP b k).map ((v + 1) :: ·) : Pa (List Int))).map (acc ++ ·))
          have e6 : nxt q ((gapP b (k + 1)).map (acc ++ ·)) = nxt (nxt q (numP b 2)) ((numP b (4 * g)).bind fun v => ((gapP b k).map ((v + 1) :: ·)).map (acc ++ ·)) := by
            rw [if_neg hg, show (4 * (g : Int)).toNat = 4 * g by omega, Pa.bind_map] at e4
            rw [← e4]
            simp only [gapP, Pa.bind_map]
          rw [e6, h2.nxt_bind]
          rw [nxt_sr] at h3
          rw [Pa.map_map]
          have e5 : ((fun x => acc ++ x) ∘ fun x => (v + 1) :: x) = (acc ++ [v + 1] ++ ·) := by funext l; simp
          rw [e5]
          exact h3
theorem agaps {b : List Int} (hb : Byt b) (hl : b.length < 100000000) {α : Type} {V : α → Prop} {q : Except Int (α × Nat)} {x : α} {st : T_api_Bits} (h : Sim b V q x st) (has : Bool) :
    ∃ v st', P_av1_reader_diffs ((st, ()), has, ()) = some (v, (st', ()), ()) ∧ Sim b (fun l => l.length ≤ 16 ∧ ∀ v ∈ l, 1 ≤ v ∧ v ≤ 4096) (nxt q (if has then gapP b 16 else pureP [])) v st' := by
  rw [E_av1_reader_diffs, N_av1_reader_diffs]
  cases has with
  | false => exact ⟨[], st, rfl, h.pure ⟨by simp, by simp⟩⟩
  | true =>
    simp only [Bool.not_true, Bool.false_eq_true, if_false, if_true]
    obtain ⟨acc, st', e1, h1⟩ := agaps_aux hb hl 16 1000000 [] st _ rfl (by omega) (by simp) h.sr
    refine ⟨acc, st', e1, ?_⟩
    rw [nxt_sr] at h1
    simpa [Pa.map_id] using h1

abbrev stT {R : Type} (s : St) (r : R) := (s.1, s.2.1, s.2.2.1, s.2.2.2.1, s.2.2.2.2.1, s.2.2.2.2.2.1, r)
def zF : Fr := (false, false, 0, 0, false, (0, 0, 0, [], [], [], ()), false, 0, false, [], false, [], false, [], ())
/-- a frame with its lists -/
def withL (f : Fr) (ms ds cs : List Int) : Fr := (f.1, f.2.1, f.2.2.1, f.2.2.2.1, f.2.2.2.2.1, f.2.2.2.2.2.1, f.2.2.2.2.2.2.1, f.2.2.2.2.2.2.2.1, f.2.2.2.2.2.2.2.2.1, ms, f.2.2.2.2.2.2.2.2.2.2.1, ds, f.2.2.2.2.2.2.2.2.2.2.2.2.1, cs, ())
def tailP (b : List Int) (f : Fr) (s : St) : Pa Fr :=
  (if f.2.2.2.2.2.2.2.2.1 then repP (numP b 2) s.2.1.toNat else pureP []).bind fun ms => (if f.2.2.2.2.2.2.2.2.2.2.1 then gapP b 16 else pureP []).bind fun ds =>
  (if f.2.2.2.2.2.2.2.2.2.2.2.2.1 then repP (numP b 8) s.2.2.1.toNat else pureP []).bind fun cs => pureP (withL f ms ds cs)
/-- what a frame's reader answers -/
def ansF (b : List Int) : Except Int (Fr × Nat) → Fr × Int × Unit
  | .error e => (zF, e, ())
  | .ok (f, a) => if 8 * b.length - a ≥ 8 then (zF, 4, ()) else (f, 0, ())
theorem read98 {b : List Int} (hb : Byt b) (hl : b.length < 100000000) (f0 f : Fr) (s : St) (h1 : 0 ≤ s.2.1 ∧ s.2.1 ≤ 100) (h2 : 0 ≤ s.2.2.1 ∧ s.2.2.1 ≤ 100) {α : Type} {V : α → Prop} {q : Except Int (α × Nat)} {x : α} {st : T_api_Bits} (h : Sim b V q x st) :
    J_av1_Read_98 1000000 (fT f0 (st.1, st.2.1, st.2.2.1, fT f (stT s ()))) = some (ansF b (nxt q (tailP b f s))) := by
  obtain ⟨ms, st1, e1, k1⟩ := av1_list hb hl h f.2.2.2.2.2.2.2.2.1 s.2.1 h1.1 (by omega) 2 (by omega)
  obtain ⟨ds, st2, e2, k2⟩ := agaps hb hl k1 f.2.2.2.2.2.2.2.2.2.2.1
  obtain ⟨cs, st3, e3, k3⟩ := av1_list hb hl k2 f.2.2.2.2.2.2.2.2.2.2.2.2.1 s.2.2.1 h2.1 (by omega) 8 (by omega)
  unfold tailP
  rw [k1.nxt_bind, k2.nxt_bind, k3.nxt_bind]
  have k4 : Sim b (fun _ => True) (nxt (nxt (nxt (nxt q _) _) _) (pureP (withL f ms ds cs))) (withL f ms ds cs) st3 := k3.pure trivial
  simp only [J_av1_Read_98]
  have e1' : P_av1_reader_list (((st.1, st.2.1, st.2.2.1, ()), ()), f.2.2.2.2.2.2.2.2.1, s.2.1, (2 : Int), ()) = some (ms, (st1, ()), ()) := e1
  have e3' : P_av1_reader_list ((st2, ()), f.2.2.2.2.2.2.2.2.2.2.2.2.1, s.2.2.1, (8 : Int), ()) = some (cs, (st3, ()), ()) := e3
  rw [e1', Option.bind_some]
  simp only [e2, e3', Option.bind_some]
  generalize nxt (nxt (nxt (nxt q _) _) _) (pureP (withL f ms ds cs)) = q4 at k4 ⊢
  obtain ⟨_, k4⟩ := k4
  cases q4 with
  | error e =>
    obtain ⟨he, a, rfl⟩ := k4
    simp only [ansF]
    rw [if_pos (by simpa using he)]
    rfl
  | ok z =>
    obtain ⟨z, a⟩ := z
    obtain ⟨rfl, rfl, ha⟩ := k4
    simp only [ansF, bits_Left b hl a ha, Option.bind_some, bne_self_eq_false, Bool.false_eq_true, if_false]
    by_cases hc : 8 * b.length - a ≥ 8
    · rw [if_pos hc, decide_eq_true (by omega)]
      rfl
    · rw [if_neg hc, decide_eq_false (by omega)]
      rfl
end Go.Proofs.Try.Eng


set_option linter.unusedVariables false
set_option linter.unusedSimpArgs false
namespace Go.Proofs.Try.Eng
open Go Go.Eng

/-- a frame with its targets that are active -/
def withA (f : Fr) (ac : Int) : Fr := (f.1, f.2.1, f.2.2.1, f.2.2.2.1, f.2.2.2.2.1, f.2.2.2.2.2.1, f.2.2.2.2.2.2.1, ac, f.2.2.2.2.2.2.2.2.1, f.2.2.2.2.2.2.2.2.2.1, f.2.2.2.2.2.2.2.2.2.2.1, f.2.2.2.2.2.2.2.2.2.2.2.1, f.2.2.2.2.2.2.2.2.2.2.2.2.1, f.2.2.2.2.2.2.2.2.2.2.2.2.2.1, ())
def actP (b : List Int) (f : Fr) (s : St) : Pa Fr := (if f.2.2.2.2.2.2.1 then (numP b s.2.1.toNat).map (fun v => withA f (IntKind.u32.wrap v)) else pureP f).bind fun f => tailP b f s
/-- behind the structure -/
def restF (b : List Int) (f : Fr) (known : St) (a : Nat) : Fr × Int × Unit :=
  if ofF f known = zS then (zF, 8, ()) else if (inB f.2.2.1 0 63 && decide (placeAt f.2.2.1 (ofF f known) < (ofF f known).2.2.2.2.1.length)) = false then (zF, 6, ()) else
    ansF b (actP b f (ofF f known) a)
def withS (f : Fr) (s : St) : Fr := (f.1, f.2.1, f.2.2.1, f.2.2.2.1, f.2.2.2.2.1, s, f.2.2.2.2.2.2.1, f.2.2.2.2.2.2.2.1, f.2.2.2.2.2.2.2.2.1, f.2.2.2.2.2.2.2.2.2.1, f.2.2.2.2.2.2.2.2.2.2.1, f.2.2.2.2.2.2.2.2.2.2.2.1, f.2.2.2.2.2.2.2.2.2.2.2.2.1, f.2.2.2.2.2.2.2.2.2.2.2.2.2.1, ())
def midF (b : List Int) (f : Fr) (known : St) (a : Nat) : Fr × Int × Unit :=
  if f.2.2.2.2.1 then (match structP b a with
    | .error e => (zF, e, ())
    | .ok (s, a') => restF b (withS f s) known a')
  else restF b f known a
def bitB (b : List Int) (a : Nat) : Bool := decide (gbits b a 1 = 1)
/-- the head of a frame -/
def headF (b : List Int) : Fr := (bitB b 0, bitB b 1, ((gbits b 2 6 : Nat) : Int), ((gbits b 8 16 : Nat) : Int), decide (3 < b.length) && bitB b 24, (0, 0, 0, [], [], [], ()), decide (3 < b.length) && bitB b 25, 0, decide (3 < b.length) && bitB b 26, [], decide (3 < b.length) && bitB b 27, [], decide (3 < b.length) && bitB b 28, [], ())
def readF (b : List Int) (known : St) : Fr × Int × Unit :=
  if (decide (known = zS) || rightS known) = false then (zF, 1, ()) else if b.length < 3 then (zF, 2, ()) else midF b (headF b) known (if 3 < b.length then 29 else 24)

theorem read56 {b : List Int} (hb : Byt b) (hl : b.length < 100000000) (f0 f : Fr) (known : St) (hk : SmS (ofF f known)) (hr : ofF f known ≠ zS → rightS (ofF f known) = true) (a : Nat) (ha : a ≤ 8 * b.length) :
    J_av1_Read_56 1000000 (stT known (fT f0 (b, (a : Int), (0 : Int), fT f ()))) = some (restF b f known a) := by
  simp only [J_av1_Read_56]
  rw [show P_av1_structure ((f.1, f.2.1, f.2.2.1, f.2.2.2.1, f.2.2.2.2.1, (f.2.2.2.2.2.1.1, f.2.2.2.2.2.1.2.1, f.2.2.2.2.2.1.2.2.1, f.2.2.2.2.2.1.2.2.2.1, f.2.2.2.2.2.1.2.2.2.2.1, f.2.2.2.2.2.1.2.2.2.2.2.1, ()), f.2.2.2.2.2.2.1, f.2.2.2.2.2.2.2.1, f.2.2.2.2.2.2.2.2.1, f.2.2.2.2.2.2.2.2.2.1, f.2.2.2.2.2.2.2.2.2.2.1, f.2.2.2.2.2.2.2.2.2.2.2.1, f.2.2.2.2.2.2.2.2.2.2.2.2.1, f.2.2.2.2.2.2.2.2.2.2.2.2.2.1, ()), (known.1, known.2.1, known.2.2.1, known.2.2.2.1, known.2.2.2.2.1, known.2.2.2.2.2.1, ()), ()) = some (ofF f known, ()) from av1_structure f known]
  unfold restF
  generalize ofF f known = s at hk hr ⊢
  simp only [Option.bind_some, av1_nothing s hk, bne_self_eq_false, Bool.false_eq_true, if_false]
  by_cases hz : s = zS
  · rw [decide_eq_true hz, if_pos rfl, if_pos hz]; rfl
  · rw [decide_eq_false hz, if_neg (by decide), if_neg hz]
    have hr := hr hz
    have hB := right_b hr
    have htg := hB.tg
    have hch := hB.ch
    simp only [av1_place, Option.bind_some]
    cases hp : (inB f.2.2.1 0 63 && decide (placeAt f.2.2.1 s < s.2.2.2.2.1.length)) with
    | false => rfl
    | true =>
      simp only [Bool.not_true, Bool.false_eq_true, if_false]
      have hs0 : Sim b (fun _ : Unit => True) (.ok ((), a)) () (b, (a : Int), 0, ()) := ⟨trivial, rfl, rfl, ha⟩
      unfold actP
      by_cases hA : f.2.2.2.2.2.2.1 = true
      · obtain ⟨v, st', e1, h1⟩ := anumR hb hl hs0 s.2.1.toNat (by omega)
        rw [show ((s.2.1.toNat : Nat) : Int) = s.2.1 by omega] at e1
        rw [if_pos hA, if_pos hA, e1]
        simp only [Option.bind_some]
        have h2 := h1.map (V' := fun _ => True) (fun v => withA f (IntKind.u32.wrap v)) trivial
        have h98 := read98 hb hl f0 (withA f (IntKind.u32.wrap v)) s (by omega) (by omega) h2
        have e := h2.nxt_bind (fun f => tailP b f s)
        rw [← e] at h98
        exact h98
      · rw [if_neg hA, if_neg hA]
        have e : (pureP f : Pa Fr).bind (fun f => tailP b f s) a = nxt (.ok ((), a) : Except Int (Unit × Nat)) (tailP b f s) := rfl
        rw [if_neg (by decide), e, ← read98 hb hl f0 f s (by omega) (by omega) hs0]
        simp only [Option.bind_some]
theorem read39 {b : List Int} (hb : Byt b) (hl : b.length < 100000000) (f0 f : Fr) (hf : f.2.2.2.2.1 = false → f.2.2.2.2.2.1 = zS) (known : St) (hk : SmS known) (hr : known ≠ zS → rightS known = true) (a : Nat) (ha : a ≤ 8 * b.length) :
    J_av1_Read_39 1000000 (stT known (fT f0 (b, (a : Int), (0 : Int), fT f ()))) = some (midF b f known a) := by
  simp only [J_av1_Read_39]
  unfold midF
  by_cases hA : f.2.2.2.2.1 = true
  · obtain ⟨h1, h2, h3⟩ := templ_Get hb hl a ha
    rw [if_pos hA, if_pos hA, h1]
    simp only [Option.bind_some]
    cases hs : structP b a with
    | error e =>
      have he := h2 e hs
      simp only [getR]
      simp only [J_av1_Read_56]
      rw [if_pos (by simpa using he)]
      rfl
    | ok z =>
      obtain ⟨s, a'⟩ := z
      obtain ⟨r1, r2, r3⟩ := struct_right hl ha hs
      simp only [getR]
      have ho : ofF (withS f s) known = s := by
        unfold ofF
        exact if_pos hA
      have sm : SmS s := ⟨by have := r2.ts; omega, by have := r2.ps; omega, by have := r2.zs; omega, fun t ht => by have := r2.t t ht; omega⟩
      exact read56 hb hl f0 (withS f s) known (by rw [ho]; exact sm) (fun _ => by rw [ho]; exact r1) a' r3
  · rw [if_neg hA, if_neg hA]
    simp only [Option.bind_some]
    have ho : ofF f known = known := by simp only [ofF, if_neg hA]
    exact read56 hb hl f0 f known (by rw [ho]; exact hk) (by rw [ho]; exact hr) a ha
theorem truth_at {b : List Int} (hl : b.length < 100000000) (hb : Byt b) (a : Nat) (ha : a + 1 ≤ 8 * b.length) : P_av1_reader_truth (((b, (a : Int), 0, ()), ()), ()) = some (bitB b a, ((b, ((a + 1 : Nat) : Int), 0, ()), ()), ()) := by
  obtain ⟨v, st', e1, h1⟩ := atruthR hb hl (q := .ok ((), a)) (V := fun _ : Unit => True) (x := ()) (st := (b, (a : Int), 0, ())) ⟨trivial, rfl, rfl, by omega⟩
  rw [e1]
  have h2 := h1.2
  simp only [nxt, boP, Pa.map, numP, if_pos ha] at h2
  obtain ⟨rfl, rfl, _⟩ := h2
  have e : decide (((gbits b a 1 : Nat) : Int) = 1) = bitB b a := by
    unfold bitB
    by_cases h : gbits b a 1 = 1
    · rw [h]; rfl
    · rw [decide_eq_false h, decide_eq_false (by omega)]
  rw [e]
theorem num_at {b : List Int} (hl : b.length < 100000000) (hb : Byt b) (a n : Nat) (hn : n ≤ 32) (ha : a + n ≤ 8 * b.length) : P_av1_reader_number (((b, (a : Int), 0, ()), ()), (n : Int), ()) = some (((gbits b a n : Nat) : Int), ((b, ((a + n : Nat) : Int), 0, ()), ()), ()) := by
  obtain ⟨v, st', e1, h1⟩ := anumR hb hl (q := .ok ((), a)) (V := fun _ : Unit => True) (x := ()) (st := (b, (a : Int), 0, ())) ⟨trivial, rfl, rfl, by omega⟩ n hn
  rw [e1]
  have h2 := h1.2
  simp only [nxt, numP, if_pos ha] at h2
  obtain ⟨rfl, rfl, _⟩ := h2
  rfl
theorem av1_Read {b : List Int} (hb : Byt b) (hl : b.length < 100000000) (known : St) (hk : SmS known) : P_av1_Read (b, known, ()) = some (readF b known) := by
  rw [E_av1_Read, N_av1_Read]
  simp only [av1_nothing known hk, Option.bind_some, templ_Right known hk]
  unfold readF
  have k1 : ∀ (X : Option (T_api_Frame × Int × Unit)) (Y : T_api_Frame × Int × Unit), ((if (!decide (known = zS)) = true then some (rightS known, ()) else some (false, ())).bind fun (r2 : Bool × Unit) => if (if (!decide (known = zS)) = true then !r2.1 else false) = true then some Y else X) = if (decide (known = zS) || rightS known) = false then some Y else X := by
    intro X Y
    cases decide (known = zS) <;> cases rightS known <;> rfl
  rw [k1]
  by_cases hc : (decide (known = zS) || rightS known) = false
  · rw [if_pos hc, if_pos hc]; rfl
  · rw [if_neg hc, if_neg hc]
    have hr : known ≠ zS → rightS known = true := by
      intro h
      simp [h] at hc
      exact hc
    by_cases h3 : b.length < 3
    · rw [if_pos (decide_eq_true (by omega)), if_pos h3]; rfl
    · rw [if_neg (by rw [decide_eq_true_eq]; omega), if_neg h3]
      have es : P_bits_Start (b, ()) = some ((b, (0 : Int), (0 : Int), ()), ()) := by rw [E_bits_Start, N_bits_Start]
      have t0 := truth_at hl hb 0 (by omega)
      have t1 := truth_at hl hb 1 (by omega)
      have t2 := num_at hl hb 2 6 (by omega) (by omega)
      have t3 := num_at hl hb 8 16 (by omega) (by omega)
      have t0' : P_av1_reader_truth (((b, (0 : Int), (0 : Int), ()), ()), ()) = some (bitB b 0, ((b, ((1 : Nat) : Int), 0, ()), ()), ()) := t0
      have t2' : P_av1_reader_number (((b, ((1 + 1 : Nat) : Int), (0 : Int), ()), ()), (6 : Int), ()) = some (((gbits b 2 6 : Nat) : Int), ((b, ((8 : Nat) : Int), 0, ()), ()), ()) := t2
      have t3' : P_av1_reader_number (((b, ((8 : Nat) : Int), (0 : Int), ()), ()), (16 : Int), ()) = some (((gbits b 8 16 : Nat) : Int), ((b, ((24 : Nat) : Int), 0, ()), ()), ()) := t3
      simp only [es, t0', t1, t2', t3', Option.bind_some]
      by_cases h4 : 3 < b.length
      · have u0 := truth_at hl hb 24 (by omega)
        have u1 := truth_at hl hb 25 (by omega)
        have u2 := truth_at hl hb 26 (by omega)
        have u3 := truth_at hl hb 27 (by omega)
        have u4 := truth_at hl hb 28 (by omega)
        have n1 : (24 + 1 : Nat) = 25 := rfl
        have n2 : (25 + 1 : Nat) = 26 := rfl
        have n3 : (26 + 1 : Nat) = 27 := rfl
        have n4 : (27 + 1 : Nat) = 28 := rfl
        have n5 : (28 + 1 : Nat) = 29 := rfl
        rw [n1] at u0
        rw [n2] at u1
        rw [n3] at u2
        rw [n4] at u3
        rw [n5] at u4
        rw [if_pos (decide_eq_true (show (b.length : Int) > 3 by omega)), if_pos h4]
        simp only [u0, u1, u2, u3, u4, Option.bind_some]
        have := read39 hb hl zF (headF b) (fun _ => rfl) known hk hr 29 (by omega)
        simp only [headF, decide_eq_true h4, Bool.true_and] at this ⊢
        exact this
      · rw [if_neg (by rw [decide_eq_true_eq]; omega), if_neg h4]
        simp only [Option.bind_some]
        have := read39 hb hl zF (headF b) (fun _ => rfl) known hk hr 24 (by omega)
        simp only [headF, decide_eq_false h4, Bool.false_and] at this ⊢
        exact this
end Go.Proofs.Try.Eng


