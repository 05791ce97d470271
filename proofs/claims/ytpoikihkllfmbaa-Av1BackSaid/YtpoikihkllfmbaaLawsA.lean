/- What the program's single functions compute, in plain terms. -/
import Derived.Test.YtpoikihkllfmbaaEngA
import Derived.Test.YtpoikihkllfmbaaNf
set_option linter.unusedVariables false
namespace Go.Eng

theorem wrap64 {n : Int} (h1 : -9223372036854775808 ≤ n) (h2 : n < 9223372036854775808) : IntKind.i64.wrap n = n := by
  unfold IntKind.wrap IntKind.signed IntKind.bits
  simp only [Bool.true_and, decide_eq_true_eq]
  have e : (2 : Int) ^ 64 = 18446744073709551616 := by decide
  have e' : (2 : Int) ^ (64 - 1) = 9223372036854775808 := by decide
  rw [e, e']
  split <;> omega

theorem iter_step {D R : Type} {F : (D → Option R) → D → Option R} {n : Nat} {d : D} : iter F (n + 1) d = F (iter F n) d := rfl

/-- a loop whose rounds are known one by one -/
theorem iter_run {D R : Type} {F : (D → Option R) → D → Option R} (st : Nat → D) (len : Nat) (hs : ∀ i J, i < len → F J (st i) = J (st (i + 1))) {r : Option R} (he : ∀ J, F J (st len) = r) :
    ∀ (k i fuel : Nat), i + k = len → k < fuel → iter F fuel (st i) = r
  | k, i, 0, _, h => by omega
  | 0, i, n + 1, h, _ => by
    have : i = len := by omega
    subst this
    exact he _
  | k + 1, i, n + 1, h, hf => by
    rw [iter_step, hs _ _ (by omega)]
    exact iter_run st len hs he k (i + 1) n (by omega) (by omega)

/-- a loop that goes on as long as a test holds -/
theorem iter_all {D R : Type} {F : (D → Option R) → D → Option R} (st : Nat → D) (g : Nat → Bool) {r0 r1 : Option R} (len : Nat) (hs : ∀ i J, i < len → F J (st i) = if g i then J (st (i + 1)) else r0) (he : ∀ J, F J (st len) = r1) :
    ∀ (k i fuel : Nat), i + k = len → k < fuel → iter F fuel (st i) = if (List.range' i k).all g then r1 else r0
  | k, i, 0, _, h => by omega
  | 0, i, n + 1, h, _ => by
    have : i = len := by omega
    subst this
    simp only [List.range'_zero, List.all_nil, if_true]
    exact he _
  | k + 1, i, n + 1, h, hf => by
    rw [iter_step, hs _ _ (by omega)]
    simp only [List.range'_succ, List.all_cons]
    cases hg : g i with
    | false => simp
    | true => simp only [if_true, Bool.true_and]; exact iter_all st g len hs he k (i + 1) n (by omega) (by omega)

/-- a loop whose rounds keep something -/
theorem iter_inv {D R : Type} {F : (D → Option R) → D → Option R} (I : Nat → D → Prop) (Q : Option R → Prop) (len : Nat) (hs : ∀ i d, i < len → I i d → ∃ d', I (i + 1) d' ∧ ∀ J, F J d = J d') (he : ∀ d, I len d → ∀ J, Q (F J d)) :
    ∀ (k i fuel : Nat) (d : D), i + k = len → k < fuel → I i d → Q (iter F fuel d)
  | k, i, 0, _, _, h, _ => by omega
  | 0, i, n + 1, d, h, _, hi => by
    have : i = len := by omega
    subst this
    exact he _ hi _
  | k + 1, i, n + 1, d, h, hf, hi => by
    obtain ⟨d', hi', e⟩ := hs i d (by omega) hi
    rw [iter_step, e]
    exact iter_inv I Q len hs he k (i + 1) n d' (by omega) (by omega) hi'

theorem all_range {α : Type} (l : List α) (p : α → Bool) (z : α) : (List.range' 0 l.length).all (fun i => p (l.getD i z)) = l.all p := by
  rw [Bool.eq_iff_iff]
  simp only [List.all_eq_true, List.mem_range'_1, Nat.zero_le, true_and, Nat.zero_add]
  constructor
  · intro h x hx
    obtain ⟨i, hi, rfl⟩ := List.getElem_of_mem hx
    have := h i hi
    rwa [List.getD_eq_getElem?_getD, List.getElem?_eq_getElem hi, Option.getD_some] at this
  · intro h i hi
    rw [List.getD_eq_getElem?_getD, List.getElem?_eq_getElem hi, Option.getD_some]
    exact h _ (List.getElem_mem hi)

def inB (v lo hi : Int) : Bool := decide (lo ≤ v) && decide (v ≤ hi)
def allB (l : List Int) (lo hi : Int) : Bool := l.all fun v => inB v lo hi

/-- a count that is within what a loop may do -/
theorem nat_lt_len {i n : Nat} : decide (0 ≤ (i : Int) ∧ (i : Int) < (n : Int)) = decide (i < n) := by
  rw [Bool.eq_iff_iff]; simp
theorem wrap_succ {i n : Nat} (h : i < n) (hn : n < 1000000000) : IntKind.i64.wrap ((i : Int) + 1) = ((i + 1 : Nat) : Int) := by
  rw [wrap64 (by omega) (by omega)]; rfl
end Go.Eng


set_option linter.unusedVariables false
set_option linter.unusedSimpArgs false
namespace Go.Proofs.Try.Eng
open Go Go.Eng

theorem templ_within (v lo hi : Int) : P_templ_within (v, lo, hi, ()) = some (inB v lo hi, ()) := by
  rw [E_templ_within, N_templ_within]
  simp only [inB]
  congr 2
  by_cases h : lo ≤ v <;> simp [h]
theorem av1_within (v lo hi : Int) : P_av1_within (v, lo, hi, ()) = some (inB v lo hi, ()) := by
  rw [E_av1_within, N_av1_within]
  simp only [inB]
  congr 2
  by_cases h : lo ≤ v <;> simp [h]

theorem templ_all (l : List Int) (many lo hi : Int) (hl : l.length < 100000) : P_templ_all (l, many, lo, hi, ()) = some (decide ((l.length : Int) = many) && allB l lo hi, ()) := by
  rw [E_templ_all, N_templ_all]
  by_cases h : (l.length : Int) = many
  · subst h
    simp only [bne_self_eq_false, Bool.false_eq_true, if_false, decide_true, Bool.true_and]
    have := iter_all (F := L_templ_all_4 1000000) (fun i => (lo, hi, l, (l.length : Int), (i : Int), ())) (fun i => inB (l.getD i 0) lo hi) (r0 := some (false, ())) (r1 := some (true, ())) l.length
      (fun i J hi' => by
        simp only [L_templ_all_4, nat_lt_len, Int.toNat_natCast, templ_within, Option.bind_some, wrap_succ hi' (show l.length < 1000000000 by omega)]
        rw [decide_eq_true (show (i : Int) < (l.length : Int) by omega), decide_eq_true hi']
        cases inB (l.getD i 0) lo hi <;> simp)
      (fun J => by simp [L_templ_all_4]) l.length 0 1000000 (by omega) (by omega)
    rw [all_range l (fun v => inB v lo hi)] at this
    refine this.trans ?_
    simp only [allB]
    cases l.all fun v => inB v lo hi <;> rfl
  · simp [h]

abbrev Tm := T_api_Template
abbrev St := T_api_Structure
abbrev Fr := T_api_Frame
def zT : Tm := (0, 0, [], [], [], ())
def followS (a t : Tm) : Int :=
  if t.1 == a.1 && t.2.1 == a.2.1 then 0 else if t.1 == a.1 && t.2.1 == IntKind.i64.wrap (a.2.1 + 1) then 1 else if t.1 == IntKind.i64.wrap (a.1 + 1) && t.2.1 == 0 then 2 else 3
theorem bif_and (a b : Bool) : (if a = true then b else false) = (a && b) := by cases a <;> rfl
theorem bif_or (a b : Bool) : (if a = true then true else b) = (a || b) := by cases a <;> rfl
theorem templ_follow (a t : Tm) : P_templ_follow (a, t, ()) = some (followS a t, ()) := by
  rw [E_templ_follow, N_templ_follow]
  simp only [followS, bif_and]
  split
  · rfl
  · split
    · rfl
    · split <;> rfl
theorem templ_sizes (s : St) (h : 1 ≤ s.2.2.2.2.1.length) (h2 : s.2.2.2.2.1.length < 100000) : P_templ_sizes (s, ()) = some (IntKind.i64.wrap ((s.2.2.2.2.1.getD (s.2.2.2.2.1.length - 1) zT).1 + 1), ()) := by
  rw [E_templ_sizes, N_templ_sizes]
  have e : IntKind.i64.wrap ((s.2.2.2.2.1.length : Int) - 1) = ((s.2.2.2.2.1.length - 1 : Nat) : Int) := by rw [wrap64 (by omega) (by omega)]; omega
  simp only [e, Int.toNat_natCast, nat_lt_len]
  rw [if_pos (decide_eq_true (by omega))]
  rfl

structure SmS (s : St) : Prop where
  ts : s.2.2.2.2.1.length < 100000
  ps : s.2.2.2.1.length < 100000
  zs : s.2.2.2.2.2.1.length < 100000
  t : ∀ t ∈ s.2.2.2.2.1, t.2.2.1.length < 100000 ∧ t.2.2.2.1.length < 100000 ∧ t.2.2.2.2.1.length < 100000

def markOk (l : List Int) (many lo hi : Int) : Bool := decide ((l.length : Int) = many) && allB l lo hi
def tmplOk (ts : List Tm) (targets chains : Int) (i : Nat) : Bool :=
  (if i = 0 then !((ts.getD 0 zT).1 != 0 || (ts.getD 0 zT).2.1 != 0) else !(followS (ts.getD (i - 1) zT) (ts.getD i zT) == 3)) &&
  (!(decide ((ts.getD i zT).1 > 3) || decide ((ts.getD i zT).2.1 > 7)) && markOk (ts.getD i zT).2.2.1 targets 0 3 &&
  (!decide (((ts.getD i zT).2.2.2.1.length : Int) > 16) && markOk (ts.getD i zT).2.2.2.1 (ts.getD i zT).2.2.2.1.length 1 16 && markOk (ts.getD i zT).2.2.2.2.1 chains 0 15))
theorem right_tail (b1 m1 b2 m2 m3 : Bool) (J : Option (Bool × Unit)) :
    ((if (!b1) = true then some (m1, ()) else some (false, ())).bind fun (r8 : Bool × Unit) => if (b1 || !r8.1) = true then some (false, ()) else
      (if (!b2) = true then some (m2, ()) else some (false, ())).bind fun (r9 : Bool × Unit) => (if (!(b2 || !r9.1)) = true then some (m3, ()) else some (false, ())).bind fun (r10 : Bool × Unit) =>
        if (b2 || !r9.1 || !r10.1) = true then some (false, ()) else J) = if (!b1 && m1 && (!b2 && m2 && m3)) = true then J else some (false, ()) := by
  cases b1 <;> cases m1 <;> cases b2 <;> cases m2 <;> cases m3 <;> rfl
def sizesOk (s : St) : Bool := (s.2.2.2.2.2.1.length == 0 || ((s.2.2.2.2.2.1.length : Int) == IntKind.i64.wrap ((s.2.2.2.2.1.getD (s.2.2.2.2.1.length - 1) zT).1 + 1))) && s.2.2.2.2.2.1.all fun z => inB z.1 1 65536 && inB z.2.1 1 65536
def rightS (s : St) : Bool :=
  inB s.1 0 63 && inB s.2.1 1 32 && inB s.2.2.1 0 s.2.1 && markOk s.2.2.2.1 (if s.2.2.1 = 0 then 0 else s.2.1) 0 (IntKind.i64.wrap (s.2.2.1 - 1)) && inB s.2.2.2.2.1.length 1 64 &&
  ((List.range' 0 s.2.2.2.2.1.length).all (tmplOk s.2.2.2.2.1 s.2.1 s.2.2.1) && sizesOk s)

theorem templ_Right (s : St) (h : SmS s) : P_templ_Right (s, ()) = some (rightS s, ()) := by
  have hts := h.ts
  rw [E_templ_Right, N_templ_Right]
  simp only [templ_within, Option.bind_some, Bool.not_not, bif_or, bif_and]
  cases h1 : inB s.1 0 63 with
  | false => simp [rightS, h1]
  | true =>
  cases h2 : inB s.2.1 1 32 with
  | false => simp [rightS, h1, h2]
  | true =>
  cases h3 : inB s.2.2.1 0 s.2.1 with
  | false => simp [rightS, h1, h2, h3]
  | true =>
  simp only [Bool.not_true, Bool.or_false, if_true, Option.bind_some, Bool.false_eq_true, if_false]
  have e4 : ∀ (K : (Int × Int × Int × (List (Int)) × (List (T_api_Template)) × (List (T_api_Size)) × Int × Unit) → Option (Bool × Unit)), (if (s.2.2.1 == 0) = true then some (s.1, s.2.1, s.2.2.1, s.2.2.2.1, s.2.2.2.2.1, s.2.2.2.2.2.1, (0 : Int), ()) else some (s.1, s.2.1, s.2.2.1, s.2.2.2.1, s.2.2.2.2.1, s.2.2.2.2.2.1, s.2.1, ())).bind K =
      K (s.1, s.2.1, s.2.2.1, s.2.2.2.1, s.2.2.2.2.1, s.2.2.2.2.2.1, (if s.2.2.1 = 0 then 0 else s.2.1), ()) := by
    intro K
    by_cases h0 : s.2.2.1 = 0 <;> simp [h0]
  rw [e4]
  simp only [templ_all _ _ _ _ h.ps, Option.bind_some]
  cases h5 : markOk s.2.2.2.1 (if s.2.2.1 = 0 then 0 else s.2.1) 0 (IntKind.i64.wrap (s.2.2.1 - 1)) with
  | false => 
    have h5' := h5
    simp only [markOk] at h5'
    simp [rightS, h1, h2, h3, h5, h5']
  | true =>
  have h5' := h5
  simp only [markOk] at h5'
  rw [h5']
  cases h6 : inB s.2.2.2.2.1.length 1 64 with
  | false => simp [rightS, h1, h2, h3, h5, h6]
  | true =>
  simp only [Bool.not_true, Bool.or_false, if_true, Option.bind_some, Bool.false_eq_true, if_false]
  have hpos : 1 ≤ s.2.2.2.2.1.length := by simp [inB] at h6; omega
  have L := iter_all (F := L_templ_Right_9 1000000) (fun i => (s.1, s.2.1, s.2.2.1, s.2.2.2.1, s.2.2.2.2.1, s.2.2.2.2.2.1, s.2.2.2.2.1, (s.2.2.2.2.1.length : Int), (i : Int), ())) (tmplOk s.2.2.2.2.1 s.2.1 s.2.2.1) (r0 := some (false, ())) (r1 := some (sizesOk s, ())) s.2.2.2.2.1.length
    (fun i J hi => by
      have hm : s.2.2.2.2.1.getD i zT ∈ s.2.2.2.2.1 := by
        rw [List.getD_eq_getElem?_getD, List.getElem?_eq_getElem hi, Option.getD_some]; exact List.getElem_mem hi
      obtain ⟨m1, m2, m3⟩ := h.t _ hm
      have hz : ((0 : Int), (0 : Int), ([] : List Int), ([] : List Int), ([] : List Int), ()) = zT := rfl
      have hw : 0 < i → IntKind.i64.wrap ((i : Int) - 1) = ((i - 1 : Nat) : Int) := fun h0 => by rw [wrap64 (by omega) (by omega)]; omega
      simp only [L_templ_Right_9, hz, nat_lt_len, Int.toNat_natCast, wrap_succ hi (show s.2.2.2.2.1.length < 1000000000 by omega)]
      rw [decide_eq_true (show (i : Int) < (s.2.2.2.2.1.length : Int) by omega), decide_eq_true hi]
      simp only [if_true, bif_or, bif_and, templ_all _ _ _ _ m1, templ_all _ _ _ _ m2, templ_all _ _ _ _ m3, templ_follow]
      simp only [right_tail]
      rcases Nat.eq_zero_or_pos i with rfl | h0
      · have e0 : ((0 : Nat) : Int) = 0 := rfl
        have e1 : (((0 : Nat) : Int) == 0) = true := rfl
        have e2 : decide (((0 : Nat) : Int) > 0) = false := rfl
        simp only [e1, e2, Bool.and_false, Bool.not_false, Bool.true_or, if_true, Bool.false_eq_true, if_false, Option.bind_some, Bool.true_and, Bool.false_and, Bool.or_false, tmplOk]
        cases ((s.2.2.2.2.1.getD 0 zT).1 != 0 || (s.2.2.2.2.1.getD 0 zT).2.1 != 0)
        · simp only [Bool.false_eq_true, if_false, Bool.not_false, Bool.true_and, markOk]
        · rfl
      · have e1 : ((i : Int) == 0) = false := by simp; omega
        have e2 : decide ((i : Int) > 0) = true := by simp; omega
        have e3 : decide (0 ≤ ((i - 1 : Nat) : Int) ∧ ((i - 1 : Nat) : Int) < (s.2.2.2.2.1.length : Int)) = true := decide_eq_true (by omega)
        simp only [e1, e2, hw h0, e3, Bool.false_and, Bool.not_false, Bool.true_and, Bool.or_true, if_true, Bool.false_or, Option.bind_some, Int.toNat_natCast, tmplOk, if_neg (show ¬ i = 0 by omega)]
        cases (followS (s.2.2.2.2.1.getD (i - 1) zT) (s.2.2.2.2.1.getD i zT) == 3)
        · simp only [Bool.false_eq_true, if_false, Bool.not_false, Bool.true_and, markOk]
        · rfl)
    (fun J => by
      simp only [L_templ_Right_9]
      rw [decide_eq_false (show ¬ ((s.2.2.2.2.1.length : Int) < (s.2.2.2.2.1.length : Int)) by omega)]
      have M := iter_all (F := L_templ_Right_21 1000000) (fun i => (s.2.2.2.2.2.1, (s.2.2.2.2.2.1.length : Int), (i : Int), ())) (fun i => inB (s.2.2.2.2.2.1.getD i (0, 0, ())).1 1 65536 && inB (s.2.2.2.2.2.1.getD i (0, 0, ())).2.1 1 65536) (r0 := some (false, ())) (r1 := some (true, ())) s.2.2.2.2.2.1.length
        (fun i J hi => by
          have hzs := h.zs
          simp only [L_templ_Right_21, nat_lt_len, Int.toNat_natCast, wrap_succ hi (show s.2.2.2.2.2.1.length < 1000000000 by omega), templ_within, Option.bind_some]
          rw [decide_eq_true (show (i : Int) < (s.2.2.2.2.2.1.length : Int) by omega), decide_eq_true hi]
          cases inB (s.2.2.2.2.2.1.getD i (0, 0, ())).1 1 65536 <;> cases inB (s.2.2.2.2.2.1.getD i (0, 0, ())).2.1 1 65536 <;> rfl)
        (fun J => by simp [L_templ_Right_21]) s.2.2.2.2.2.1.length 0 1000000 (by omega) (by have := h.zs; omega)
      rw [all_range s.2.2.2.2.2.1 (fun z => inB z.1 1 65536 && inB z.2.1 1 65536) (0, 0, ())] at M
      have M' : ∀ x, x = iter (L_templ_Right_21 1000000) 1000000 (s.2.2.2.2.2.1, (s.2.2.2.2.2.1.length : Int), 0, ()) → x = some (s.2.2.2.2.2.1.all fun z => inB z.1 1 65536 && inB z.2.1 1 65536, ()) := by
        intro x hx
        rw [hx]
        refine M.trans ?_
        cases (s.2.2.2.2.2.1.all fun z => inB z.1 1 65536 && inB z.2.1 1 65536) <;> rfl
      rw [M' _ rfl]
      simp only [Bool.false_eq_true, if_false, bif_and, templ_sizes s hpos hts, sizesOk]
      by_cases hz : s.2.2.2.2.2.1.length = 0
      · simp [hz]
      · have : decide ((s.2.2.2.2.2.1.length : Int) > 0) = true := by simp; omega
        simp only [this, if_true, Option.bind_some, Bool.true_and]
        have e : (s.2.2.2.2.2.1.length == 0) = false := by simpa using hz
        simp only [e, Bool.false_or]
        cases he : ((s.2.2.2.2.2.1.length : Int) == IntKind.i64.wrap ((s.2.2.2.2.1.getD (s.2.2.2.2.1.length - 1) zT).1 + 1)) <;> simp only [bne, he, Bool.not_false, Bool.not_true, Bool.false_eq_true, if_true, if_false, Bool.true_and, Bool.false_and]) s.2.2.2.2.1.length 0 1000000 (by omega) (by omega)
  refine L.trans ?_
  simp only [rightS, h1, h2, h3, h5, h6, Bool.true_and]
  cases (List.range' 0 s.2.2.2.2.1.length).all (tmplOk s.2.2.2.2.1 s.2.1 s.2.2.1) <;> simp
end Go.Proofs.Try.Eng


set_option linter.unusedVariables false
set_option linter.unusedSimpArgs false
namespace Go.Proofs.Try.Eng
open Go Go.Eng

theorem all_eq {α : Type} [DecidableEq α] (a b : List α) (z : α) (h : a.length = b.length) : (List.range' 0 a.length).all (fun i => decide (a.getD i z = b.getD i z)) = decide (a = b) := by
  rw [Bool.eq_iff_iff]
  simp only [List.all_eq_true, List.mem_range'_1, Nat.zero_le, true_and, Nat.zero_add, decide_eq_true_eq]
  constructor
  · intro hx
    apply List.ext_getElem h
    intro i h1 h2
    have := hx i h1
    simpa [List.getD_eq_getElem?_getD, List.getElem?_eq_getElem h1, List.getElem?_eq_getElem h2] using this
  · rintro rfl i _
    rfl
instance decT3 : DecidableEq (List Int × List Int × List Int × Unit) := inferInstance
instance decTm : DecidableEq (Int × Int × List Int × List Int × List Int × Unit) := inferInstance
instance decSz : DecidableEq (Int × Int × Unit) := inferInstance
instance decS2 : DecidableEq (List (Int × Int × List Int × List Int × List Int × Unit) × List (Int × Int × Unit) × Unit) := inferInstance
instance decSt : DecidableEq (Int × Int × Int × List Int × List (Int × Int × List Int × List Int × List Int × Unit) × List (Int × Int × Unit) × Unit) := inferInstance
theorem beq_dec (a b : Int) : (a == b) = decide (a = b) := by
  rw [Bool.eq_iff_iff]; simp

theorem equal_int (a b : List Int) (ha : a.length < 100000) : P_slices_Equal_int_int (a, b, ()) = some (decide (a = b), ()) := by
  rw [E_slices_Equal_int_int, N_slices_Equal_int_int]
  by_cases h : a.length = b.length
  · have e : ((a.length : Int) != (b.length : Int)) = false := by simp [h]
    simp only [e, Bool.false_eq_true, if_false]
    refine (iter_all (F := L_slices_Equal_int_int_4 1000000) (fun i => (a, b, (a.length : Int), (i : Int), ())) (fun i => decide (a.getD i 0 = b.getD i 0)) (r0 := some (false, ())) (r1 := some (true, ())) a.length
      (fun i J hi => by
        simp only [L_slices_Equal_int_int_4, nat_lt_len, Int.toNat_natCast, wrap_succ hi (show a.length < 1000000000 by omega)]
        rw [decide_eq_true (show (i : Int) < (a.length : Int) by omega), decide_eq_true hi, decide_eq_true (show i < b.length by omega)]
        simp only [if_true, bne, beq_dec]
        cases decide (a.getD i 0 = b.getD i 0) <;> rfl)
      (fun J => by simp [L_slices_Equal_int_int_4]) a.length 0 1000000 (by omega) (by omega)).trans ?_
    rw [all_eq a b 0 h]
    cases decide (a = b) <;> rfl
  · have e : ((a.length : Int) != (b.length : Int)) = true := by simp; omega
    simp only [e, if_true]
    rw [decide_eq_false (fun e => h (by rw [e]))]

theorem equal_size (a b : List T_api_Size) (ha : a.length < 100000) : P_slices_Equal_api_Size_api_Size (a, b, ()) = some (decide (a = b), ()) := by
  rw [E_slices_Equal_api_Size_api_Size, N_slices_Equal_api_Size_api_Size]
  by_cases h : a.length = b.length
  · have e : ((a.length : Int) != (b.length : Int)) = false := by simp [h]
    simp only [e, Bool.false_eq_true, if_false]
    refine (iter_all (F := L_slices_Equal_api_Size_api_Size_4 1000000) (fun i => (a, b, (a.length : Int), (i : Int), ())) (fun i => decide (a.getD i (0, 0, ()) = b.getD i (0, 0, ()))) (r0 := some (false, ())) (r1 := some (true, ())) a.length
      (fun i J hi => by
        simp only [L_slices_Equal_api_Size_api_Size_4, nat_lt_len, Int.toNat_natCast, wrap_succ hi (show a.length < 1000000000 by omega)]
        rw [decide_eq_true (show (i : Int) < (a.length : Int) by omega), decide_eq_true hi, decide_eq_true (show i < b.length by omega)]
        have he : (((a.getD i (0, 0, ())).1 == (b.getD i (0, 0, ())).1) && (((a.getD i (0, 0, ())).2.1 == (b.getD i (0, 0, ())).2.1) && true)) = decide (a.getD i (0, 0, ()) = b.getD i (0, 0, ())) := by
          rw [Bool.eq_iff_iff]
          simp only [Bool.and_true, Bool.and_eq_true, beq_iff_eq, decide_eq_true_eq, Prod.ext_iff, and_true]
        simp only [if_true, he]
        cases decide (a.getD i (0, 0, ()) = b.getD i (0, 0, ())) <;> rfl)
      (fun J => by simp [L_slices_Equal_api_Size_api_Size_4]) a.length 0 1000000 (by omega) (by omega)).trans ?_
    rw [all_eq a b (0, 0, ()) h]
    cases decide (a = b) <;> rfl
  · have e : ((a.length : Int) != (b.length : Int)) = true := by simp; omega
    simp only [e, if_true]
    rw [decide_eq_false (fun e => h (by rw [e]))]

def SmT (t : Tm) : Prop := t.2.2.1.length < 100000 ∧ t.2.2.2.1.length < 100000 ∧ t.2.2.2.2.1.length < 100000
theorem same_1 (a b : Tm) (h : SmT a) : P_templ_Same_1 (a, b, ()) = some (decide (a = b), ()) := by
  rw [E_templ_Same_1, N_templ_Same_1]
  simp only [equal_int _ _ h.1, equal_int _ _ h.2.1, equal_int _ _ h.2.2, bif_and, beq_dec]
  have : decide (a = b) = (decide (a.1 = b.1) && decide (a.2.1 = b.2.1) && decide (a.2.2.1 = b.2.2.1) && decide (a.2.2.2.1 = b.2.2.2.1) && decide (a.2.2.2.2.1 = b.2.2.2.2.1)) := by
    rw [Bool.eq_iff_iff]
    simp only [Bool.and_eq_true, decide_eq_true_eq, Prod.ext_iff, and_true, and_assoc]
  rw [this]
  cases decide (a.1 = b.1) <;> cases decide (a.2.1 = b.2.1) <;> cases decide (a.2.2.1 = b.2.2.1) <;> cases decide (a.2.2.2.1 = b.2.2.2.1) <;> cases decide (a.2.2.2.2.1 = b.2.2.2.2.1) <;> rfl

theorem equal_tm (a b : List Tm) (ha : a.length < 100000) (ht : ∀ t ∈ a, SmT t) : P_slices_EqualFunc_api_Template_api_Template_api_Template_api_Template (a, b, (), ()) = some (decide (a = b), ()) := by
  rw [E_slices_EqualFunc_api_Template_api_Template_api_Template_api_Template, N_slices_EqualFunc_api_Template_api_Template_api_Template_api_Template]
  by_cases h : a.length = b.length
  · have e : ((a.length : Int) != (b.length : Int)) = false := by simp [h]
    simp only [e, Bool.false_eq_true, if_false]
    refine (iter_all (F := L_slices_EqualFunc_api_Template_api_Template_api_Template_api_Template_4 1000000) (fun i => (b, a, (a.length : Int), (i : Int), ())) (fun i => decide (a.getD i zT = b.getD i zT)) (r0 := some (false, ())) (r1 := some (true, ())) a.length
      (fun i J hi => by
        have hz : ((0 : Int), (0 : Int), ([] : List Int), ([] : List Int), ([] : List Int), ()) = zT := rfl
        have hm : a.getD i zT ∈ a := by
          rw [List.getD_eq_getElem?_getD, List.getElem?_eq_getElem hi, Option.getD_some]; exact List.getElem_mem hi
        simp only [L_slices_EqualFunc_api_Template_api_Template_api_Template_api_Template_4, nat_lt_len, Int.toNat_natCast, wrap_succ hi (show a.length < 1000000000 by omega), hz, same_1 _ _ (ht _ hm), Option.bind_some]
        rw [decide_eq_true (show (i : Int) < (a.length : Int) by omega), decide_eq_true hi, decide_eq_true (show i < b.length by omega)]
        simp only [if_true]
        cases decide (a.getD i zT = b.getD i zT) <;> rfl)
      (fun J => by simp [L_slices_EqualFunc_api_Template_api_Template_api_Template_api_Template_4]) a.length 0 1000000 (by omega) (by omega)).trans ?_
    rw [all_eq a b zT h]
    cases decide (a = b) <;> rfl
  · have e : ((a.length : Int) != (b.length : Int)) = true := by simp; omega
    simp only [e, if_true]
    rw [decide_eq_false (fun e => h (by rw [e]))]

theorem templ_Same (a b : St) (h : SmS a) : P_templ_Same (a, b, ()) = some (decide (a = b), ()) := by
  rw [E_templ_Same, N_templ_Same]
  simp only [equal_int _ _ h.ps, equal_size _ _ h.zs, equal_tm _ _ h.ts h.t, bif_and, beq_dec]
  have : decide (a = b) = (decide (a.1 = b.1) && decide (a.2.1 = b.2.1) && decide (a.2.2.1 = b.2.2.1) && decide (a.2.2.2.1 = b.2.2.2.1) && decide (a.2.2.2.2.2.1 = b.2.2.2.2.2.1) && decide (a.2.2.2.2.1 = b.2.2.2.2.1)) := by
    rw [Bool.eq_iff_iff]
    simp only [Bool.and_eq_true, decide_eq_true_eq, Prod.ext_iff, and_true, and_assoc]
    constructor <;> (rintro ⟨h1, h2, h3, h4, h5, h6⟩; exact ⟨h1, h2, h3, h4, h6, h5⟩)
  rw [this]
  cases decide (a.1 = b.1) <;> cases decide (a.2.1 = b.2.1) <;> cases decide (a.2.2.1 = b.2.2.1) <;> cases decide (a.2.2.2.1 = b.2.2.2.1) <;> cases decide (a.2.2.2.2.1 = b.2.2.2.2.1) <;> cases decide (a.2.2.2.2.2.1 = b.2.2.2.2.2.1) <;> rfl

def zS : St := (0, 0, 0, [], [], [], ())
theorem av1_nothing (s : St) (h : SmS s) : P_av1_nothing (s, ()) = some (decide (s = zS), ()) := by
  rw [E_av1_nothing, N_av1_nothing]
  simp only [templ_Same _ _ h, Option.bind_some]
  rfl
def ofF (f : Fr) (known : St) : St := if f.2.2.2.2.1 then f.2.2.2.2.2.1 else known
theorem av1_structure (f : Fr) (known : St) : P_av1_structure (f, known, ()) = some (ofF f known, ()) := by
  rw [E_av1_structure, N_av1_structure]
  simp only [ofF]
  split <;> rfl
def placeAt (n : Int) (s : St) : Int := (IntKind.i64.wrap (IntKind.i64.wrap (n - s.1) + 64)).tmod 64
theorem av1_place (n : Int) (s : St) : P_av1_place (n, s, ()) = some (if inB n 0 63 then placeAt n s else 0, inB n 0 63 && decide (placeAt n s < s.2.2.2.2.1.length), ()) := by
  rw [E_av1_place, N_av1_place]
  simp only [av1_within, Option.bind_some]
  cases inB n 0 63 <;> rfl
theorem av1_all (l : List Int) (lo hi : Int) (hl : l.length < 100000) : P_av1_all (l, lo, hi, ()) = some (allB l lo hi, ()) := by
  rw [E_av1_all, N_av1_all]
  refine (iter_all (F := L_av1_all_2 1000000) (fun i => (lo, hi, l, (l.length : Int), (i : Int), ())) (fun i => inB (l.getD i 0) lo hi) (r0 := some (false, ())) (r1 := some (true, ())) l.length
    (fun i J hi' => by
      simp only [L_av1_all_2, nat_lt_len, Int.toNat_natCast, av1_within, Option.bind_some, wrap_succ hi' (show l.length < 1000000000 by omega)]
      rw [decide_eq_true (show (i : Int) < (l.length : Int) by omega), decide_eq_true hi']
      cases inB (l.getD i 0) lo hi <;> simp)
    (fun J => by simp [L_av1_all_2]) l.length 0 1000000 (by omega) (by omega)).trans ?_
  rw [all_range l (fun v => inB v lo hi)]
  simp only [allB]
  cases l.all fun v => inB v lo hi <;> rfl
def ownOk (has : Bool) (l : List Int) (many lo hi : Int) : Bool := if has then ((l.length : Int) == many) && allB l lo hi else ((l.length : Int) == 0)
theorem av1_own (has : Bool) (l : List Int) (many lo hi : Int) (hl : l.length < 100000) : P_av1_own (has, l, many, lo, hi, ()) = some (ownOk has l many lo hi, ()) := by
  rw [E_av1_own, N_av1_own]
  simp only [av1_all _ _ _ hl, bif_and, ownOk]
  cases has
  · rfl
  · cases ((l.length : Int) == many) <;> cases allB l lo hi <;> rfl

structure SmF (f : Fr) : Prop where
  s : SmS f.2.2.2.2.2.1
  m : f.2.2.2.2.2.2.2.2.2.1.length < 100000
  d : f.2.2.2.2.2.2.2.2.2.2.2.1.length < 100000
  c : f.2.2.2.2.2.2.2.2.2.2.2.2.2.1.length < 100000
def rightF (f : Fr) (known : St) : Bool :=
  (decide (known = zS) || rightS known) && rightS (ofF f known) && (f.2.2.2.2.1 || decide (f.2.2.2.2.2.1 = zS)) &&
  (inB f.2.2.1 0 63 && decide (placeAt f.2.2.1 (ofF f known) < (ofF f known).2.2.2.2.1.length)) && inB f.2.2.2.1 0 65535 &&
  !(decide ((IntKind.u64.wrap f.2.2.2.2.2.2.2.1) ≥ (IntKind.u64.wrap ((1 : Int) * 2 ^ (min (ofF f known).2.1.toNat IntKind.u64.bits)))) || (!f.2.2.2.2.2.2.1 && (f.2.2.2.2.2.2.2.1 != 0))) &&
  (!decide ((f.2.2.2.2.2.2.2.2.2.2.2.1.length : Int) > 16) && ownOk f.2.2.2.2.2.2.2.2.2.2.1 f.2.2.2.2.2.2.2.2.2.2.2.1 f.2.2.2.2.2.2.2.2.2.2.2.1.length 1 4096) &&
  ownOk f.2.2.2.2.2.2.2.2.1 f.2.2.2.2.2.2.2.2.2.1 (ofF f known).2.1 0 3 && ownOk f.2.2.2.2.2.2.2.2.2.2.2.2.1 f.2.2.2.2.2.2.2.2.2.2.2.2.2.1 (ofF f known).2.2.1 0 255
theorem ofF_sm {f : Fr} {known : St} (hf : SmF f) (hk : SmS known) : SmS (ofF f known) := by
  unfold ofF; split
  · exact hf.s
  · exact hk
theorem av1_Right (f : Fr) (known : St) (hf : SmF f) (hk : SmS known) : P_av1_Right (f, known, ()) = some (rightF f known, ()) := by
  rw [E_av1_Right, N_av1_Right]
  simp only [av1_nothing _ hk, av1_nothing _ hf.s, templ_Right _ hk, av1_structure, templ_Right _ (ofF_sm hf hk), Option.bind_some, bif_and, bif_or, av1_place, av1_within, Bool.not_not,
    av1_own _ _ _ _ _ hf.d, av1_own _ _ _ _ _ hf.m, av1_own _ _ _ _ _ hf.c]
  have e1 : ∀ (X : Option (Bool × Unit)), ((if (!decide (known = zS)) = true then some (rightS known, ()) else some (false, ())).bind fun r2 => if (!decide (known = zS) && !r2.1) = true then some (false, ()) else X) =
      if (decide (known = zS) || rightS known) = true then X else some (false, ()) := by
    intro X
    cases decide (known = zS) <;> cases rightS known <;> rfl
  rw [e1]
  cases h1 : (decide (known = zS) || rightS known) with
  | false => simp only [rightF, h1, Bool.false_and]; rfl
  | true =>
  simp only [if_true]
  cases h2 : rightS (ofF f known) with
  | false => simp only [rightF, h1, h2, Bool.false_and, Bool.and_false]; rfl
  | true =>
  cases h3 : (f.2.2.2.2.1 || decide (f.2.2.2.2.2.1 = zS)) with
  | false =>
    simp only [Bool.or_eq_false_iff] at h3
    simp only [rightF, h1, h2, h3, Bool.false_and, Bool.and_false]; rfl
  | true =>
  have e3 : ∀ (X : Option (Bool × Unit)), ((if (true && !f.2.2.2.2.1) = true then some (decide (f.2.2.2.2.2.1 = zS), ()) else some (false, ())).bind fun r5 => if (!true || !f.2.2.2.2.1 && !r5.1) = true then some (false, ()) else X) = X := by
    intro X
    revert h3
    cases f.2.2.2.2.1 <;> cases decide (f.2.2.2.2.2.1 = zS) <;> simp
  rw [e3]
  cases h4 : (inB f.2.2.1 0 63 && decide (placeAt f.2.2.1 (ofF f known) < (ofF f known).2.2.2.2.1.length)) with
  | false => simp only [rightF, h1, h2, h3, h4, Bool.false_and, Bool.and_false]; rfl
  | true =>
  cases h5 : inB f.2.2.2.1 0 65535 with
  | false => simp only [rightF, h1, h2, h3, h4, h5, Bool.false_and, Bool.and_false]; rfl
  | true =>
  have ht : decide (0 ≤ (ofF f known).2.1) = true := by
    have : inB (ofF f known).2.1 1 32 = true := by
      simp only [rightS, Bool.and_eq_true] at h2
      exact h2.1.1.1.1.2
    simp only [inB, Bool.and_eq_true, decide_eq_true_eq] at this
    exact decide_eq_true (by omega)
  simp only [if_true, Option.bind_some, Bool.not_true, Bool.or_false, Bool.false_eq_true, if_false, ht]
  generalize hg6 : (decide ((IntKind.u64.wrap f.2.2.2.2.2.2.2.1) ≥ (IntKind.u64.wrap ((1 : Int) * 2 ^ (min (ofF f known).2.1.toNat IntKind.u64.bits)))) || (!f.2.2.2.2.2.2.1 && (f.2.2.2.2.2.2.2.1 != 0))) = b6
  simp only [rightF, h1, h2, h3, h4, h5, hg6, Bool.true_and]
  generalize decide ((f.2.2.2.2.2.2.2.2.2.2.2.1.length : Int) > 16) = b7
  generalize ownOk f.2.2.2.2.2.2.2.2.2.2.1 f.2.2.2.2.2.2.2.2.2.2.2.1 f.2.2.2.2.2.2.2.2.2.2.2.1.length 1 4096 = b8
  generalize ownOk f.2.2.2.2.2.2.2.2.1 f.2.2.2.2.2.2.2.2.2.1 (ofF f known).2.1 0 3 = b9
  generalize ownOk f.2.2.2.2.2.2.2.2.2.2.2.2.1 f.2.2.2.2.2.2.2.2.2.2.2.2.2.1 (ofF f known).2.2.1 0 255 = b10
  cases b6 <;> cases b7 <;> cases b8 <;> cases b9 <;> cases b10 <;> rfl
end Go.Proofs.Try.Eng


set_option linter.unusedVariables false
set_option linter.unusedSimpArgs false
namespace Go.Proofs.Try.Eng
open Go Go.Eng

theorem clone_int (l : List Int) (h : l.length < 100000) : P_slices_Clone_int_int (l, ()) = some (l, ()) := by
  show (if decide ((([] : List Int).length + l.length) * 8 ≤ 140737488355328) = true then some (l, ()) else none) = _
  rw [if_pos (decide_eq_true (by simp only [List.length_nil]; omega))]
theorem clone_size (l : List T_api_Size) (h : l.length < 100000) : P_slices_Clone_api_Size_api_Size (l, ()) = some (l, ()) := by
  show (if decide ((([] : List T_api_Size).length + l.length) * 16 ≤ 140737488355328) = true then some (l, ()) else none) = _
  rw [if_pos (decide_eq_true (by simp only [List.length_nil]; omega))]
theorem clone_tm (l : List Tm) (h : l.length < 100000) : P_slices_Clone_api_Template_api_Template (l, ()) = some (l, ()) := by
  show (if decide ((([] : List Tm).length + l.length) * 88 ≤ 140737488355328) = true then some (l, ()) else none) = _
  rw [if_pos (decide_eq_true (by simp only [List.length_nil]; omega))]
theorem copyOf (t : Tm) (h : SmT t) : P_av1_copyOf (t, ()) = some (t, ()) := by
  rw [E_av1_copyOf, N_av1_copyOf]
  simp only [clone_int _ h.1, clone_int _ h.2.1, clone_int _ h.2.2, Option.bind_some]
theorem getD_mem {α : Type} {l : List α} {i : Nat} {z : α} (hi : i < l.length) : l.getD i z ∈ l := by
  rw [List.getD_eq_getElem?_getD, List.getElem?_eq_getElem hi, Option.getD_some]; exact List.getElem_mem hi
theorem set_getD {α : Type} {l : List α} {i : Nat} {z : α} (hi : i < l.length) : l.set i (l.getD i z) = l := by
  rw [List.getD_eq_getElem?_getD, List.getElem?_eq_getElem hi, Option.getD_some]; exact List.set_getElem_self hi

theorem zT_eq : ((0 : Int), (0 : Int), ([] : List Int), ([] : List Int), ([] : List Int), ()) = zT := rfl
theorem av1_Known (f : Fr) (known : St) (hf : SmF f) (hk : SmS known) : P_av1_Known (f, known, ()) = some (if rightF f known then ofF f known else known, ()) := by
  rw [E_av1_Known, N_av1_Known]
  simp only [av1_Right f known hf hk, av1_structure, Option.bind_some]
  have e1 : ∀ (K : (Int × Int × Int × (List (Int)) × (List (T_api_Template)) × (List (T_api_Size)) × Int × Int × Int × (List (Int)) × (List (T_api_Template)) × (List (T_api_Size)) × Unit) → Option (T_api_Structure × Unit)) (a b : St),
      (if rightF f known = true then some ((0 : Int), (0 : Int), (0 : Int), ([] : List (Int)), ([] : List (T_api_Template)), ([] : List (T_api_Size)), a.1, a.2.1, a.2.2.1, a.2.2.2.1, a.2.2.2.2.1, a.2.2.2.2.2.1, ()) else
        some ((0 : Int), (0 : Int), (0 : Int), ([] : List (Int)), ([] : List (T_api_Template)), ([] : List (T_api_Size)), b.1, b.2.1, b.2.2.1, b.2.2.2.1, b.2.2.2.2.1, b.2.2.2.2.2.1, ())).bind K =
      K ((0 : Int), (0 : Int), (0 : Int), ([] : List (Int)), ([] : List (T_api_Template)), ([] : List (T_api_Size)), (if rightF f known then a else b).1, (if rightF f known then a else b).2.1, (if rightF f known then a else b).2.2.1, (if rightF f known then a else b).2.2.2.1, (if rightF f known then a else b).2.2.2.2.1, (if rightF f known then a else b).2.2.2.2.2.1, ()) := by
    intro K a b
    cases rightF f known <;> rfl
  rw [e1]
  have hs : SmS (if rightF f known then ofF f known else known) := by
    split
    · exact ofF_sm hf hk
    · exact hk
  generalize (if rightF f known then ofF f known else known) = s at hs ⊢
  simp only [clone_int _ hs.ps, clone_size _ hs.zs, clone_tm _ hs.ts, Option.bind_some]
  have hts := hs.ts
  refine iter_run (F := L_av1_Known_7 1000000) (fun i => ((0 : Int), (0 : Int), (0 : Int), ([] : List (Int)), ([] : List (T_api_Template)), ([] : List (T_api_Size)), s.1, s.2.1, s.2.2.1, s.2.2.2.1, s.2.2.2.2.1, s.2.2.2.2.2.1, (s.2.2.2.2.1.length : Int), (i : Int), ())) s.2.2.2.2.1.length
    (fun i J hi => ?_) (fun J => ?_) s.2.2.2.2.1.length 0 1000000 (by omega) (by omega)
  · simp only [L_av1_Known_7, nat_lt_len, Int.toNat_natCast, wrap_succ hi (show s.2.2.2.2.1.length < 1000000000 by omega), zT_eq, copyOf _ (hs.t _ (getD_mem hi)), Option.bind_some, set_getD hi]
    rw [decide_eq_true (show (i : Int) < (s.2.2.2.2.1.length : Int) by omega), decide_eq_true hi]
    rfl
  · simp only [L_av1_Known_7]
    rw [decide_eq_false (by omega)]
    rfl

def wholeS (f : Fr) (s : St) : Tm :=
  ((s.2.2.2.2.1.getD (placeAt f.2.2.1 s).toNat zT).1, (s.2.2.2.2.1.getD (placeAt f.2.2.1 s).toNat zT).2.1,
    (if f.2.2.2.2.2.2.2.2.1 then f.2.2.2.2.2.2.2.2.2.1 else (s.2.2.2.2.1.getD (placeAt f.2.2.1 s).toNat zT).2.2.1),
    (if f.2.2.2.2.2.2.2.2.2.2.1 then f.2.2.2.2.2.2.2.2.2.2.2.1 else (s.2.2.2.2.1.getD (placeAt f.2.2.1 s).toNat zT).2.2.2.1),
    (if f.2.2.2.2.2.2.2.2.2.2.2.2.1 then f.2.2.2.2.2.2.2.2.2.2.2.2.2.1 else (s.2.2.2.2.1.getD (placeAt f.2.2.1 s).toNat zT).2.2.2.2.1), ())
theorem bind_ite {α β : Type} (c : Bool) (a b : α) (K : α → Option β) : (if c = true then some a else some b).bind K = K (if c then a else b) := by cases c <;> rfl

theorem right_place {f : Fr} {known : St} (h : rightF f known = true) : inB f.2.2.1 0 63 = true ∧ 0 ≤ placeAt f.2.2.1 (ofF f known) ∧ placeAt f.2.2.1 (ofF f known) < (ofF f known).2.2.2.2.1.length ∧ rightS (ofF f known) = true := by
  simp only [rightF, Bool.and_eq_true, decide_eq_true_eq] at h
  obtain ⟨⟨⟨⟨⟨⟨⟨⟨h1, h2⟩, h3⟩, h4, h5⟩, h6⟩, h7⟩, h8⟩, h9⟩, h10⟩ := h
  refine ⟨h4, ?_, h5, h2⟩
  have hid : inB (ofF f known).1 0 63 = true := by
    simp only [rightS, Bool.and_eq_true] at h2
    exact h2.1.1.1.1.1
  simp only [inB, Bool.and_eq_true, decide_eq_true_eq] at h4 hid
  unfold placeAt
  rw [wrap64 (n := f.2.2.1 - (ofF f known).1) (by omega) (by omega), wrap64 (by omega) (by omega)]
  exact Int.tmod_nonneg _ (by omega)

theorem av1_Whole (f : Fr) (known : St) (hf : SmF f) (hk : SmS known) : P_av1_Whole (f, known, ()) = some (if rightF f known then (wholeS f (ofF f known), 0, ()) else (zT, 1, ())) := by
  rw [E_av1_Whole, N_av1_Whole]
  simp only [av1_Right f known hf hk, Option.bind_some]
  cases hr : rightF f known with
  | false => rfl
  | true =>
  obtain ⟨h1, h2, h3, h4⟩ := right_place hr
  have hs := ofF_sm hf hk
  simp only [Bool.not_true, Bool.false_eq_true, if_false, av1_structure, av1_place, Option.bind_some, h1, if_true, zT_eq]
  rw [decide_eq_true (show 0 ≤ placeAt f.2.2.1 (ofF f known) ∧ placeAt f.2.2.1 (ofF f known) < ((ofF f known).2.2.2.2.1.length : Int) from ⟨h2, h3⟩)]
  have hn : (placeAt f.2.2.1 (ofF f known)).toNat < (ofF f known).2.2.2.2.1.length := by omega
  have ht := hs.t _ (getD_mem (z := zT) hn)
  generalize htt : (ofF f known).2.2.2.2.1.getD (placeAt f.2.2.1 (ofF f known)).toNat zT = t at ht
  have hw : SmT (wholeS f (ofF f known)) := by
    unfold wholeS
    rw [htt]
    refine ⟨?_, ?_, ?_⟩ <;> simp only <;> split
    · exact hf.m
    · exact ht.1
    · exact hf.d
    · exact ht.2.1
    · exact hf.c
    · exact ht.2.2
  have hc := copyOf _ hw
  unfold wholeS at hc ⊢
  rw [htt] at hc ⊢
  revert hc
  cases hm : f.2.2.2.2.2.2.2.2.1 <;> cases hd : f.2.2.2.2.2.2.2.2.2.2.1 <;> cases hcc : f.2.2.2.2.2.2.2.2.2.2.2.2.1 <;> (intro hc; simp only [Bool.false_eq_true, if_true, if_false, Option.bind_some] at hc ⊢; simp only [hc, Option.bind_some])

def shortT (t : Tm) : Bool := !(decide ((t.2.2.1.length : Int) > 99) || decide ((t.2.2.2.1.length : Int) > 99) || decide ((t.2.2.2.2.1.length : Int) > 99))
def shortS (s : St) : Bool := (List.range' 0 (min s.2.2.2.2.1.length 99)).all (fun i => shortT (s.2.2.2.2.1.getD i zT)) && (decide ((s.2.2.2.2.1.length : Int) ≤ 99) && decide ((s.2.2.2.1.length : Int) ≤ 99) && decide ((s.2.2.2.2.2.1.length : Int) ≤ 99))
theorem short26 (s : St) : P_crossbarref26_Short (s, ()) = some (shortS s, ()) := by
  rw [E_crossbarref26_Short, N_crossbarref26_Short]
  refine (iter_all (F := L_crossbarref26_Short_2 1000000) (fun i => (s.1, s.2.1, s.2.2.1, s.2.2.2.1, s.2.2.2.2.1, s.2.2.2.2.2.1, (i : Int), ())) (fun i => shortT (s.2.2.2.2.1.getD i zT)) (r0 := some (false, ())) (r1 := some (decide ((s.2.2.2.2.1.length : Int) ≤ 99) && decide ((s.2.2.2.1.length : Int) ≤ 99) && decide ((s.2.2.2.2.2.1.length : Int) ≤ 99), ())) (min s.2.2.2.2.1.length 99)
    (fun i J hi => ?_) (fun J => ?_) (min s.2.2.2.2.1.length 99) 0 1000000 (by omega) (by omega)).trans ?_
  · have hi' : i < s.2.2.2.2.1.length := by omega
    have hi2 : i < 99 := by omega
    have e : L_crossbarref26_Short_2 1000000 J (s.1, s.2.1, s.2.2.1, s.2.2.2.1, s.2.2.2.2.1, s.2.2.2.2.2.1, (i : Int), ()) =
      if (if decide ((i : Int) < (s.2.2.2.2.1.length : Int)) = true then decide ((i : Int) < 99) else false) = true then
        if decide (0 ≤ (i : Int) ∧ (i : Int) < (s.2.2.2.2.1.length : Int)) = true then
          if (if (if decide (((s.2.2.2.2.1.getD i zT).2.2.1.length : Int) > 99) = true then true else decide (((s.2.2.2.2.1.getD i zT).2.2.2.1.length : Int) > 99)) = true then true else decide (((s.2.2.2.2.1.getD i zT).2.2.2.2.1.length : Int) > 99)) = true then some (false, ())
          else J (s.1, s.2.1, s.2.2.1, s.2.2.2.1, s.2.2.2.2.1, s.2.2.2.2.2.1, IntKind.i64.wrap ((i : Int) + 1), ())
        else none
      else some ((if (if decide ((s.2.2.2.2.1.length : Int) ≤ 99) = true then decide ((s.2.2.2.1.length : Int) ≤ 99) else false) = true then decide ((s.2.2.2.2.2.1.length : Int) ≤ 99) else false), ()) := rfl
    rw [e, wrap_succ hi2 (show 99 < 1000000000 by omega)]
    rw [decide_eq_true (show (i : Int) < (s.2.2.2.2.1.length : Int) by omega), decide_eq_true (show (i : Int) < 99 by omega), decide_eq_true (show 0 ≤ (i : Int) ∧ (i : Int) < (s.2.2.2.2.1.length : Int) by omega)]
    simp only [bif_or, if_true, shortT]
    by_cases hc : (decide (((s.2.2.2.2.1.getD i zT).2.2.1.length : Int) > 99) || decide (((s.2.2.2.2.1.getD i zT).2.2.2.1.length : Int) > 99) || decide (((s.2.2.2.2.1.getD i zT).2.2.2.2.1.length : Int) > 99)) = true
    · simp only [hc, if_true, Bool.not_true, Bool.false_eq_true, if_false]
    · rw [Bool.not_eq_true] at hc
      simp only [hc, if_true, Bool.not_false, Bool.false_eq_true, if_false]
  · simp only [L_crossbarref26_Short_2, bif_and]
    have : (decide (((min s.2.2.2.2.1.length 99 : Nat) : Int) < (s.2.2.2.2.1.length : Int)) && decide (((min s.2.2.2.2.1.length 99 : Nat) : Int) < 99)) = false := by
      rw [Bool.and_eq_false_iff, decide_eq_false_iff_not, decide_eq_false_iff_not]; omega
    rw [this]
    rfl
  · simp only [shortS]
    cases (List.range' 0 (min s.2.2.2.2.1.length 99)).all (fun i => shortT (s.2.2.2.2.1.getD i zT)) <;> simp
theorem short_sm {s : St} (h : shortS s = true) : SmS s := by
  simp only [shortS, Bool.and_eq_true, decide_eq_true_eq] at h
  obtain ⟨h1, ⟨h2, h3⟩, h4⟩ := h
  refine ⟨by omega, by omega, by omega, fun t ht => ?_⟩
  have hm : min s.2.2.2.2.1.length 99 = s.2.2.2.2.1.length := by omega
  rw [hm, all_range s.2.2.2.2.1 shortT zT, List.all_eq_true] at h1
  have := h1 t ht
  simp only [shortT, Bool.not_eq_true', Bool.or_eq_false_iff, decide_eq_false_iff_not] at this
  omega
def shortF (f : Fr) : Bool := shortS f.2.2.2.2.2.1 && decide ((f.2.2.2.2.2.2.2.2.2.1.length : Int) ≤ 99) && decide ((f.2.2.2.2.2.2.2.2.2.2.2.1.length : Int) ≤ 99) && decide ((f.2.2.2.2.2.2.2.2.2.2.2.2.2.1.length : Int) ≤ 99)
theorem short27 (f : Fr) : P_crossbarref27_Short (f, ()) = some (shortF f, ()) := by
  rw [E_crossbarref27_Short, N_crossbarref27_Short]
  simp only [short26, Option.bind_some, bif_and, shortF]
theorem shortF_sm {f : Fr} (h : shortF f = true) : SmF f := by
  simp only [shortF, Bool.and_eq_true, decide_eq_true_eq] at h
  obtain ⟨⟨⟨h1, h2⟩, h3⟩, h4⟩ := h
  exact ⟨short_sm h1, by omega, by omega, by omega⟩
end Go.Proofs.Try.Eng


set_option linter.unusedVariables false
set_option linter.unusedSimpArgs false
namespace Go.Eng
/-- a loop with something that gets less -/
theorem iter_less {D R : Type} {F : (D → Option R) → D → Option R} (I : D → Prop) (μ : D → Nat) (Q : Option R → Prop) (hs : ∀ d, I d → (∀ J, Q (F J d)) ∨ ∃ d', I d' ∧ μ d' < μ d ∧ ∀ J, F J d = J d') :
    ∀ (fuel : Nat) (d : D), I d → μ d < fuel → Q (iter F fuel d)
  | 0, _, _, h => by omega
  | n + 1, d, hi, h => by
    rcases hs d hi with hq | ⟨d', hi', hm, e⟩
    · exact hq _
    · rw [iter_step, e]
      exact iter_less I μ Q hs n d' hi' (by omega)
theorem u64_nonneg (n : Int) : 0 ≤ IntKind.u64.wrap n := by
  unfold IntKind.wrap IntKind.signed IntKind.bits
  simp only [Bool.false_and, Bool.false_eq_true, if_false]
  exact Int.emod_nonneg _ (by decide)
end Go.Eng
namespace Go.Proofs.Try.Eng
open Go Go.Eng

def W (k : T_api_Ink) (b : Nat) : Prop := ∃ m : Nat, k.2.1 = (m : Int) ∧ k.1.length = (m + 7) / 8 ∧ m ≤ b
theorem W.mono {k : T_api_Ink} {b c : Nat} (h : W k b) (hc : b ≤ c) : W k c := by
  obtain ⟨m, h1, h2, h3⟩ := h
  exact ⟨m, h1, h2, by omega⟩

theorem bits_Right_total {k : T_api_Ink} {b : Nat} (h : W k b) (hb : b ≤ 1000000000) : ∃ r, P_bits_Right (k, ()) = some (r, ()) := by
  obtain ⟨m, h1, h2, h3⟩ := h
  rw [E_bits_Right, N_bits_Right]
  have e1 : (m : Int).tmod 8 = ((m % 8 : Nat) : Int) := by rw [Int.tmod_eq_emod_of_nonneg (by omega)]; rfl
  have e2 : (m : Int).tdiv 8 = ((m / 8 : Nat) : Int) := by rw [Int.tdiv_eq_ediv_of_nonneg (by omega)]; rfl
  have e3 : IntKind.i64.wrap ((m / 8 : Nat) : Int) = ((m / 8 : Nat) : Int) := wrap64 (by omega) (by omega)
  have e4 : IntKind.i64.wrap (((m / 8 : Nat) : Int) + 1) = ((m / 8 + 1 : Nat) : Int) := by rw [wrap64 (by omega) (by omega)]; rfl
  have e5 : decide ((m : Int) < 0) = false := decide_eq_false (by omega)
  have e6 : decide ((8 : Int) ≠ 0) = true := by decide
  simp only [h1, e1, e2, e3, e4, e5, e6, if_true, Bool.false_eq_true, if_false]
  by_cases h8 : m % 8 = 0
  · have e7 : (((m % 8 : Nat) : Int) != 0) = false := by rw [h8]; rfl
    have e8 : ((k.1.length : Int) != ((m / 8 : Nat) : Int)) = false := by rw [h2]; simp; omega
    simp only [e7, e8, Bool.false_eq_true, if_false, Option.bind_some, e1]
    exact ⟨_, rfl⟩
  · have e7 : (((m % 8 : Nat) : Int) != 0) = true := by simp; omega
    have e8 : ((k.1.length : Int) != ((m / 8 + 1 : Nat) : Int)) = false := by rw [h2]; simp; omega
    have e9 : IntKind.i64.wrap (((m / 8 + 1 : Nat) : Int) - 1) = ((m / 8 : Nat) : Int) := by rw [wrap64 (by omega) (by omega)]; omega
    simp only [e7, e8, Bool.false_eq_true, if_false, if_true, Option.bind_some, e1, e9]
    rw [decide_eq_true (show 0 ≤ ((m / 8 : Nat) : Int) ∧ ((m / 8 : Nat) : Int) < (k.1.length : Int) by omega), decide_eq_true (u64_nonneg _)]
    exact ⟨_, rfl⟩

theorem bits_draw_total {k : T_api_Ink} {b : Nat} (h : W k b) (hb : b ≤ 1000000000) (v n : Int) (hn : 0 ≤ n) (hn2 : n ≤ 64) : ∃ k', P_bits_draw (k, v, n, ()) = some (k', ()) ∧ W k' (b + n.toNat) := by
  obtain ⟨m, h1, h2, h3⟩ := h
  obtain ⟨c, rfl⟩ := Int.eq_ofNat_of_zero_le hn
  rw [E_bits_draw, N_bits_draw]
  have e6 : decide ((8 : Int) ≠ 0) = true := by decide
  have e1 : IntKind.i64.wrap ((m : Int) + (c : Int)) = ((m + c : Nat) : Int) := by rw [wrap64 (by omega) (by omega)]; rfl
  have e2 : IntKind.i64.wrap (((m + c : Nat) : Int) + 7) = ((m + c + 7 : Nat) : Int) := by rw [wrap64 (by omega) (by omega)]; rfl
  have e3 : ((m + c + 7 : Nat) : Int).tdiv 8 = (((m + c + 7) / 8 : Nat) : Int) := by rw [Int.tdiv_eq_ediv_of_nonneg (by omega)]; rfl
  have e4 : IntKind.i64.wrap (((m + c + 7) / 8 : Nat) : Int) = (((m + c + 7) / 8 : Nat) : Int) := wrap64 (by omega) (by omega)
  simp only [h1, e1, e2, e3, e4, e6, if_true, Int.toNat_natCast, List.length_replicate]
  rw [decide_eq_true (by omega), if_pos rfl]
  refine iter_less (F := L_bits_draw_5 1000000) (fun d => ∃ (cc a : Nat), d.2.2.2.1 = (cc : Int) ∧ d.2.2.2.2.1 = ((m + c : Nat) : Int) ∧ d.2.2.2.2.2.1.length = (m + c + 7) / 8 ∧ d.2.2.2.2.2.2.1 = (a : Int) ∧ a + cc = m + c) (fun d => d.2.2.2.1.toNat)
    (fun o => ∃ k', o = some (k', ()) ∧ W k' (b + (c : Int).toNat)) ?_ 1000000 _ ⟨c, m, rfl, rfl, ?_, rfl, rfl⟩ (by simp only [Int.toNat_natCast]; omega)
  · rintro ⟨a0, b0, v, n', M, out, at', u⟩ ⟨cc, a, hc1, hc2, hc3, hc4, hc5⟩
    simp only at hc1 hc2 hc3 hc4
    subst hc1 hc2 hc4
    by_cases hz : cc = 0
    · left
      intro J
      simp only [L_bits_draw_5]
      rw [decide_eq_false (by omega)]
      exact ⟨_, rfl, m + c, rfl, hc3, by omega⟩
    · right
      have f1 : (a : Int).tmod 8 = ((a % 8 : Nat) : Int) := by rw [Int.tmod_eq_emod_of_nonneg (by omega)]; rfl
      have f2 : (a : Int).tdiv 8 = ((a / 8 : Nat) : Int) := by rw [Int.tdiv_eq_ediv_of_nonneg (by omega)]; rfl
      have f3 : IntKind.i64.wrap (8 - ((a % 8 : Nat) : Int)) = ((8 - a % 8 : Nat) : Int) := by rw [wrap64 (by omega) (by omega)]; omega
      have f4 : (if (cc : Int) < ((8 - a % 8 : Nat) : Int) then (cc : Int) else ((8 - a % 8 : Nat) : Int)) = ((min cc (8 - a % 8) : Nat) : Int) := by split <;> omega
      have f5 : IntKind.i64.wrap ((a / 8 : Nat) : Int) = ((a / 8 : Nat) : Int) := wrap64 (by omega) (by omega)
      have f6 : IntKind.i64.wrap ((cc : Int) - ((min cc (8 - a % 8) : Nat) : Int)) = ((cc - min cc (8 - a % 8) : Nat) : Int) := by rw [wrap64 (by omega) (by omega)]; omega
      have f7 : IntKind.i64.wrap ((a : Int) + ((min cc (8 - a % 8) : Nat) : Int)) = ((a + min cc (8 - a % 8) : Nat) : Int) := by rw [wrap64 (by omega) (by omega)]; omega
      have key : ∃ x, ∀ J, L_bits_draw_5 1000000 J (a0, b0, v, (cc : Int), ((m + c : Nat) : Int), out, (a : Int), u) = J (a0, b0, v, ((cc - min cc (8 - a % 8) : Nat) : Int), ((m + c : Nat) : Int), out.set (a / 8) x, ((a + min cc (8 - a % 8) : Nat) : Int), u) := by
        refine ⟨?x, fun J => ?y⟩
        case y =>
          simp only [L_bits_draw_5, f1, f2, f3, f4, f5, f6, f7, e6, if_true, decide_eq_true (u64_nonneg _), Int.toNat_natCast]
          rw [decide_eq_true (show (cc : Int) > 0 by omega), decide_eq_true (show 0 ≤ ((a / 8 : Nat) : Int) ∧ ((a / 8 : Nat) : Int) < (out.length : Int) by omega)]
          rfl
      obtain ⟨x, key⟩ := key
      refine ⟨_, ⟨cc - min cc (8 - a % 8), a + min cc (8 - a % 8), rfl, rfl, ?_, rfl, by omega⟩, ?_, key⟩
      · simp only [List.length_set]; exact hc3
      · simp only [Int.toNat_natCast]; omega
  · simp only [List.length_append, List.length_take, List.length_drop, List.length_replicate]; omega
end Go.Proofs.Try.Eng


set_option linter.unusedVariables false
set_option linter.unusedSimpArgs false
namespace Go.Eng
/-- a loop within a loop: it goes over into what stands behind it -/
theorem iter_exit {D E R : Type} {F : (E → Option R) → (D → Option R) → D → Option R} (I : Nat → D → Prop) (Pe : E → Prop) (len : Nat) (hs : ∀ i d, i < len → I i d → ∃ d', I (i + 1) d' ∧ ∀ K J, F K J d = J d') (he : ∀ d, I len d → ∃ e, Pe e ∧ ∀ K J, F K J d = K e) :
    ∀ (k i fuel : Nat) (d : D), i + k = len → k < fuel → I i d → ∃ e, Pe e ∧ ∀ K, iter (F K) fuel d = K e
  | k, i, 0, _, _, h, _ => by omega
  | 0, i, n + 1, d, h, _, hi => by
    have : i = len := by omega
    subst this
    obtain ⟨e, h1, h2⟩ := he d hi
    exact ⟨e, h1, fun K => h2 K _⟩
  | k + 1, i, n + 1, d, h, hf, hi => by
    obtain ⟨d', hi', e⟩ := hs i d (by omega) hi
    obtain ⟨x, h1, h2⟩ := iter_exit I Pe len hs he k (i + 1) n d' (by omega) (by omega) hi'
    exact ⟨x, h1, fun K => by rw [iter_step, e]; exact h2 K⟩
end Go.Eng
namespace Go.Proofs.Try.Eng
open Go Go.Eng

theorem u8_range (n : Int) : 0 ≤ IntKind.u8.wrap n ∧ IntKind.u8.wrap n < 256 := by
  unfold IntKind.wrap IntKind.signed IntKind.bits
  simp only [Bool.false_and, Bool.false_eq_true, if_false]
  exact ⟨Int.emod_nonneg _ (by decide), Int.emod_lt_of_pos _ (by decide)⟩

theorem bits_Add_total {k : T_api_Ink} {b : Nat} (h : W k b) (hb : b ≤ 1000000000) (v n : Int) (hn : 0 ≤ n) (hn2 : n ≤ 64) : ∃ k' e, P_bits_Add (k, v, n, ()) = some (k', e, ()) ∧ W k' (b + n.toNat) := by
  rw [E_bits_Add, N_bits_Add]
  obtain ⟨r, hr⟩ := bits_Right_total h hb
  obtain ⟨k', hk, hw⟩ := bits_draw_total h hb v n hn hn2
  simp only [hr, hk, bif_or, bif_and, decide_eq_false (show ¬ n < 0 by omega), decide_eq_false (show ¬ n > 64 by omega), Bool.or_self, Bool.and_true, Bool.false_and, Bool.not_false, if_true, Option.bind_some, Bool.false_or]
  cases r with
  | false => exact ⟨_, _, rfl, h.mono (by omega)⟩
  | true =>
    simp only [Option.bind_some, Bool.false_and, Bool.or_self, Bool.not_true, Bool.false_eq_true, if_false, decide_eq_true (u64_nonneg n), Bool.or_true, if_true]
    split
    · exact ⟨_, _, rfl, h.mono (by omega)⟩
    · exact ⟨_, _, rfl, hw⟩

def lenTab : List UInt8 := [0, 1, 2, 2, 3, 3, 3, 3, 4, 4, 4, 4, 4, 4, 4, 4, 5, 5, 5, 5, 5, 5, 5, 5, 5, 5, 5, 5, 5, 5, 5, 5, 6, 6, 6, 6, 6, 6, 6, 6, 6, 6, 6, 6, 6, 6, 6, 6, 6, 6, 6, 6, 6, 6, 6, 6, 6, 6, 6, 6, 6, 6, 6, 6, 7, 7, 7, 7, 7, 7, 7, 7, 7, 7, 7, 7, 7, 7, 7, 7, 7, 7, 7, 7, 7, 7, 7, 7, 7, 7, 7, 7, 7, 7, 7, 7, 7, 7, 7, 7, 7, 7, 7, 7, 7, 7, 7, 7, 7, 7, 7, 7, 7, 7, 7, 7, 7, 7, 7, 7, 7, 7, 7, 7, 7, 7, 7, 7, 8, 8, 8, 8, 8, 8, 8, 8, 8, 8, 8, 8, 8, 8, 8, 8, 8, 8, 8, 8, 8, 8, 8, 8, 8, 8, 8, 8, 8, 8, 8, 8, 8, 8, 8, 8, 8, 8, 8, 8, 8, 8, 8, 8, 8, 8, 8, 8, 8, 8, 8, 8, 8, 8, 8, 8, 8, 8, 8, 8, 8, 8, 8, 8, 8, 8, 8, 8, 8, 8, 8, 8, 8, 8, 8, 8, 8, 8, 8, 8, 8, 8, 8, 8, 8, 8, 8, 8, 8, 8, 8, 8, 8, 8, 8, 8, 8, 8, 8, 8, 8, 8, 8, 8, 8, 8, 8, 8, 8, 8, 8, 8, 8, 8, 8, 8, 8, 8, 8, 8, 8, 8, 8, 8, 8, 8, 8, 8]
theorem lenTab_ok : ∀ i, i < 256 → (lenTab.getD i 0).toNat ≤ 8 ∧ (1 ≤ i → 1 ≤ (lenTab.getD i 0).toNat) := by
  have h : (List.range 256).all (fun i => decide ((lenTab.getD i 0).toNat ≤ 8) && (decide (i = 0) || decide (1 ≤ (lenTab.getD i 0).toNat))) = true := by decide +kernel
  intro i hi
  have := List.all_eq_true.1 h i (List.mem_range.2 hi)
  simp only [Bool.and_eq_true, Bool.or_eq_true, decide_eq_true_eq] at this
  exact ⟨this.1, fun h1 => by rcases this.2 with h | h <;> omega⟩

theorem len_eq (d : Int × Unit) : N_math_bits_Len64 1000000 d =
    (if (decide (d.1 ≥ (4294967296 : Int))) then if decide (0 ≤ (32 : Int)) then some ((d.1.fdiv (2 ^ (min (32 : Int).toNat IntKind.u64.bits))), (32 : Int), ()) else none else some (d.1, (0 : Int), ()) : Option (Int × Int × Unit)).bind fun (d1 : Int × Int × Unit) =>
    (if (decide (d1.1 ≥ (65536 : Int))) then if decide (0 ≤ (16 : Int)) then some ((d1.1.fdiv (2 ^ (min (16 : Int).toNat IntKind.u64.bits))), (IntKind.i64.wrap (d1.2.1 + (16 : Int))), ()) else none else some d1 : Option (Int × Int × Unit)).bind fun (d2 : Int × Int × Unit) =>
    (if (decide (d2.1 ≥ (256 : Int))) then if decide (0 ≤ (8 : Int)) then some ((d2.1.fdiv (2 ^ (min (8 : Int).toNat IntKind.u64.bits))), (IntKind.i64.wrap (d2.2.1 + (8 : Int))), ()) else none else some d2 : Option (Int × Int × Unit)).bind fun (d3 : Int × Int × Unit) =>
    if decide (0 ≤ (IntKind.u8.wrap d3.1) ∧ (IntKind.u8.wrap d3.1) < (lenTab.length : Int)) then some ((IntKind.i64.wrap (d3.2.1 + (IntKind.i64.wrap ((lenTab.getD (IntKind.u8.wrap d3.1).toNat 0).toNat : Int)))), ()) else none := rfl
theorem len64 (n : Int) (h1 : 1 ≤ n) (h2 : n < 256) : ∃ w : Nat, P_math_bits_Len64 (n, ()) = some ((w : Int), ()) ∧ 1 ≤ w ∧ w ≤ 8 := by
  rw [E_math_bits_Len64, len_eq]
  have hx : IntKind.u8.wrap n = n := by
    unfold IntKind.wrap IntKind.signed IntKind.bits
    simp only [Bool.false_and, Bool.false_eq_true, if_false]
    exact Int.emod_eq_of_lt (by omega) (by omega)
  have e : ∀ (t : List UInt8), t = lenTab → ∃ w : Nat, (if decide (0 ≤ (IntKind.u8.wrap n) ∧ (IntKind.u8.wrap n) < (t.length : Int)) = true then
      some ((IntKind.i64.wrap (0 + (IntKind.i64.wrap ((t.getD (IntKind.u8.wrap n).toNat 0).toNat : Int)))), ()) else none) = some ((w : Int), ()) ∧ 1 ≤ w ∧ w ≤ 8 := by
    rintro t rfl
    have hl : (lenTab.length : Int) = 256 := by decide +kernel
    obtain ⟨t1, t2⟩ := lenTab_ok n.toNat (by omega)
    have t3 := t2 (by omega)
    rw [hl, hx, decide_eq_true (show 0 ≤ n ∧ n < 256 by omega), if_pos rfl, wrap64 (n := ((lenTab.getD n.toNat 0).toNat : Int)) (by omega) (by omega), wrap64 (by omega) (by omega)]
    exact ⟨(lenTab.getD n.toNat 0).toNat, by rw [Int.zero_add], t3, t1⟩
  simp only [decide_eq_false (show ¬ n ≥ 4294967296 by omega), decide_eq_false (show ¬ n ≥ 65536 by omega), decide_eq_false (show ¬ n ≥ 256 by omega), Bool.false_eq_true, if_false, Option.bind_some]
  exact e lenTab rfl

theorem shape_total (n : Int) (h1 : 1 ≤ n) (h2 : n < 256) : ∃ (w : Nat) (m : Int), P_bits_shape (n, ()) = some ((w : Int), m, ()) ∧ 1 ≤ w ∧ w ≤ 8 := by
  rw [E_bits_shape, N_bits_shape]
  obtain ⟨w, hw, h3, h4⟩ := len64 n h1 h2
  simp only [hw, Option.bind_some, decide_eq_true (u64_nonneg _), if_true]
  exact ⟨w, _, rfl, h3, h4⟩

theorem AddRange_total {k : T_api_Ink} {b : Nat} (h : W k b) (hb : b ≤ 1000000000) (v n : Int) (h1 : 1 ≤ n) (h2 : n < 256) : ∃ k' e, P_bits_AddRange (k, v, n, ()) = some (k', e, ()) ∧ W k' (b + 8) := by
  rw [E_bits_AddRange, N_bits_AddRange]
  obtain ⟨r, hr⟩ := bits_Right_total h hb
  obtain ⟨w, m, hs, hw1, hw2⟩ := shape_total n h1 h2
  have e1 : IntKind.i64.wrap ((w : Int) - 1) = ((w - 1 : Nat) : Int) := by rw [wrap64 (by omega) (by omega)]; omega
  obtain ⟨k1, hk1, hw1'⟩ := bits_draw_total h hb v ((w - 1 : Nat) : Int) (by omega) (by omega)
  obtain ⟨k2, hk2, hw2'⟩ := bits_draw_total h hb (IntKind.u64.wrap (v + m)) (w : Int) (by omega) (by omega)
  simp only [hr, bif_or, bif_and, decide_eq_false (show ¬ n < 1 by omega), decide_eq_false (show ¬ n > 4294967296 by omega), Bool.or_self, Bool.and_true, Bool.false_and, Bool.not_false, if_true, Option.bind_some, Bool.false_or, hs, e1, hk1, hk2]
  cases r with
  | false => exact ⟨_, _, rfl, h.mono (by omega)⟩
  | true =>
    simp only [Option.bind_some, Bool.false_and, Bool.or_self, Bool.not_true, Bool.false_eq_true, if_false]
    split
    · exact ⟨_, _, rfl, h.mono (by omega)⟩
    · split
      · exact ⟨_, _, rfl, hw1'.mono (by omega)⟩
      · exact ⟨_, _, rfl, hw2'.mono (by omega)⟩

theorem tnum {k : T_api_Ink} {b : Nat} (h : W k b) (hb : b ≤ 1000000000) (v n : Int) (hn : 0 ≤ n) (hn2 : n ≤ 64) : ∃ k', P_templ_writer_number ((k, ()), v, n, ()) = some ((k', ()), ()) ∧ W k' (b + n.toNat) := by
  rw [E_templ_writer_number, N_templ_writer_number]
  obtain ⟨k', e, hk, hw⟩ := bits_Add_total h hb (IntKind.u64.wrap v) n hn hn2
  simp only [hk, Option.bind_some]
  exact ⟨k', rfl, hw⟩
theorem anum {k : T_api_Ink} {b : Nat} (h : W k b) (hb : b ≤ 1000000000) (v n : Int) (hn : 0 ≤ n) (hn2 : n ≤ 64) : ∃ k', P_av1_writer_number ((k, ()), v, n, ()) = some ((k', ()), ()) ∧ W k' (b + n.toNat) := by
  rw [E_av1_writer_number, N_av1_writer_number]
  obtain ⟨k', e, hk, hw⟩ := bits_Add_total h hb v n hn hn2
  simp only [hk, Option.bind_some]
  exact ⟨k', rfl, hw⟩
theorem atruth {k : T_api_Ink} {b : Nat} (h : W k b) (hb : b ≤ 1000000000) (c : Bool) : ∃ k', P_av1_writer_truth ((k, ()), c, ()) = some ((k', ()), ()) ∧ W k' (b + 1) := by
  rw [E_av1_writer_truth, N_av1_writer_truth]
  obtain ⟨k1, hk1, hw1⟩ := anum h hb 1 1 (by omega) (by omega)
  obtain ⟨k0, hk0, hw0⟩ := anum h hb 0 1 (by omega) (by omega)
  simp only [hk1, hk0, Option.bind_some]
  cases c with
  | false => exact ⟨k0, rfl, hw0⟩
  | true => exact ⟨k1, rfl, hw1⟩
theorem u64_id {n : Int} (h1 : 0 ≤ n) (h2 : n < 18446744073709551616) : IntKind.u64.wrap n = n := by
  unfold IntKind.wrap IntKind.signed IntKind.bits
  simp only [Bool.false_and, Bool.false_eq_true, if_false]
  exact Int.emod_eq_of_lt (by omega) (by omega)
theorem tranged {k : T_api_Ink} {b : Nat} (h : W k b) (hb : b ≤ 1000000000) (v n : Int) (h1 : 1 ≤ n) (h2 : n < 256) : ∃ k', P_templ_writer_ranged ((k, ()), v, n, ()) = some ((k', ()), ()) ∧ W k' (b + 8) := by
  rw [E_templ_writer_ranged, N_templ_writer_ranged]
  obtain ⟨k', e, hk, hw⟩ := AddRange_total h hb (IntKind.u64.wrap v) n h1 h2
  simp only [u64_id (n := n) (by omega) (by omega), hk, Option.bind_some]
  exact ⟨k', rfl, hw⟩
end Go.Proofs.Try.Eng


set_option linter.unusedVariables false
set_option linter.unusedSimpArgs false
namespace Go.Proofs.Try.Eng
open Go Go.Eng

structure Sh (s : St) : Prop where
  ts : s.2.2.2.2.1.length ≤ 99
  ps : s.2.2.2.1.length ≤ 99
  zs : s.2.2.2.2.2.1.length ≤ 99
  t : ∀ t ∈ s.2.2.2.2.1, t.2.2.1.length ≤ 99 ∧ t.2.2.2.1.length ≤ 99 ∧ t.2.2.2.2.1.length ≤ 99
theorem short_sh {s : St} (h : shortS s = true) : Sh s := by
  simp only [shortS, Bool.and_eq_true, decide_eq_true_eq] at h
  obtain ⟨h1, ⟨h2, h3⟩, h4⟩ := h
  refine ⟨by omega, by omega, by omega, fun t ht => ?_⟩
  have hm : min s.2.2.2.2.1.length 99 = s.2.2.2.2.1.length := by omega
  rw [hm, all_range s.2.2.2.2.1 shortT zT, List.all_eq_true] at h1
  have := h1 t ht
  simp only [shortT, Bool.not_eq_true', Bool.or_eq_false_iff, decide_eq_false_iff_not] at this
  omega
theorem lt_cast {i n : Nat} (h : i < n) : decide ((i : Int) < (n : Int)) = true := decide_eq_true (by omega)
theorem in_cast {i n : Nat} (h : i < n) : decide (0 ≤ (i : Int) ∧ (i : Int) < (n : Int)) = true := decide_eq_true (by omega)
theorem nlt_cast (n : Nat) : decide ((n : Int) < (n : Int)) = false := decide_eq_false (by omega)
theorem succ_cast {i : Nat} (h : i < 1000000) : IntKind.i64.wrap ((i : Int) + 1) = ((i + 1 : Nat) : Int) := by rw [wrap64 (by omega) (by omega)]; rfl

def Qw (o : Option ((T_api_Ink × Unit) × Unit)) : Prop := ∃ k', o = some ((k', ()), ()) ∧ W k' 120000

theorem wr50 (zs : List T_api_Size) (hz : zs.length ≤ 99) (k : T_api_Ink) (hk : W k 112000) : Qw (iter (L_templ_writer_write_50 1000000) 1000000 (k.1, k.2.1, zs, (zs.length : Int), (0 : Int), ())) := by
  refine iter_inv (fun i d => ∃ k : T_api_Ink, W k (112000 + 32 * i) ∧ d = (k.1, k.2.1, zs, (zs.length : Int), (i : Int), ())) Qw zs.length ?_ ?_ zs.length 0 1000000 _ (by omega) (by omega) ⟨k, hk, rfl⟩
  · rintro i _ hi ⟨k, hw, rfl⟩
    obtain ⟨k1, e1, w1⟩ := tnum hw (by omega) (IntKind.i64.wrap ((zs.getD i (0, 0, ())).1 - 1)) 16 (by omega) (by omega)
    obtain ⟨k2, e2, w2⟩ := tnum w1 (by omega) (IntKind.i64.wrap ((zs.getD i (0, 0, ())).2.1 - 1)) 16 (by omega) (by omega)
    refine ⟨_, ⟨k2, w2.mono (by omega), rfl⟩, fun J => ?_⟩
    simp only [L_templ_writer_write_50, lt_cast hi, in_cast hi, if_true, Int.toNat_natCast, succ_cast (show i < 1000000 by omega)]
    rw [show (((k.1, k.2.1, ()), ()) : T_api_Ink × Unit) = (k, ()) from rfl, e1, Option.bind_some, e2, Option.bind_some]
  · rintro _ ⟨k, hw, rfl⟩ J
    simp only [L_templ_writer_write_50, nlt_cast, Bool.false_eq_true, if_false]
    exact ⟨k, rfl, hw.mono (by omega)⟩

theorem wr41 (s : St) (ts : List Tm) (l : List Int) (hl : l.length ≤ 99) (i : Nat) (hi : i < 99) (b : Nat) (hb : b ≤ 90000000) (k : T_api_Ink) (hk : W k b) :
    ∃ e, (∃ k' : T_api_Ink, W k' (b + 400) ∧ e = (k'.1, k'.2.1, s.1, s.2.1, s.2.2.1, s.2.2.2.1, s.2.2.2.2.1, s.2.2.2.2.2.1, ts, (ts.length : Int), ((i + 1 : Nat) : Int), ())) ∧
      ∀ J0, iter (L_templ_writer_write_41 1000000 J0) 1000000 (k.1, k.2.1, s.1, s.2.1, s.2.2.1, s.2.2.2.1, s.2.2.2.2.1, s.2.2.2.2.2.1, ts, (ts.length : Int), (i : Int), l, (l.length : Int), (0 : Int), ()) = J0 e := by
  refine iter_exit (F := L_templ_writer_write_41 1000000) (fun j d => ∃ k : T_api_Ink, W k (b + 4 * j) ∧ d = (k.1, k.2.1, s.1, s.2.1, s.2.2.1, s.2.2.2.1, s.2.2.2.2.1, s.2.2.2.2.2.1, ts, (ts.length : Int), (i : Int), l, (l.length : Int), (j : Int), ())) _ l.length ?_ ?_ l.length 0 1000000 _ (by omega) (by omega) ⟨k, hk, rfl⟩
  · rintro j _ hj ⟨k, hw, rfl⟩
    obtain ⟨k1, e1, w1⟩ := tnum hw (by omega) (l.getD j 0) 4 (by omega) (by omega)
    refine ⟨_, ⟨k1, w1.mono (by omega), rfl⟩, fun K J => ?_⟩
    simp only [L_templ_writer_write_41, lt_cast hj, in_cast hj, if_true, Int.toNat_natCast, succ_cast (show j < 1000000 by omega)]
    rw [show (((k.1, k.2.1, ()), ()) : T_api_Ink × Unit) = (k, ()) from rfl, e1, Option.bind_some]
  · rintro _ ⟨k, hw, rfl⟩
    refine ⟨_, ⟨k, hw.mono (by omega), rfl⟩, fun K J => ?_⟩
    simp only [L_templ_writer_write_41, nlt_cast, Bool.false_eq_true, if_false, succ_cast (show i < 1000000 by omega)]

theorem wr38 (s : St) (hs : Sh s) (k : T_api_Ink) (hk : W k 72000) : Qw (iter (L_templ_writer_write_38 1000000) 1000000 (k.1, k.2.1, s.1, s.2.1, s.2.2.1, s.2.2.2.1, s.2.2.2.2.1, s.2.2.2.2.2.1, s.2.2.2.2.1, (s.2.2.2.2.1.length : Int), (0 : Int), ())) := by
  have h1 := hs.ts
  refine iter_inv (F := L_templ_writer_write_38 1000000) (fun i d => ∃ k : T_api_Ink, W k (72000 + 400 * i) ∧ d = (k.1, k.2.1, s.1, s.2.1, s.2.2.1, s.2.2.2.1, s.2.2.2.2.1, s.2.2.2.2.2.1, s.2.2.2.2.1, (s.2.2.2.2.1.length : Int), (i : Int), ())) Qw s.2.2.2.2.1.length ?_ ?_ s.2.2.2.2.1.length 0 1000000 _ (by omega) (by omega) ⟨k, hk, rfl⟩
  · rintro i _ hi ⟨k, hw, rfl⟩
    obtain ⟨e, ⟨k', w', rfl⟩, he⟩ := wr41 s s.2.2.2.2.1 (s.2.2.2.2.1.getD i zT).2.2.2.2.1 (hs.t _ (getD_mem hi)).2.2 i (by omega) _ (by omega) k hw
    refine ⟨_, ⟨k', w'.mono (by omega), rfl⟩, fun J => ?_⟩
    simp only [L_templ_writer_write_38, lt_cast hi, in_cast hi, if_true, Int.toNat_natCast]
    exact he J
  · rintro _ ⟨k, hw, rfl⟩ J
    simp only [L_templ_writer_write_38, nlt_cast, Bool.false_eq_true, if_false]
    rw [show (((k.1, k.2.1, ()), ()) : T_api_Ink × Unit) = (k, ()) from rfl]
    obtain ⟨k1, e1, w1⟩ := tnum hw (by omega) 0 1 (by omega) (by omega)
    obtain ⟨k2, e2, w2⟩ := tnum hw (by omega) 1 1 (by omega) (by omega)
    rw [e1, e2, Option.bind_some, Option.bind_some]
    split
    · exact ⟨k1, rfl, w1.mono (by omega)⟩
    · exact wr50 _ hs.zs k2 (w2.mono (by omega))

theorem wr33 (s : St) (hs : Sh s) (hc : s.2.2.2.1.length = 0 ∨ (1 ≤ s.2.2.1 ∧ s.2.2.1 < 256)) (k : T_api_Ink) (hk : W k 71000) : Qw (iter (L_templ_writer_write_33 1000000) 1000000 (k.1, k.2.1, s.1, s.2.1, s.2.2.1, s.2.2.2.1, s.2.2.2.2.1, s.2.2.2.2.2.1, s.2.2.2.1, (s.2.2.2.1.length : Int), (0 : Int), ())) := by
  have h1 := hs.ps
  refine iter_inv (F := L_templ_writer_write_33 1000000) (fun i d => ∃ k : T_api_Ink, W k (71000 + 8 * i) ∧ d = (k.1, k.2.1, s.1, s.2.1, s.2.2.1, s.2.2.2.1, s.2.2.2.2.1, s.2.2.2.2.2.1, s.2.2.2.1, (s.2.2.2.1.length : Int), (i : Int), ())) Qw s.2.2.2.1.length ?_ ?_ s.2.2.2.1.length 0 1000000 _ (by omega) (by omega) ⟨k, hk, rfl⟩
  · rintro i _ hi ⟨k, hw, rfl⟩
    obtain ⟨k1, e1, w1⟩ := tranged hw (by omega) (s.2.2.2.1.getD i 0) s.2.2.1 (by omega) (by omega)
    refine ⟨_, ⟨k1, w1.mono (by omega), rfl⟩, fun J => ?_⟩
    simp only [L_templ_writer_write_33, lt_cast hi, in_cast hi, if_true, Int.toNat_natCast, succ_cast (show i < 1000000 by omega)]
    rw [show (((k.1, k.2.1, ()), ()) : T_api_Ink × Unit) = (k, ()) from rfl, e1, Option.bind_some]
  · rintro _ ⟨k, hw, rfl⟩ J
    simp only [L_templ_writer_write_33, nlt_cast, Bool.false_eq_true, if_false]
    exact wr38 s hs k (hw.mono (by omega))

theorem wr24 (s : St) (ts : List Tm) (l : List Int) (hl : l.length ≤ 99) (i : Nat) (hi : i < 99) (b : Nat) (hb : b ≤ 90000000) (k : T_api_Ink) (hk : W k b) :
    ∃ e, (∃ k' : T_api_Ink, W k' (b + 500) ∧ e = (k'.1, k'.2.1, s.1, s.2.1, s.2.2.1, s.2.2.2.1, s.2.2.2.2.1, s.2.2.2.2.2.1, ts, (ts.length : Int), ((i + 1 : Nat) : Int), ())) ∧
      ∀ J0, iter (L_templ_writer_write_24 1000000 J0) 1000000 (k.1, k.2.1, s.1, s.2.1, s.2.2.1, s.2.2.2.1, s.2.2.2.2.1, s.2.2.2.2.2.1, ts, (ts.length : Int), (i : Int), l, (l.length : Int), (0 : Int), ()) = J0 e := by
  refine iter_exit (F := L_templ_writer_write_24 1000000) (fun j d => ∃ k : T_api_Ink, W k (b + 5 * j) ∧ d = (k.1, k.2.1, s.1, s.2.1, s.2.2.1, s.2.2.2.1, s.2.2.2.2.1, s.2.2.2.2.2.1, ts, (ts.length : Int), (i : Int), l, (l.length : Int), (j : Int), ())) _ l.length ?_ ?_ l.length 0 1000000 _ (by omega) (by omega) ⟨k, hk, rfl⟩
  · rintro j _ hj ⟨k, hw, rfl⟩
    obtain ⟨k1, e1, w1⟩ := tnum hw (by omega) 1 1 (by omega) (by omega)
    obtain ⟨k2, e2, w2⟩ := tnum w1 (by omega) (IntKind.i64.wrap (l.getD j 0 - 1)) 4 (by omega) (by omega)
    refine ⟨_, ⟨k2, w2.mono (by omega), rfl⟩, fun K J => ?_⟩
    simp only [L_templ_writer_write_24, lt_cast hj, in_cast hj, if_true, Int.toNat_natCast, succ_cast (show j < 1000000 by omega)]
    rw [show (((k.1, k.2.1, ()), ()) : T_api_Ink × Unit) = (k, ()) from rfl, e1, Option.bind_some, e2, Option.bind_some]
  · rintro _ ⟨k, hw, rfl⟩
    obtain ⟨k1, e1, w1⟩ := tnum hw (by omega) 0 1 (by omega) (by omega)
    refine ⟨_, ⟨k1, w1.mono (by omega), rfl⟩, fun K J => ?_⟩
    simp only [L_templ_writer_write_24, nlt_cast, Bool.false_eq_true, if_false, succ_cast (show i < 1000000 by omega)]
    rw [show (((k.1, k.2.1, ()), ()) : T_api_Ink × Unit) = (k, ()) from rfl, e1, Option.bind_some]

structure RightB (s : St) : Prop where
  tg : 1 ≤ s.2.1 ∧ s.2.1 ≤ 32
  ch : 0 ≤ s.2.2.1 ∧ s.2.2.1 ≤ s.2.1
  pr : (s.2.2.2.1.length : Int) = if s.2.2.1 = 0 then 0 else s.2.1
  n : 1 ≤ s.2.2.2.2.1.length ∧ s.2.2.2.2.1.length ≤ 64
  t : ∀ i, i < s.2.2.2.2.1.length → tmplOk s.2.2.2.2.1 s.2.1 s.2.2.1 i = true
  id : 0 ≤ s.1 ∧ s.1 ≤ 63
theorem right_b {s : St} (h : rightS s = true) : RightB s := by
  simp only [rightS, Bool.and_eq_true, inB, decide_eq_true_eq, markOk] at h
  obtain ⟨⟨⟨⟨⟨h1, h2⟩, h3⟩, h4⟩, h5⟩, h6, h7⟩ := h
  refine ⟨h2, h3, h4.1, by omega, fun i hi => List.all_eq_true.1 h6 i (by simp [List.mem_range'_1]; omega), h1⟩

theorem wr21 (s : St) (hs : Sh s) (hr : RightB s) (k : T_api_Ink) (hk : W k 21000) : Qw (iter (L_templ_writer_write_21 1000000) 1000000 (k.1, k.2.1, s.1, s.2.1, s.2.2.1, s.2.2.2.1, s.2.2.2.2.1, s.2.2.2.2.2.1, s.2.2.2.2.1, (s.2.2.2.2.1.length : Int), (0 : Int), ())) := by
  have h1 := hs.ts
  have htg := hr.tg
  have hch := hr.ch
  have hpr := hr.pr
  refine iter_inv (F := L_templ_writer_write_21 1000000) (fun i d => ∃ k : T_api_Ink, W k (21000 + 500 * i) ∧ d = (k.1, k.2.1, s.1, s.2.1, s.2.2.1, s.2.2.2.1, s.2.2.2.2.1, s.2.2.2.2.2.1, s.2.2.2.2.1, (s.2.2.2.2.1.length : Int), (i : Int), ())) Qw s.2.2.2.2.1.length ?_ ?_ s.2.2.2.2.1.length 0 1000000 _ (by omega) (by omega) ⟨k, hk, rfl⟩
  · rintro i _ hi ⟨k, hw, rfl⟩
    obtain ⟨e, ⟨k', w', rfl⟩, he⟩ := wr24 s s.2.2.2.2.1 (s.2.2.2.2.1.getD i zT).2.2.2.1 (hs.t _ (getD_mem hi)).2.1 i (by omega) _ (by omega) k hw
    refine ⟨_, ⟨k', w'.mono (by omega), rfl⟩, fun J => ?_⟩
    simp only [L_templ_writer_write_21, lt_cast hi, in_cast hi, if_true, Int.toNat_natCast]
    exact he J
  · rintro _ ⟨k, hw, rfl⟩ J
    simp only [L_templ_writer_write_21, nlt_cast, Bool.false_eq_true, if_false]
    rw [show (((k.1, k.2.1, ()), ()) : T_api_Ink × Unit) = (k, ()) from rfl]
    obtain ⟨k1, e1, w1⟩ := tranged hw (by omega) s.2.2.1 (IntKind.i64.wrap (s.2.1 + 1)) (by rw [wrap64 (by omega) (by omega)]; omega) (by rw [wrap64 (by omega) (by omega)]; omega)
    rw [e1, Option.bind_some]
    refine wr33 s hs ?_ k1 (w1.mono (by omega))
    by_cases hz : s.2.2.1 = 0
    · rw [if_pos hz] at hpr; left; omega
    · right; omega

theorem wr15 (s : St) (ts : List Tm) (l : List Int) (hl : l.length ≤ 99) (i : Nat) (hi : i < 99) (b : Nat) (hb : b ≤ 90000000) (k : T_api_Ink) (hk : W k b) :
    ∃ e, (∃ k' : T_api_Ink, W k' (b + 200) ∧ e = (k'.1, k'.2.1, s.1, s.2.1, s.2.2.1, s.2.2.2.1, s.2.2.2.2.1, s.2.2.2.2.2.1, ts, (ts.length : Int), ((i + 1 : Nat) : Int), ())) ∧
      ∀ J0, iter (L_templ_writer_write_15 1000000 J0) 1000000 (k.1, k.2.1, s.1, s.2.1, s.2.2.1, s.2.2.2.1, s.2.2.2.2.1, s.2.2.2.2.2.1, ts, (ts.length : Int), (i : Int), l, (l.length : Int), (0 : Int), ()) = J0 e := by
  refine iter_exit (F := L_templ_writer_write_15 1000000) (fun j d => ∃ k : T_api_Ink, W k (b + 2 * j) ∧ d = (k.1, k.2.1, s.1, s.2.1, s.2.2.1, s.2.2.2.1, s.2.2.2.2.1, s.2.2.2.2.2.1, ts, (ts.length : Int), (i : Int), l, (l.length : Int), (j : Int), ())) _ l.length ?_ ?_ l.length 0 1000000 _ (by omega) (by omega) ⟨k, hk, rfl⟩
  · rintro j _ hj ⟨k, hw, rfl⟩
    obtain ⟨k1, e1, w1⟩ := tnum hw (by omega) (l.getD j 0) 2 (by omega) (by omega)
    refine ⟨_, ⟨k1, w1.mono (by omega), rfl⟩, fun K J => ?_⟩
    simp only [L_templ_writer_write_15, lt_cast hj, in_cast hj, if_true, Int.toNat_natCast, succ_cast (show j < 1000000 by omega)]
    rw [show (((k.1, k.2.1, ()), ()) : T_api_Ink × Unit) = (k, ()) from rfl, e1, Option.bind_some]
  · rintro _ ⟨k, hw, rfl⟩
    refine ⟨_, ⟨k, hw.mono (by omega), rfl⟩, fun K J => ?_⟩
    simp only [L_templ_writer_write_15, nlt_cast, Bool.false_eq_true, if_false, succ_cast (show i < 1000000 by omega)]

theorem wr12 (s : St) (hs : Sh s) (hr : RightB s) (k : T_api_Ink) (hk : W k 400) : Qw (iter (L_templ_writer_write_12 1000000) 1000000 (k.1, k.2.1, s.1, s.2.1, s.2.2.1, s.2.2.2.1, s.2.2.2.2.1, s.2.2.2.2.2.1, s.2.2.2.2.1, (s.2.2.2.2.1.length : Int), (0 : Int), ())) := by
  have h1 := hs.ts
  refine iter_inv (F := L_templ_writer_write_12 1000000) (fun i d => ∃ k : T_api_Ink, W k (400 + 200 * i) ∧ d = (k.1, k.2.1, s.1, s.2.1, s.2.2.1, s.2.2.2.1, s.2.2.2.2.1, s.2.2.2.2.2.1, s.2.2.2.2.1, (s.2.2.2.2.1.length : Int), (i : Int), ())) Qw s.2.2.2.2.1.length ?_ ?_ s.2.2.2.2.1.length 0 1000000 _ (by omega) (by omega) ⟨k, hk, rfl⟩
  · rintro i _ hi ⟨k, hw, rfl⟩
    obtain ⟨e, ⟨k', w', rfl⟩, he⟩ := wr15 s s.2.2.2.2.1 (s.2.2.2.2.1.getD i zT).2.2.1 (hs.t _ (getD_mem hi)).1 i (by omega) _ (by omega) k hw
    refine ⟨_, ⟨k', w'.mono (by omega), rfl⟩, fun J => ?_⟩
    simp only [L_templ_writer_write_12, lt_cast hi, in_cast hi, if_true, Int.toNat_natCast]
    exact he J
  · rintro _ ⟨k, hw, rfl⟩ J
    simp only [L_templ_writer_write_12, nlt_cast, Bool.false_eq_true, if_false]
    exact wr21 s hs hr k (hw.mono (by omega))

theorem wr4 (s : St) (hs : Sh s) (hr : RightB s) (k : T_api_Ink) (hk : W k 100) : Qw (iter (L_templ_writer_write_4 1000000) 1000000 (k.1, k.2.1, s.1, s.2.1, s.2.2.1, s.2.2.2.1, s.2.2.2.2.1, s.2.2.2.2.2.1, (s.2.2.2.2.1.length : Int), (0 : Int), ())) := by
  have h1 := hs.ts
  refine iter_inv (F := L_templ_writer_write_4 1000000) (fun i d => ∃ k : T_api_Ink, W k (100 + 2 * i) ∧ d = (k.1, k.2.1, s.1, s.2.1, s.2.2.1, s.2.2.2.1, s.2.2.2.2.1, s.2.2.2.2.2.1, (s.2.2.2.2.1.length : Int), (i : Int), ())) Qw s.2.2.2.2.1.length ?_ ?_ s.2.2.2.2.1.length 0 1000000 _ (by omega) (by omega) ⟨k, hk, rfl⟩
  · rintro i _ hi ⟨k, hw, rfl⟩
    have f1 : ∃ how : Int, ∀ K : ((List (Int)) × Int × Int × Int × Int × (List (Int)) × (List (T_api_Template)) × (List (T_api_Size)) × Int × Int × Int × Unit) → Option ((T_api_Ink × Unit) × Unit), (if (decide (((i + 1 : Nat) : Int) < (s.2.2.2.2.1.length : Int))) = true then
        if decide (0 ≤ (i : Int) ∧ (i : Int) < (s.2.2.2.2.1.length : Int)) = true then
        if decide (0 ≤ ((i + 1 : Nat) : Int) ∧ ((i + 1 : Nat) : Int) < (s.2.2.2.2.1.length : Int)) = true then
        (P_templ_follow ((s.2.2.2.2.1.getD i zT), (s.2.2.2.2.1.getD (i + 1) zT), ())).bind fun (r4 : Int × Unit) => some (k.1, k.2.1, s.1, s.2.1, s.2.2.1, s.2.2.2.1, s.2.2.2.2.1, s.2.2.2.2.2.1, r4.1, (s.2.2.2.2.1.length : Int), (i : Int), ()) else none else none
        else some (k.1, k.2.1, s.1, s.2.1, s.2.2.1, s.2.2.2.1, s.2.2.2.2.1, s.2.2.2.2.2.1, 3, (s.2.2.2.2.1.length : Int), (i : Int), ())).bind K = K (k.1, k.2.1, s.1, s.2.1, s.2.2.1, s.2.2.2.1, s.2.2.2.2.1, s.2.2.2.2.2.1, how, (s.2.2.2.2.1.length : Int), (i : Int), ()) := by
      by_cases h : i + 1 < s.2.2.2.2.1.length
      · refine ⟨followS (s.2.2.2.2.1.getD i zT) (s.2.2.2.2.1.getD (i + 1) zT), fun K => ?_⟩
        rw [lt_cast h, in_cast hi, in_cast h, if_pos rfl, if_pos rfl, if_pos rfl, templ_follow, Option.bind_some, Option.bind_some]
      · refine ⟨3, fun K => ?_⟩
        rw [decide_eq_false (by omega), if_neg (by decide), Option.bind_some]
    obtain ⟨how, f1⟩ := f1
    obtain ⟨k1, e1, w1⟩ := tnum hw (by omega) how 2 (by omega) (by omega)
    refine ⟨_, ⟨k1, w1.mono (by omega), rfl⟩, fun J => ?_⟩
    simp only [L_templ_writer_write_4, lt_cast hi, if_true, Int.toNat_natCast, succ_cast (show i < 1000000 by omega), zT_eq]
    refine (f1 _).trans ?_
    simp only []
    rw [show (((k.1, k.2.1, ()), ()) : T_api_Ink × Unit) = (k, ()) from rfl, e1, Option.bind_some, succ_cast (show i < 1000000 by omega)]
  · rintro _ ⟨k, hw, rfl⟩ J
    simp only [L_templ_writer_write_4, nlt_cast, Bool.false_eq_true, if_false]
    exact wr12 s hs hr k (hw.mono (by omega))

theorem W_nil : W (([] : List Int), (0 : Int), ()) 0 := ⟨0, rfl, rfl, Nat.le_refl _⟩
theorem write_total (s : St) (hs : Sh s) (hr : RightB s) : Qw (P_templ_writer_write (((([] : List (Int)), (0 : Int), ()), ()), s, ())) := by
  rw [E_templ_writer_write, N_templ_writer_write]
  obtain ⟨k1, e1, w1⟩ := tnum W_nil (by omega) s.1 6 (by omega) (by omega)
  obtain ⟨k2, e2, w2⟩ := tnum w1 (by omega) (IntKind.i64.wrap (s.2.1 - 1)) 5 (by omega) (by omega)
  simp only [e1, e2, Option.bind_some]
  exact wr4 s hs hr k2 (w2.mono (by omega))
end Go.Proofs.Try.Eng


set_option linter.unusedVariables false
set_option linter.unusedSimpArgs false
namespace Go.Proofs.Try.Eng
open Go Go.Eng

theorem join_total {k m : T_api_Ink} {b c : Nat} (hk : W k b) (hm : W m c) (hb : b ≤ 100000000) (hc : c ≤ 900000) : ∃ k', P_templ_join (k, m, ()) = some (k', ()) ∧ W k' (b + c) := by
  obtain ⟨p, p1, p2, p3⟩ := hk
  obtain ⟨q, q1, q2, q3⟩ := hm
  rw [E_templ_join, N_templ_join]
  have e6 : decide ((8 : Int) ≠ 0) = true := by decide
  have e1 : IntKind.i64.wrap ((p : Int) + (q : Int)) = ((p + q : Nat) : Int) := by rw [wrap64 (by omega) (by omega)]; rfl
  have e2 : IntKind.i64.wrap (((p + q : Nat) : Int) + 7) = ((p + q + 7 : Nat) : Int) := by rw [wrap64 (by omega) (by omega)]; rfl
  have e3 : ((p + q + 7 : Nat) : Int).tdiv 8 = (((p + q + 7) / 8 : Nat) : Int) := by rw [Int.tdiv_eq_ediv_of_nonneg (by omega)]; rfl
  have e4 : IntKind.i64.wrap (((p + q + 7) / 8 : Nat) : Int) = (((p + q + 7) / 8 : Nat) : Int) := wrap64 (by omega) (by omega)
  simp only [p1, q1, e1, e2, e3, e4, e6, if_true, Int.toNat_natCast, List.length_replicate]
  rw [decide_eq_true (by omega), if_pos rfl]
  refine iter_inv (F := L_templ_join_5 1000000) (fun i d => ∃ out : List Int, out.length = (p + q + 7) / 8 ∧ d = (k.1, (p : Int), m.1, (q : Int), [], 0, out, ((p + q : Nat) : Int), (q : Int), (i : Int), ())) (fun o => ∃ k', o = some (k', ()) ∧ W k' (b + c)) q ?_ ?_ q 0 1000000 _ (by omega) (by omega) ⟨_, ?_, rfl⟩
  · rintro i _ hi ⟨out, ho, rfl⟩
    have f1 : (i : Int).tmod 8 = ((i % 8 : Nat) : Int) := by rw [Int.tmod_eq_emod_of_nonneg (by omega)]; rfl
    have f2 : (i : Int).tdiv 8 = ((i / 8 : Nat) : Int) := by rw [Int.tdiv_eq_ediv_of_nonneg (by omega)]; rfl
    have f3 : IntKind.i64.wrap ((i / 8 : Nat) : Int) = ((i / 8 : Nat) : Int) := wrap64 (by omega) (by omega)
    have f4 : IntKind.i64.wrap (7 - ((i % 8 : Nat) : Int)) = ((7 - i % 8 : Nat) : Int) := by rw [wrap64 (by omega) (by omega)]; omega
    have f5 : IntKind.i64.wrap ((p : Int) + (i : Int)) = ((p + i : Nat) : Int) := by rw [wrap64 (by omega) (by omega)]; rfl
    have g1 : ((p + i : Nat) : Int).tmod 8 = (((p + i) % 8 : Nat) : Int) := by rw [Int.tmod_eq_emod_of_nonneg (by omega)]; rfl
    have g2 : ((p + i : Nat) : Int).tdiv 8 = (((p + i) / 8 : Nat) : Int) := by rw [Int.tdiv_eq_ediv_of_nonneg (by omega)]; rfl
    have g3 : IntKind.i64.wrap (((p + i) / 8 : Nat) : Int) = (((p + i) / 8 : Nat) : Int) := wrap64 (by omega) (by omega)
    have g4 : IntKind.i64.wrap (7 - (((p + i) % 8 : Nat) : Int)) = ((7 - (p + i) % 8 : Nat) : Int) := by rw [wrap64 (by omega) (by omega)]; omega
    have key : ∃ x, ∀ J, L_templ_join_5 1000000 J (k.1, (p : Int), m.1, (q : Int), [], 0, out, ((p + q : Nat) : Int), (q : Int), (i : Int), ()) = J (k.1, (p : Int), m.1, (q : Int), [], 0, out.set ((p + i) / 8) x, ((p + q : Nat) : Int), (q : Int), ((i + 1 : Nat) : Int), ()) := by
      refine ⟨?x, fun J => ?y⟩
      case y =>
        simp only [L_templ_join_5, f1, f2, f3, f4, f5, g1, g2, g3, g4, e6, lt_cast hi, if_true, Int.toNat_natCast, succ_cast (show i < 1000000 by omega)]
        rw [in_cast (show i / 8 < m.1.length by omega), in_cast (show (p + i) / 8 < out.length by omega), decide_eq_true (show 0 ≤ ((7 - i % 8 : Nat) : Int) by omega), decide_eq_true (show 0 ≤ ((7 - (p + i) % 8 : Nat) : Int) by omega)]
        rfl
    obtain ⟨x, key⟩ := key
    exact ⟨_, ⟨out.set ((p + i) / 8) x, by rw [List.length_set]; exact ho, rfl⟩, key⟩
  · rintro _ ⟨out, ho, rfl⟩ J
    simp only [L_templ_join_5, nlt_cast, Bool.false_eq_true, if_false]
    exact ⟨_, rfl, p + q, rfl, ho, by omega⟩
  · simp only [List.length_append, List.length_take, List.length_drop, List.length_replicate]; omega

theorem Put_total {k : T_api_Ink} {b : Nat} (hk : W k b) (hb : b ≤ 100000000) (s : St) (hs : Sh s) (hm : SmS s) (hr : RightB s) : ∃ k' e, P_templ_Put (k, s, ()) = some (k', e, ()) ∧ W k' (b + 120000) := by
  rw [E_templ_Put, N_templ_Put]
  obtain ⟨r, hR⟩ := bits_Right_total hk (by omega)
  obtain ⟨m, hm1, hm2⟩ := write_total s hs hr
  obtain ⟨k', hj, hw⟩ := join_total hk hm2 hb (by omega)
  simp only [hR, templ_Right s hm, Option.bind_some, Bool.not_not, bif_or, hm1, hj]
  cases r with
  | false => exact ⟨_, _, rfl, hk.mono (by omega)⟩
  | true =>
    simp only [if_true, Option.bind_some, Bool.not_true, Bool.false_or]
    split
    · exact ⟨_, _, rfl, hk.mono (by omega)⟩
    · exact ⟨_, _, rfl, hw⟩

theorem fdiv_small {v : Int} (h1 : 0 ≤ v) (h2 : v ≤ 4095) : v.fdiv (2 ^ 12) = 0 := by
  rw [Int.fdiv_eq_ediv_of_nonneg _ (by decide)]
  exact Int.ediv_eq_zero_of_lt h1 (by have : (2 : Int) ^ 12 = 4096 := by decide
                                      omega)
theorem adiff {k : T_api_Ink} {b : Nat} (hk : W k b) (hb : b ≤ 100000000) (v : Int) (h1 : 1 ≤ v) (h2 : v ≤ 4096) : ∃ k', P_av1_writer_diff ((k, ()), v, ()) = some ((k', ()), ()) ∧ W k' (b + 14) := by
  rw [E_av1_writer_diff, N_av1_writer_diff]
  refine iter_less (F := L_av1_writer_diff_1 1000000) (fun d => ∃ g : Nat, 1 ≤ g ∧ g ≤ 3 ∧ d = (k.1, k.2.1, v, (g : Int), ())) (fun d => 3 - d.2.2.2.1.toNat) (fun o => ∃ k', o = some ((k', ()), ()) ∧ W k' (b + 14)) ?_ 1000000 _ ⟨1, by omega, by omega, rfl⟩ (by simp only []; omega)
  rintro _ ⟨g, hg1, hg2, rfl⟩
  have e1 : IntKind.i64.wrap (4 * (g : Int)) = ((4 * g : Nat) : Int) := by rw [wrap64 (by omega) (by omega)]; rfl
  have e2 : IntKind.i64.wrap (v - 1) = v - 1 := wrap64 (by omega) (by omega)
  have e3 : decide (0 ≤ ((4 * g : Nat) : Int)) = true := decide_eq_true (by omega)
  by_cases hc : (v - 1).fdiv (2 ^ (min (4 * g) IntKind.i64.bits)) > 0
  · right
    have hg : g < 3 := by
      rcases Nat.lt_or_ge g 3 with h | h
      · exact h
      · have : g = 3 := by omega
        subst this
        have e : min (4 * 3) IntKind.i64.bits = 12 := by decide
        rw [e, fdiv_small (by omega) (by omega)] at hc
        omega
    refine ⟨_, ⟨g + 1, by omega, by omega, rfl⟩, ?_, fun J => ?_⟩
    · simp only [Int.toNat_natCast]; omega
    · simp only [L_av1_writer_diff_1, e1, e2, e3, if_true, Int.toNat_natCast, decide_eq_true hc, succ_cast (show g < 1000000 by omega)]
  · left
    intro J
    simp only [L_av1_writer_diff_1, e1, e2, e3, if_true, Int.toNat_natCast, decide_eq_false hc, Bool.false_eq_true, if_false]
    rw [show (((k.1, k.2.1, ()), ()) : T_api_Ink × Unit) = (k, ()) from rfl]
    obtain ⟨k1, f1, w1⟩ := anum hk (by omega) (IntKind.u64.wrap (g : Int)) 2 (by omega) (by omega)
    obtain ⟨k2, f2, w2⟩ := anum w1 (by omega) (IntKind.u64.wrap (v - 1)) ((4 * g : Nat) : Int) (by omega) (by omega)
    rw [f1, Option.bind_some, f2, Option.bind_some]
    exact ⟨k2, rfl, w2.mono (by omega)⟩

abbrev fT {R : Type} (f : Fr) (r : R) := (f.1, f.2.1, f.2.2.1, f.2.2.2.1, f.2.2.2.2.1, f.2.2.2.2.2.1.1, f.2.2.2.2.2.1.2.1, f.2.2.2.2.2.1.2.2.1, f.2.2.2.2.2.1.2.2.2.1, f.2.2.2.2.2.1.2.2.2.2.1, f.2.2.2.2.2.1.2.2.2.2.2.1, f.2.2.2.2.2.2.1, f.2.2.2.2.2.2.2.1, f.2.2.2.2.2.2.2.2.1, f.2.2.2.2.2.2.2.2.2.1, f.2.2.2.2.2.2.2.2.2.2.1, f.2.2.2.2.2.2.2.2.2.2.2.1, f.2.2.2.2.2.2.2.2.2.2.2.2.1, f.2.2.2.2.2.2.2.2.2.2.2.2.2.1, r)
def Qb (o : Option T_api_Ink) : Prop := ∃ x, o = some (x, 0, ())
theorem aw33 (l : List Int) (hl : l.length ≤ 99) (k : T_api_Ink) (hk : W k 800000) : Qb (iter (L_av1_Write_33 1000000) 1000000 (k.1, k.2.1, l, (l.length : Int), (0 : Int), ())) := by
  refine iter_inv (F := L_av1_Write_33 1000000) (fun i d => ∃ k : T_api_Ink, W k (800000 + 8 * i) ∧ d = (k.1, k.2.1, l, (l.length : Int), (i : Int), ())) Qb l.length ?_ ?_ l.length 0 1000000 _ (by omega) (by omega) ⟨k, hk, rfl⟩
  · rintro i _ hi ⟨k, hw, rfl⟩
    obtain ⟨k1, e1, w1⟩ := anum hw (by omega) (IntKind.u64.wrap (l.getD i 0)) 8 (by omega) (by omega)
    refine ⟨_, ⟨k1, w1.mono (by omega), rfl⟩, fun J => ?_⟩
    simp only [L_av1_Write_33, lt_cast hi, in_cast hi, if_true, Int.toNat_natCast, succ_cast (show i < 1000000 by omega)]
    rw [show (((k.1, k.2.1, ()), ()) : T_api_Ink × Unit) = (k, ()) from rfl, e1, Option.bind_some]
  · rintro _ ⟨k, hw, rfl⟩ J
    simp only [L_av1_Write_33, nlt_cast, Bool.false_eq_true, if_false]
    exact ⟨_, rfl⟩
structure ShF (f : Fr) : Prop where
  s : Sh f.2.2.2.2.2.1
  m : f.2.2.2.2.2.2.2.2.2.1.length ≤ 99
  d : f.2.2.2.2.2.2.2.2.2.2.2.1.length ≤ 99
  c : f.2.2.2.2.2.2.2.2.2.2.2.2.2.1.length ≤ 99
theorem shortF_sh {f : Fr} (h : shortF f = true) : ShF f := by
  simp only [shortF, Bool.and_eq_true, decide_eq_true_eq] at h
  obtain ⟨⟨⟨h1, h2⟩, h3⟩, h4⟩ := h
  exact ⟨short_sh h1, by omega, by omega, by omega⟩
theorem aw26 (f : Fr) (hf : ShF f) (hd : ∀ v ∈ f.2.2.2.2.2.2.2.2.2.2.2.1, 1 ≤ v ∧ v ≤ 4096) (k : T_api_Ink) (hk : W k 700000) :
    Qb (iter (L_av1_Write_26 1000000) 1000000 (fT f (k.1, k.2.1, f.2.2.2.2.2.2.2.2.2.2.2.1, (f.2.2.2.2.2.2.2.2.2.2.2.1.length : Int), (0 : Int), ()))) := by
  have h1 := hf.d
  refine iter_inv (F := L_av1_Write_26 1000000) (fun i d => ∃ k : T_api_Ink, W k (700000 + 14 * i) ∧ d = fT f (k.1, k.2.1, f.2.2.2.2.2.2.2.2.2.2.2.1, (f.2.2.2.2.2.2.2.2.2.2.2.1.length : Int), (i : Int), ())) Qb f.2.2.2.2.2.2.2.2.2.2.2.1.length ?_ ?_ f.2.2.2.2.2.2.2.2.2.2.2.1.length 0 1000000 _ (by omega) (by omega) ⟨k, hk, rfl⟩
  · rintro i _ hi ⟨k, hw, rfl⟩
    have hv := hd _ (getD_mem (z := 0) hi)
    obtain ⟨k1, e1, w1⟩ := adiff hw (by omega) (f.2.2.2.2.2.2.2.2.2.2.2.1.getD i 0) hv.1 hv.2
    refine ⟨_, ⟨k1, w1.mono (by omega), rfl⟩, fun J => ?_⟩
    simp only [L_av1_Write_26, lt_cast hi, in_cast hi, if_true, Int.toNat_natCast, succ_cast (show i < 1000000 by omega)]
    rw [show (((k.1, k.2.1, ()), ()) : T_api_Ink × Unit) = (k, ()) from rfl, e1, Option.bind_some]
  · rintro _ ⟨k, hw, rfl⟩ J
    simp only [L_av1_Write_26, nlt_cast, Bool.false_eq_true, if_false]
    rw [show (((k.1, k.2.1, ()), ()) : T_api_Ink × Unit) = (k, ()) from rfl]
    obtain ⟨k1, e1, w1⟩ := anum hw (by omega) 0 2 (by omega) (by omega)
    cases hb : f.2.2.2.2.2.2.2.2.2.2.1 with
    | false =>
      simp only [Bool.false_eq_true, if_false, Option.bind_some]
      exact aw33 _ hf.c k (hw.mono (by omega))
    | true =>
      simp only [if_true, e1, Option.bind_some]
      exact aw33 _ hf.c k1 (w1.mono (by omega))
theorem aw21 (f : Fr) (hf : ShF f) (hd : ∀ v ∈ f.2.2.2.2.2.2.2.2.2.2.2.1, 1 ≤ v ∧ v ≤ 4096) (k : T_api_Ink) (hk : W k 600000) :
    Qb (iter (L_av1_Write_21 1000000) 1000000 (fT f (k.1, k.2.1, f.2.2.2.2.2.2.2.2.2.1, (f.2.2.2.2.2.2.2.2.2.1.length : Int), (0 : Int), ()))) := by
  have h1 := hf.m
  refine iter_inv (F := L_av1_Write_21 1000000) (fun i d => ∃ k : T_api_Ink, W k (600000 + 2 * i) ∧ d = fT f (k.1, k.2.1, f.2.2.2.2.2.2.2.2.2.1, (f.2.2.2.2.2.2.2.2.2.1.length : Int), (i : Int), ())) Qb f.2.2.2.2.2.2.2.2.2.1.length ?_ ?_ f.2.2.2.2.2.2.2.2.2.1.length 0 1000000 _ (by omega) (by omega) ⟨k, hk, rfl⟩
  · rintro i _ hi ⟨k, hw, rfl⟩
    obtain ⟨k1, e1, w1⟩ := anum hw (by omega) (IntKind.u64.wrap (f.2.2.2.2.2.2.2.2.2.1.getD i 0)) 2 (by omega) (by omega)
    refine ⟨_, ⟨k1, w1.mono (by omega), rfl⟩, fun J => ?_⟩
    simp only [L_av1_Write_21, lt_cast hi, in_cast hi, if_true, Int.toNat_natCast, succ_cast (show i < 1000000 by omega)]
    rw [show (((k.1, k.2.1, ()), ()) : T_api_Ink × Unit) = (k, ()) from rfl, e1, Option.bind_some]
  · rintro _ ⟨k, hw, rfl⟩ J
    simp only [L_av1_Write_21, nlt_cast, Bool.false_eq_true, if_false]
    exact aw26 f hf hd k (hw.mono (by omega))
theorem aw12 (f : Fr) (s : St) (hf : ShF f) (hd : ∀ v ∈ f.2.2.2.2.2.2.2.2.2.2.2.1, 1 ≤ v ∧ v ≤ 4096) (hs : f.2.2.2.2.1 = true → SmS f.2.2.2.2.2.1 ∧ RightB f.2.2.2.2.2.1) (htg : 0 ≤ s.2.1 ∧ s.2.1 ≤ 64) (l : List Bool) (hl : l.length ≤ 99) (k : T_api_Ink) (hk : W k 100) :
    Qb (iter (L_av1_Write_12 1000000) 1000000 (fT f (s.1, s.2.1, s.2.2.1, s.2.2.2.1, s.2.2.2.2.1, s.2.2.2.2.2.1, k.1, k.2.1, l, (l.length : Int), (0 : Int), ()))) := by
  refine iter_inv (F := L_av1_Write_12 1000000) (fun i d => ∃ k : T_api_Ink, W k (100 + i) ∧ d = fT f (s.1, s.2.1, s.2.2.1, s.2.2.2.1, s.2.2.2.2.1, s.2.2.2.2.2.1, k.1, k.2.1, l, (l.length : Int), (i : Int), ())) Qb l.length ?_ ?_ l.length 0 1000000 _ (by omega) (by omega) ⟨k, hk, rfl⟩
  · rintro i _ hi ⟨k, hw, rfl⟩
    obtain ⟨k1, e1, w1⟩ := atruth hw (by omega) (l.getD i false)
    refine ⟨_, ⟨k1, w1.mono (by omega), rfl⟩, fun J => ?_⟩
    simp only [L_av1_Write_12, lt_cast hi, in_cast hi, if_true, Int.toNat_natCast, succ_cast (show i < 1000000 by omega)]
    rw [show (((k.1, k.2.1, ()), ()) : T_api_Ink × Unit) = (k, ()) from rfl, e1, Option.bind_some]
  · rintro _ ⟨k, hw, rfl⟩ J
    simp only [L_av1_Write_12, nlt_cast, Bool.false_eq_true, if_false]
    by_cases hb : f.2.2.2.2.1 = true
    · obtain ⟨h1, h2⟩ := hs hb
      obtain ⟨k1, e, e1, w1⟩ := Put_total hw (by omega) _ hf.s h1 h2
      obtain ⟨k2, e2, w2⟩ := anum w1 (by omega) (IntKind.u64.wrap f.2.2.2.2.2.2.2.1) s.2.1 htg.1 htg.2
      rw [if_pos hb, show P_templ_Put ((k.1, k.2.1, ()), (f.2.2.2.2.2.1.1, f.2.2.2.2.2.1.2.1, f.2.2.2.2.2.1.2.2.1, f.2.2.2.2.2.1.2.2.2.1, f.2.2.2.2.2.1.2.2.2.2.1, f.2.2.2.2.2.1.2.2.2.2.2.1, ()), ()) = some (k1, e, ()) from e1, Option.bind_some, Option.bind_some]
      simp only []
      by_cases ha : f.2.2.2.2.2.2.1 = true
      · rw [if_pos ha, show (((k1.1, k1.2.1, ()), ()) : T_api_Ink × Unit) = (k1, ()) from rfl, e2, Option.bind_some, Option.bind_some]
        exact aw21 f hf hd k2 (w2.mono (by omega))
      · rw [if_neg ha, Option.bind_some]
        exact aw21 f hf hd k1 (w1.mono (by omega))
    · obtain ⟨k2, e2, w2⟩ := anum hw (by omega) (IntKind.u64.wrap f.2.2.2.2.2.2.2.1) s.2.1 htg.1 htg.2
      rw [if_neg hb, Option.bind_some]
      simp only []
      by_cases ha : f.2.2.2.2.2.2.1 = true
      · rw [if_pos ha, show (((k.1, k.2.1, ()), ()) : T_api_Ink × Unit) = (k, ()) from rfl, e2, Option.bind_some, Option.bind_some]
        exact aw21 f hf hd k2 (w2.mono (by omega))
      · rw [if_neg ha, Option.bind_some]
        exact aw21 f hf hd k (hw.mono (by omega))

theorem av1_Write (f : Fr) (known : St) (hf : SmF f) (hk : SmS known) (hf2 : ShF f) : ∃ x, P_av1_Write (f, known, ()) = some (x, (if rightF f known then 0 else 1), ()) := by
  rw [E_av1_Write, N_av1_Write]
  simp only [av1_Right f known hf hk, Option.bind_some]
  cases hr : rightF f known with
  | false => exact ⟨_, rfl⟩
  | true =>
  simp only [Bool.not_true, Bool.false_eq_true, if_false, av1_structure, Option.bind_some, if_true]
  obtain ⟨k1, e1, w1⟩ := atruth W_nil (by omega) f.1
  obtain ⟨k2, e2, w2⟩ := atruth w1 (by omega) f.2.1
  obtain ⟨k3, e3, w3⟩ := anum w2 (by omega) (IntKind.u64.wrap f.2.2.1) 6 (by omega) (by omega)
  obtain ⟨k4, e4, w4⟩ := anum w3 (by omega) (IntKind.u64.wrap f.2.2.2.1) 16 (by omega) (by omega)
  simp only [e1, e2, e3, e4, Option.bind_some, bif_and]
  obtain ⟨_, _, _, h4⟩ := right_place hr
  have hb := right_b h4
  have htg := hb.tg
  have hd : ∀ v ∈ f.2.2.2.2.2.2.2.2.2.2.2.1, 1 ≤ v ∧ v ≤ 4096 := by
    simp only [rightF, Bool.and_eq_true] at hr
    obtain ⟨⟨⟨_, _, h8⟩, _⟩, _⟩ := hr
    intro v hv
    unfold ownOk at h8
    split at h8
    · simp only [Bool.and_eq_true, allB, List.all_eq_true, inB, decide_eq_true_eq] at h8
      exact h8.2 v hv
    · simp only [beq_iff_eq] at h8
      have : f.2.2.2.2.2.2.2.2.2.2.2.1 = [] := List.eq_nil_of_length_eq_zero (by omega)
      rw [this] at hv
      cases hv
  split
  · exact ⟨_, rfl⟩
  · exact aw12 f (ofF f known) hf2 hd (fun h => ⟨hf.s, by
      have : ofF f known = f.2.2.2.2.2.1 := by simp only [ofF, h, if_true]
      rw [← this]; exact hb⟩) (by omega) _ (by simp) k4 (w4.mono (by omega))
end Go.Proofs.Try.Eng


