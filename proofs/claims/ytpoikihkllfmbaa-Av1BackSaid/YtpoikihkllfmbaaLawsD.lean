/- The plain law: what Av1Back computes is true for every input. -/
import Derived.Test.YtpoikihkllfmbaaLawsC
import Derived.Test.YtpoikihkllfmbaaAwk
import Derived.Test.YtpoikihkllfmbaaEngD
import Derived.DataShut
set_option linter.unusedVariables false
set_option linter.unusedSimpArgs false
namespace Go.Eng
/-- the bits from a place on begin with these fields -/
def Has (b : List Int) (a : Nat) (fs : List (Nat × Nat)) : Prop :=
  (∀ f ∈ fs, f.1 < 2 ^ f.2) ∧ ∃ N1, (puts (N1, a) fs).2 ≤ 8 * b.length ∧ num b / 2 ^ (8 * b.length - (puts (N1, a) fs).2) = (puts (N1, a) fs).1
theorem puts_lt : ∀ {l : List (Nat × Nat)}, (∀ f ∈ l, f.1 < 2 ^ f.2) → (puts (0, 0) l).1 < 2 ^ (puts (0, 0) l).2 := by
  intro l
  induction l with
  | nil => intro _; simp [puts]
  | cons f r ih =>
    intro h
    have h1 := ih (fun g hg => h g (by simp [hg]))
    have h2 := h f (by simp)
    rw [puts_cons, puts_from]
    simp only [putF, Nat.zero_mul, Nat.zero_add, Nat.pow_add]
    have h3 : f.1 * 2 ^ (puts (0, 0) r).2 + 2 ^ (puts (0, 0) r).2 ≤ 2 ^ f.2 * 2 ^ (puts (0, 0) r).2 := by
      rw [← Nat.succ_mul]; exact Nat.mul_le_mul_right _ h2
    omega
theorem Has.cons {b : List Int} {a V c : Nat} {r : List (Nat × Nat)} (h : Has b a ((V, c) :: r)) : a + c ≤ 8 * b.length ∧ gbits b a c = V ∧ Has b (a + c) r := by
  obtain ⟨hf, N1, h1, h2⟩ := h
  have hr : ∀ f ∈ r, f.1 < 2 ^ f.2 := fun g hg => hf g (by simp [hg])
  have hV := hf (V, c) (by simp)
  rw [puts_cons] at h1 h2
  have e : putF (N1, a) (V, c) = (N1 * 2 ^ c + V, a + c) := rfl
  rw [e] at h1 h2
  refine ⟨?_, ?_, hr, N1 * 2 ^ c + V, h1, h2⟩
  · rw [puts_from] at h1; simp only at h1; omega
  · rw [puts_from] at h1 h2
    simp only at h1 h2 hV
    have hlt := puts_lt hr
    unfold gbits
    rw [show 8 * b.length - (a + c) = (8 * b.length - (a + c + (puts (0, 0) r).2)) + (puts (0, 0) r).2 by omega, Nat.pow_add, ← Nat.div_div_eq_div_mul, h2]
    rw [Nat.add_comm, Nat.add_mul_div_right _ _ (Nat.pow_pos (by decide)), Nat.div_eq_of_lt hlt, Nat.zero_add, Nat.add_comm, Nat.add_mul_mod_self_right, Nat.mod_eq_of_lt hV]
def sz (fs : List (Nat × Nat)) : Nat := (fs.map (·.2)).sum
theorem sz_append (a b : List (Nat × Nat)) : sz (a ++ b) = sz a + sz b := by simp [sz]
theorem puts_sz (s : Nat × Nat) (fs : List (Nat × Nat)) : (puts s fs).2 = s.2 + sz fs := by
  induction fs generalizing s with
  | nil => simp [puts, sz]
  | cons f r ih => rw [puts_cons, ih]; simp [sz, putF]; omega
theorem Has.le {b : List Int} {a : Nat} {fs : List (Nat × Nat)} (h : Has b a fs) : a + sz fs ≤ 8 * b.length := by
  obtain ⟨_, N1, h1, _⟩ := h
  rw [puts_sz] at h1
  exact h1
/-- a reader that reads these fields as a value -/
def Reads {α : Type} (b : List Int) (p : Pa α) (fs : List (Nat × Nat)) (v : α) : Prop := ∀ a rest, Has b a (fs ++ rest) → p a = .ok (v, a + sz fs) ∧ Has b (a + sz fs) rest
theorem Reads.pure {α : Type} {b : List Int} (v : α) : Reads b (pureP v) [] v := fun a rest h => ⟨rfl, h⟩
theorem Reads.bind {α β : Type} {b : List Int} {p : Pa α} {f : α → Pa β} {fs gs : List (Nat × Nat)} {v : α} {w : β} (h1 : Reads b p fs v) (h2 : Reads b (f v) gs w) : Reads b (p.bind f) (fs ++ gs) w := by
  intro a rest h
  rw [List.append_assoc] at h
  obtain ⟨e1, k1⟩ := h1 a _ h
  obtain ⟨e2, k2⟩ := h2 _ _ k1
  refine ⟨?_, ?_⟩
  · simp only [Pa.bind, e1, e2, sz_append, Nat.add_assoc]
  · rw [sz_append, ← Nat.add_assoc]; exact k2
theorem Reads.map {α β : Type} {b : List Int} {p : Pa α} {fs : List (Nat × Nat)} {v : α} (h : Reads b p fs v) (f : α → β) : Reads b (p.map f) fs (f v) := by
  intro a rest k
  obtain ⟨e1, k1⟩ := h a rest k
  exact ⟨by simp only [Pa.map, e1], k1⟩
theorem Reads.num {b : List Int} (V c : Nat) : Reads b (numP b c) [(V, c)] (V : Int) := by
  intro a rest h
  obtain ⟨h1, h2, h3⟩ := Has.cons h
  have e : sz [(V, c)] = c := by simp [sz]
  rw [e]
  refine ⟨?_, h3⟩
  unfold numP
  rw [if_pos h1, h2]
theorem Reads.num' {b : List Int} {v : Int} (c : Nat) (hv : 0 ≤ v) : Reads b (numP b c) [(v.toNat, c)] v := by
  have := Reads.num (b := b) v.toNat c
  rwa [show ((v.toNat : Nat) : Int) = v by omega] at this
theorem Reads.range {b : List Int} {v n : Int} (hv : 0 ≤ v) (hn : v < n) : Reads b (rangeP b n.toNat) [rangeF v.toNat n.toNat] v := by
  obtain ⟨v, rfl⟩ := Int.eq_ofNat_of_zero_le hv
  obtain ⟨n, rfl⟩ := Int.eq_ofNat_of_zero_le (show 0 ≤ n by omega)
  rw [Int.toNat_natCast, Int.toNat_natCast]
  have h3 : n < 2 ^ (Nat.log2 n + 1) := Nat.lt_log2_self
  have h6 : 2 ^ Nat.log2 n ≤ n := Nat.log2_self_le (by omega)
  have h7 : 2 ^ (Nat.log2 n + 1) = 2 * 2 ^ Nat.log2 n := by rw [Nat.pow_succ]; omega
  intro a rest h
  unfold rangeF at h ⊢
  unfold rangeP
  by_cases hc : v < 2 ^ (Nat.log2 n + 1) - n
  · rw [if_pos hc] at h ⊢
    obtain ⟨k1, k2, k3⟩ := Has.cons h
    have e : sz [(v, Nat.log2 n)] = Nat.log2 n := by simp [sz]
    rw [if_pos k1, k2, if_pos hc, e]
    exact ⟨rfl, k3⟩
  · rw [if_neg hc] at h ⊢
    obtain ⟨k1, k2, k3⟩ := Has.cons h
    have e : sz [(v + (2 ^ (Nat.log2 n + 1) - n), Nat.log2 n + 1)] = Nat.log2 n + 1 := by simp [sz]
    have hg := gbits_add b a (Nat.log2 n) 1 (by omega)
    have hb := gbits_lt b (a + Nat.log2 n) 1
    rw [k2] at hg
    rw [if_pos (by omega), if_neg (by omega), if_pos k1, k2, e]
    refine ⟨?_, k3⟩
    congr 3
    omega
theorem Reads.rep {α : Type} {b : List Int} {p : Pa α} {φ : α → List (Nat × Nat)} : ∀ {l : List α}, (∀ v ∈ l, Reads b p (φ v) v) → Reads b (repP p l.length) (l.flatMap φ) l
  | [], _ => Reads.pure []
  | v :: r, h => by
    have h1 := h v (by simp)
    have h2 := Reads.rep (l := r) (fun w hw => h w (by simp [hw]))
    exact h1.bind (h2.map (v :: ·))
theorem flatMap_one {α : Type} (l : List α) (φ : α → Nat × Nat) : l.flatMap (fun v => [φ v]) = l.map φ := by
  induction l with
  | nil => rfl
  | cons x r ih => simp [ih]
theorem Reads.rep1 {α : Type} {b : List Int} {p : Pa α} {φ : α → Nat × Nat} {l : List α} {n : Nat} (hn : l.length = n) (h : ∀ v ∈ l, Reads b p [φ v] v) : Reads b (repP p n) (l.map φ) l := by
  subst hn
  have := Reads.rep (φ := fun v => [φ v]) h
  rwa [flatMap_one] at this
end Go.Eng
namespace Go.Proofs.Try.Eng
open Go Go.Eng
theorem Reads.fill {b : List Int} {f : Tm → Pa Tm} {g g' : Tm → Tm} {φ : Tm → List (Nat × Nat)} : ∀ {l : List Tm}, (∀ t ∈ l, Reads b (f (g t)) (φ t) (g' t)) → Reads b (fillP f (l.map g)) (l.flatMap φ) (l.map g')
  | [], _ => Reads.pure []
  | t :: r, h => by
    have h1 := h t (by simp)
    have h2 := Reads.fill (l := r) (fun w hw => h w (by simp [hw]))
    exact h1.bind (h2.map (g' t :: ·))
theorem Reads.dif {b : List Int} : ∀ {k : Nat} {l : List Int}, l.length ≤ k → (∀ v ∈ l, 1 ≤ v ∧ v ≤ 16) → Reads b (difP b k) (l.flatMap diffF ++ [(0, 1)]) l
  | 0, [], _, _ => by
    have := (Reads.num (b := b) 0 1).bind (f := fun g => if g = 1 then failP 6 else pureP []) (gs := []) (w := ([] : List Int)) (by rw [if_neg (by decide)]; exact Reads.pure [])
    exact this
  | k + 1, [], _, _ => by
    have := (Reads.num (b := b) 0 1).bind (f := fun g => if g = 1 then (numP b 4).bind fun v => (difP b k).map ((v + 1) :: ·) else pureP []) (gs := []) (w := ([] : List Int)) (by rw [if_neg (by decide)]; exact Reads.pure [])
    exact this
  | 0, v :: r, h, _ => by simp at h
  | k + 1, v :: r, h, hv => by
    have h1 := hv v (by simp)
    have ih := Reads.dif (b := b) (k := k) (l := r) (by simpa using h) (fun w hw => hv w (by simp [hw]))
    have h4 := (Reads.num' (b := b) (v := v - 1) 4 (by omega)).bind (f := fun v => (difP b k).map ((v + 1) :: ·)) (ih.map ((v - 1 + 1) :: ·))
    rw [Int.sub_add_cancel] at h4
    exact (Reads.num (b := b) 1 1).bind (f := fun g => if g = 1 then (numP b 4).bind fun v => (difP b k).map ((v + 1) :: ·) else pureP []) (by rw [if_pos (by decide)]; exact h4)

def stripT (t : Tm) : Tm := (t.1, t.2.1, [], [], [], ())
def howL : Tm → List Tm → List (Nat × Nat)
  | _, [] => [(3, 2)]
  | x, y :: r => ((followS x y).toNat, 2) :: howL y r
theorem howL_eq : ∀ (x : Tm) (l : List Tm), (List.range (x :: l).length).map (howF (x :: l)) = howL x l
  | x, [] => by simp [howL, howF]
  | x, y :: r => by
    have ih := howL_eq y r
    rw [show (x :: y :: r).length = (y :: r).length + 1 from rfl, List.range_succ_eq_map, List.map_cons, List.map_map]
    simp only [howL]
    rw [← ih]
    congr 2
    funext i
    simp only [Function.comp, howF, Nat.succ_eq_add_one, List.getD_cons_succ, List.length_cons]
    by_cases h : i + 1 < r.length + 1
    · rw [if_pos h, if_pos (by omega)]
    · rw [if_neg h, if_neg (by omega)]
/-- layers as they are right -/
def LayG : Tm → List Tm → Prop
  | _, [] => True
  | x, y :: r => followS x y ≠ 3 ∧ y.1 ≤ 3 ∧ y.2.1 ≤ 7 ∧ LayG y r
theorem layG_of : ∀ {x : Tm} {l : List Tm}, (∀ i, i < l.length → followS ((x :: l).getD i zT) (l.getD i zT) ≠ 3 ∧ (l.getD i zT).1 ≤ 3 ∧ (l.getD i zT).2.1 ≤ 7) → LayG x l
  | x, [], _ => trivial
  | x, y :: r, h => by
    obtain ⟨h1, h2, h3⟩ := h 0 (by simp)
    exact ⟨h1, h2, h3, layG_of (fun i hi => h (i + 1) (by simpa using hi))⟩
theorem follow_cases {x y : Tm} (h1 : 0 ≤ x.1 ∧ x.1 ≤ 3) (h2 : 0 ≤ x.2.1 ∧ x.2.1 ≤ 7) (h : followS x y ≠ 3) :
    (followS x y = 0 ∧ y.1 = x.1 ∧ y.2.1 = x.2.1) ∨ (followS x y = 1 ∧ y.1 = x.1 ∧ y.2.1 = x.2.1 + 1) ∨ (followS x y = 2 ∧ y.1 = x.1 + 1 ∧ y.2.1 = 0) := by
  unfold followS at h ⊢
  rw [wrap64 (n := x.2.1 + 1) (by omega) (by omega), wrap64 (n := x.1 + 1) (by omega) (by omega)] at h ⊢
  simp only [Bool.and_eq_true, beq_iff_eq] at h ⊢
  split at h
  · rename_i c; left; exact ⟨by rw [if_pos c], c⟩
  · rename_i c
    split at h
    · rename_i c2; right; left; exact ⟨by rw [if_neg c, if_pos c2], c2⟩
    · rename_i c2
      split at h
      · rename_i c3; right; right; exact ⟨by rw [if_neg c, if_neg c2, if_pos c3], c3⟩
      · exact absurd rfl h
theorem Reads.lay {b : List Int} : ∀ {k : Nat} {x : Tm} {l : List Tm}, (0 ≤ x.1 ∧ x.1 ≤ 3) → (0 ≤ x.2.1 ∧ x.2.1 ≤ 7) → l.length ≤ k → LayG x l → Reads b (layP b k x.1 x.2.1) (howL x l) (l.map stripT)
  | 0, x, [], _, _, _, _ => by
    exact (Reads.num (b := b) 3 2).bind (f := fun how => if how = 3 then pureP [] else failP 6) (gs := []) (by rw [if_pos (by decide)]; exact Reads.pure [])
  | k + 1, x, [], _, _, _, _ => by
    unfold layP
    exact (Reads.num (b := b) 3 2).bind (gs := []) (by rw [if_pos (by decide)]; exact Reads.pure [])
  | 0, x, y :: r, _, _, h, _ => by simp at h
  | k + 1, x, y :: r, hx1, hx2, h, hg => by
    obtain ⟨g1, g2, g3, g4⟩ := hg
    have fc := follow_cases hx1 hx2 g1
    have hy1 : 0 ≤ y.1 := by omega
    have hy2 : 0 ≤ y.2.1 := by omega
    have ih := Reads.lay (b := b) (k := k) (x := y) (l := r) ⟨hy1, g2⟩ ⟨hy2, g3⟩ (by simpa using h) g4
    have h4 := ih.map ((y.1, y.2.1, [], [], [], ()) :: ·)
    unfold layP
    refine (Reads.num' (b := b) (v := followS x y) 2 (by omega)).bind ?_
    rw [if_neg (by omega)]
    have e1 : (if followS x y = 2 then x.1 + 1 else x.1) = y.1 := by split <;> omega
    have e2 : (if followS x y = 1 then x.2.1 + 1 else if followS x y = 2 then 0 else x.2.1) = y.2.1 := by
      split
      · omega
      · split <;> omega
    rw [e1, e2, if_neg (by omega)]
    exact h4

theorem Reads.struct {b : List Int} {s : St} (hr : rightS s = true) (hs : RV s) : Reads b (structP b) (sFields s) s := by
  have hid := hs.b.id
  have htg := hs.b.tg
  have hch := hs.b.ch
  have hn := hs.b.n
  have ht := hs.b.t
  have hpr := hs.b.pr
  obtain ⟨x, l, hl⟩ : ∃ x l, s.2.2.2.2.1 = x :: l := by
    cases h : s.2.2.2.2.1 with
    | nil => rw [h] at hn; simp at hn
    | cons x l => exact ⟨x, l, rfl⟩
  have t0 := ht 0 (by omega)
  simp only [tmplOk, if_true, hl, Bool.and_eq_true, Bool.not_eq_true', Bool.or_eq_false_iff, List.getD_cons_zero, bne_eq_false_iff_eq] at t0
  have hx1 : x.1 = 0 := t0.1.1
  have hx2 : x.2.1 = 0 := t0.1.2
  have hlay : LayG x l := layG_of (fun i hi => by
    have hi' : i + 1 < s.2.2.2.2.1.length := by rw [hl]; simpa using hi
    have t := ht (i + 1) hi'
    simp only [tmplOk, if_neg (show ¬ i + 1 = 0 by omega), Nat.add_sub_cancel, hl, Bool.and_eq_true, Bool.not_eq_true', Bool.or_eq_false_iff, decide_eq_false_iff_not, beq_eq_false_iff_ne, List.getD_cons_succ] at t
    exact ⟨t.1, by omega, by omega⟩)
  unfold structP sFields
  refine (Reads.num' (b := b) (v := s.1) 6 hid.1).bind (fs := [(s.1.toNat, 6)]) (gs := [((s.2.1 - 1).toNat, 5)] ++ _) ?_
  refine (Reads.num' (b := b) (v := s.2.1 - 1) 5 (by omega)).bind ?_
  have e1 : s.2.1 - 1 + 1 = s.2.1 := by omega
  have e2 : s.2.1 - 1 + 2 = s.2.1 + 1 := by omega
  rw [e1, e2]
  -- layers
  have hL : Reads b ((layP b 63 0 0).map (zT :: ·)) ((List.range s.2.2.2.2.1.length).map (howF s.2.2.2.2.1)) (s.2.2.2.2.1.map stripT) := by
    rw [hl, howL_eq]
    have := Reads.lay (b := b) (k := 63) (x := x) (l := l) (by omega) (by omega) (by rw [hl] at hn; simp at hn; omega) hlay
    rw [hx1, hx2] at this
    have := this.map (zT :: ·)
    have e : zT = stripT x := by unfold zT stripT; rw [hx1, hx2]
    rw [List.map_cons, ← e]
    exact this
  refine hL.bind ?_
  -- marks
  refine (Reads.fill (b := b) (g := stripT) (g' := fun t => setM (stripT t) t.2.2.1) (φ := fun t => t.2.2.1.map markF) (l := s.2.2.2.2.1) (fun t ht => by
    have h := hs.m t ht
    exact (Reads.rep1 (n := s.2.1.toNat) (by omega) (fun v hv => Reads.num' 2 (h.2 v hv).1)).map (setM (stripT t)))).bind ?_
  refine (Reads.fill (b := b) (g := fun t => setM (stripT t) t.2.2.1) (g' := fun t => setD (setM (stripT t) t.2.2.1) t.2.2.2.1) (φ := tDiffs) (l := s.2.2.2.2.1) (fun t ht => by
    have h := hs.d t ht
    exact (Reads.dif h.1 h.2).map (setD (setM (stripT t) t.2.2.1)))).bind ?_
  refine (Reads.range (b := b) (v := s.2.2.1) (n := s.2.1 + 1) hch.1 (by omega)).bind ?_
  have hP : Reads b (if s.2.2.1 > 0 then repP (rangeP b s.2.2.1.toNat) s.2.1.toNat else pureP []) (s.2.2.2.1.map (fun v => rangeF v.toNat s.2.2.1.toNat)) s.2.2.2.1 := by
    by_cases hc : s.2.2.1 > 0
    · rw [if_pos hc]
      rw [if_neg (by omega)] at hpr
      exact Reads.rep1 (by omega) (fun v hv => Reads.range (hs.p v hv).1 (hs.p v hv).2)
    · rw [if_neg hc]
      rw [if_pos (by omega)] at hpr
      have : s.2.2.2.1 = [] := List.eq_nil_of_length_eq_zero (by omega)
      rw [this]
      exact Reads.pure []
  refine hP.bind ?_
  refine (Reads.fill (b := b) (g := fun t => setD (setM (stripT t) t.2.2.1) t.2.2.2.1) (g' := fun t => t) (φ := fun t => t.2.2.2.2.1.map chainF) (l := s.2.2.2.2.1) (fun t ht => by
    have h := hs.c t ht
    exact (Reads.rep1 (n := s.2.2.1.toNat) (by omega) (fun v hv => Reads.num' 4 (h.2 v hv).1)).map (setC (setD (setM (stripT t) t.2.2.1) t.2.2.2.1)))).bind ?_
  rw [List.map_id']
  unfold endF
  have hsz : s.2.2.2.2.2.1.length ≠ 0 → (s.2.2.2.2.2.1.length : Int) = (s.2.2.2.2.1.getD (s.2.2.2.2.1.length - 1) zT).1 + 1 := by
    intro hz
    simp only [rightS, Bool.and_eq_true, sizesOk, Bool.or_eq_true, beq_iff_eq] at hr
    rcases hr.2.2.1 with h | h
    · exact absurd h hz
    · have hlast := ht (s.2.2.2.2.1.length - 1) (by omega)
      rw [h]
      simp only [tmplOk, Bool.and_eq_true, Bool.not_eq_true', Bool.or_eq_false_iff, decide_eq_false_iff_not] at hlast
      have hub := hlast.2.1.1.1
      by_cases hlb : 0 ≤ (s.2.2.2.2.1.getD (s.2.2.2.2.1.length - 1) zT).1
      · rw [wrap64 (by omega) (by omega)]
      · have h5 := hs.sh.zs
        have hq : IntKind.i64.wrap ((s.2.2.2.2.1.getD (s.2.2.2.2.1.length - 1) zT).1 + 1) = (s.2.2.2.2.2.1.length : Int) := h.symm
        exfalso
        -- layers never go below nothing
        have low : ∀ (l : List Tm) (x : Tm), (0 ≤ x.1 ∧ x.1 ≤ 3) → (0 ≤ x.2.1 ∧ x.2.1 ≤ 7) → LayG x l → ∀ i, i < (x :: l).length → 0 ≤ ((x :: l).getD i zT).1 := by
          intro l
          induction l with
          | nil => intro x h1 _ _ i hi; simp at hi; subst hi; exact h1.1
          | cons y r ih =>
            intro x h1 h2 hg i hi
            cases i with
            | zero => exact h1.1
            | succ i =>
              have fc := follow_cases h1 h2 hg.1
              have g2 := hg.2.1
              have g3 := hg.2.2.1
              exact ih y ⟨by omega, g2⟩ ⟨by omega, g3⟩ hg.2.2.2 i (by simpa using hi)
        have := low l x (by omega) (by omega) hlay (s.2.2.2.2.1.length - 1) (by rw [← hl]; omega)
        rw [← hl] at this
        exact hlb this
  by_cases hz : s.2.2.2.2.2.1.length = 0
  · rw [if_pos hz]
    have hzs : s.2.2.2.2.2.1 = [] := List.eq_nil_of_length_eq_zero hz
    refine (Reads.num (b := b) 0 1).bind (gs := []) ?_
    rw [if_neg (by decide)]
    refine (Reads.pure []).bind (gs := []) ?_
    have e : s = (s.1, s.2.1, s.2.2.1, s.2.2.2.1, s.2.2.2.2.1, [], ()) := by rw [← hzs]
    conv => rhs; rw [e]
    exact Reads.pure _
  · rw [if_neg hz]
    refine (Reads.num (b := b) 1 1).bind (fs := [(1, 1)]) ?_
    rw [if_pos (by decide)]
    have hS : Reads b (repP (sizeP b) ((s.2.2.2.2.1.getD (s.2.2.2.2.1.length - 1) zT).1 + 1).toNat) (s.2.2.2.2.2.1.flatMap sizeF) s.2.2.2.2.2.1 := by
      rw [← hsz hz, Int.toNat_natCast]
      refine Reads.rep (fun v hv => ?_)
      have h := hs.z v hv
      have k1 := (Reads.num' (b := b) (v := v.2.1 - 1) 16 (by omega)).map (fun h => ((v.1 - 1 + 1, h + 1, ()) : T_api_Size))
      have k2 := (Reads.num' (b := b) (v := v.1 - 1) 16 (by omega)).bind (f := fun w => (numP b 16).map fun h => ((w + 1, h + 1, ()) : T_api_Size)) k1
      rw [Int.sub_add_cancel, Int.sub_add_cancel] at k2
      exact k2
    have := hS.bind (f := fun zs => pureP ((s.1, s.2.1, s.2.2.1, s.2.2.2.1, s.2.2.2.2.1, zs, ()) : St)) (gs := []) (Reads.pure _)
    rw [List.append_nil] at this
    exact this
end Go.Proofs.Try.Eng


set_option linter.unusedVariables false
set_option linter.unusedSimpArgs false
namespace Go.Eng
def Fits (fs : List (Nat × Nat)) : Prop := ∀ f ∈ fs, f.1 < 2 ^ f.2
theorem Fits.append {a b : List (Nat × Nat)} (ha : Fits a) (hb : Fits b) : Fits (a ++ b) := by
  intro f hf
  rcases List.mem_append.1 hf with h | h
  · exact ha f h
  · exact hb f h
theorem Fits.cons {x : Nat × Nat} {b : List (Nat × Nat)} (ha : x.1 < 2 ^ x.2) (hb : Fits b) : Fits (x :: b) := by
  intro f hf
  rcases List.mem_cons.1 hf with rfl | h
  · exact ha
  · exact hb f h
theorem Fits.nil : Fits [] := fun f h => by cases h
theorem Fits.map {α : Type} {l : List α} {φ : α → Nat × Nat} (h : ∀ v ∈ l, (φ v).1 < 2 ^ (φ v).2) : Fits (l.map φ) := by
  intro f hf
  obtain ⟨v, hv, rfl⟩ := List.mem_map.1 hf
  exact h v hv
theorem Fits.flatMap {α : Type} {l : List α} {φ : α → List (Nat × Nat)} (h : ∀ v ∈ l, Fits (φ v)) : Fits (l.flatMap φ) := by
  intro f hf
  obtain ⟨v, hv, hf⟩ := List.mem_flatMap.1 hf
  exact h v hv f hf
theorem K.has {k : List Int × Int × Unit} {fs : List (Nat × Nat)} (h : K k (puts (0, 0) fs).1 (puts (0, 0) fs).2) (hf : Fits fs) {ext : List Int} (he : Byt ext) : Has (k.1 ++ ext) 0 fs := by
  refine ⟨hf, 0, ?_, ?_⟩
  · have := h.len; simp only [List.length_append]; omega
  · have h1 := h.len
    have h2 := num_lt he
    rw [num_append, h.num, pow256] at *
    have e : 8 * (k.1 ++ ext).length - (puts (0, 0) fs).2 = (8 * k.1.length - (puts (0, 0) fs).2) + 8 * ext.length := by simp only [List.length_append]; omega
    rw [e]
    generalize (puts (0, 0) fs).1 = N
    generalize 8 * k.1.length - (puts (0, 0) fs).2 = p
    rw [Nat.mul_assoc, ← Nat.pow_add, Nat.add_comm, Nat.add_mul_div_right _ _ (Nat.pow_pos (by decide)), Nat.div_eq_of_lt, Nat.zero_add]
    exact Nat.lt_of_lt_of_le h2 (Nat.pow_le_pow_right (by decide) (by omega))
end Go.Eng
namespace Go.Proofs.Try.Eng
open Go Go.Eng
theorem boF_fits (c : Bool) : (boF c).1 < 2 ^ (boF c).2 := by cases c <;> decide
theorem sFields_fits {s : St} (hs : RV s) : Fits (sFields s) := by
  have hid := hs.b.id
  have htg := hs.b.tg
  have hch := hs.b.ch
  unfold sFields
  have p1 : (2 : Nat) ^ 1 = 2 := by decide
  have p2 : (2 : Nat) ^ 2 = 4 := by decide
  have p4 : (2 : Nat) ^ 4 = 16 := by decide
  have p5 : (2 : Nat) ^ 5 = 32 := by decide
  have p6 : (2 : Nat) ^ 6 = 64 := by decide
  have p16 : (2 : Nat) ^ 16 = 65536 := by decide
  refine Fits.append (Fits.cons (by simp only; omega) (Fits.cons (by simp only; omega) Fits.nil)) (Fits.append (Fits.map (fun i hi => ?_)) (Fits.append (Fits.flatMap (fun t ht => Fits.map (fun v hv => ?_))) (Fits.append (Fits.flatMap (fun t ht => ?_)) (Fits.append (Fits.cons ?_ Fits.nil) (Fits.append (Fits.map (fun v hv => ?_)) (Fits.append (Fits.flatMap (fun t ht => Fits.map (fun v hv => ?_))) ?_))))))
  · simp only [howF]
    split
    · have := how_range (s.2.2.2.2.1.getD i zT) (s.2.2.2.2.1.getD (i + 1) zT); omega
    · decide
  · have := (hs.m t ht).2 v hv
    simp only [markF]; omega
  · unfold tDiffs
    refine Fits.append (Fits.flatMap (fun v hv => ?_)) (Fits.cons (by decide) Fits.nil)
    have := (hs.d t ht).2 v hv
    exact Fits.cons (by decide) (Fits.cons (by simp only; omega) Fits.nil)
  · exact rangeF_fits (by omega) (by omega)
  · have := hs.p v hv
    exact rangeF_fits (by omega) (by omega)
  · have := (hs.c t ht).2 v hv
    simp only [chainF]; omega
  · unfold endF
    split
    · exact Fits.cons (by decide) Fits.nil
    · refine Fits.cons (by decide) (Fits.flatMap (fun v hv => ?_))
      have := hs.z v hv
      exact Fits.cons (by simp only; omega) (Fits.cons (by simp only; omega) Fits.nil)
theorem Reads.gap {b : List Int} : ∀ {k : Nat} {l : List Int}, l.length ≤ k → (∀ v ∈ l, 1 ≤ v ∧ v ≤ 4096) → Reads b (gapP b k) (l.flatMap gapF ++ [(0, 2)]) l
  | 0, [], _, _ => by
    exact (Reads.num (b := b) 0 2).bind (f := fun g => if g = 0 then pureP [] else failP 6) (gs := []) (w := ([] : List Int)) (by rw [if_pos (by decide)]; exact Reads.pure [])
  | k + 1, [], _, _ => by
    exact (Reads.num (b := b) 0 2).bind (f := fun g => if g = 0 then pureP [] else (numP b (4 * g).toNat).bind fun v => (gapP b k).map ((v + 1) :: ·)) (gs := []) (w := ([] : List Int)) (by rw [if_pos (by decide)]; exact Reads.pure [])
  | 0, v :: r, h, _ => by simp at h
  | k + 1, v :: r, h, hv => by
    have h1 := hv v (by simp)
    have ih := Reads.gap (b := b) (k := k) (l := r) (by simpa using h) (fun w hw => hv w (by simp [hw]))
    have h4 := (Reads.num' (b := b) (v := v - 1) (4 * groups v) (by omega)).bind (f := fun v => (gapP b k).map ((v + 1) :: ·)) (ih.map ((v - 1 + 1) :: ·))
    rw [Int.sub_add_cancel] at h4
    have hg : 1 ≤ groups v := by
      unfold groups
      split
      · omega
      · split <;> omega
    exact (Reads.num (b := b) (groups v) 2).bind (f := fun g => if g = 0 then pureP [] else (numP b (4 * g).toNat).bind fun v => (gapP b k).map ((v + 1) :: ·)) (by
      rw [if_neg (by omega), show (4 * ((groups v : Nat) : Int)).toNat = 4 * groups v by omega]; exact h4)

/-- the head of a frame, as it is read -/
def hdF (f : Fr) : Fr := (f.1, f.2.1, f.2.2.1, f.2.2.2.1, f.2.2.2.2.1, (0, 0, 0, [], [], [], ()), f.2.2.2.2.2.2.1, 0, f.2.2.2.2.2.2.2.2.1, [], f.2.2.2.2.2.2.2.2.2.2.1, [], f.2.2.2.2.2.2.2.2.2.2.2.2.1, [], ())
/-- what is right of a frame, in short -/
structure FR (f : Fr) (known : St) : Prop where
  v : FV f (ofF f known)
  s : rightS (ofF f known) = true
  sh : Sh (ofF f known)
  m : if f.2.2.2.2.2.2.2.2.1 then (f.2.2.2.2.2.2.2.2.2.1.length : Int) = (ofF f known).2.1 else f.2.2.2.2.2.2.2.2.2.1 = []
  d : if f.2.2.2.2.2.2.2.2.2.2.1 then f.2.2.2.2.2.2.2.2.2.2.2.1.length ≤ 16 else f.2.2.2.2.2.2.2.2.2.2.2.1 = []
  c : if f.2.2.2.2.2.2.2.2.2.2.2.2.1 then (f.2.2.2.2.2.2.2.2.2.2.2.2.2.1.length : Int) = (ofF f known).2.2.1 else f.2.2.2.2.2.2.2.2.2.2.2.2.2.1 = []
  a : f.2.2.2.2.2.2.1 = false → f.2.2.2.2.2.2.2.1 = 0
  st : f.2.2.2.2.1 = false → f.2.2.2.2.2.1 = zS
  pl : (inB f.2.2.1 0 63 && decide (placeAt f.2.2.1 (ofF f known) < (ofF f known).2.2.2.2.1.length)) = true
  k : (decide (known = zS) || rightS known) = true
theorem own_len {has : Bool} {l : List Int} {many lo hi : Int} (h : ownOk has l many lo hi = true) : if has then (l.length : Int) = many else l = [] := by
  unfold ownOk at h
  cases has with
  | true => simp only [if_true, Bool.and_eq_true, beq_iff_eq] at h ⊢; exact h.1
  | false =>
    simp only [Bool.false_eq_true, if_false, beq_iff_eq] at h ⊢
    exact List.eq_nil_of_length_eq_zero (by omega)
theorem right_fr {f : Fr} {known : St} (hr : rightF f known = true) (hf2 : ShF f) (hk2 : Sh known) : FR f known := by
  have hv := right_fv hr hf2
  have hp := right_place hr
  simp only [rightF, Bool.and_eq_true] at hr
  obtain ⟨⟨⟨⟨⟨⟨⟨⟨h1, h2⟩, h3⟩, h4, h5⟩, h6⟩, h7⟩, h8', h8⟩, h9⟩, h10⟩ := hr
  refine ⟨hv, h2, ?_, own_len h9, ?_, own_len h10, fun hA => ?_, fun hS => ?_, ?_, h1⟩
  · unfold ofF; split
    · exact hf2.s
    · exact hk2
  · have := own_len h8
    simp only [Bool.not_eq_true', decide_eq_false_iff_not] at h8'
    split
    · omega
    · rename_i hh; rw [if_neg hh] at this; exact this
  · simp only [Bool.not_eq_true', Bool.or_eq_false_iff, hA, Bool.not_false, Bool.true_and, bne_eq_false_iff_eq] at h7
    exact h7.2
  · simp only [hS, Bool.false_or, decide_eq_true_eq] at h3
    exact h3
  · simp only [h4, h5, Bool.and_self]
theorem aTail_fits {f : Fr} {known : St} (h : FR f known) : Fits (aTail f (ofF f known)) := by
  have hv := h.v
  have p2 : (2 : Nat) ^ 2 = 4 := by decide
  have p8 : (2 : Nat) ^ 8 = 256 := by decide
  refine Fits.append ?_ (Fits.append ?_ (Fits.append (Fits.map (fun v hm => ?_)) (Fits.append (Fits.flatMap (fun v hm => ?_)) (Fits.append ?_ (Fits.map (fun v hm => ?_))))))
  · split
    · rename_i hs
      have e : ofF f known = f.2.2.2.2.2.1 := by simp only [ofF, hs, if_true]
      have h2 := h.s
      have h3 := h.sh
      rw [e] at h2 h3
      exact sFields_fits (right_v h2 h3)
    · exact Fits.nil
  · split
    · exact Fits.cons hv.a Fits.nil
    · exact Fits.nil
  · have := hv.m v hm
    simp only [markF]; omega
  · have := hv.d v hm
    have g := groups_fit this.1 this.2
    have hg : groups v < 4 := by
      unfold groups
      split
      · omega
      · split <;> omega
    exact Fits.cons (by simp only; omega) (Fits.cons g Fits.nil)
  · split
    · exact Fits.cons (by decide) Fits.nil
    · exact Fits.nil
  · have := hv.c v hm
    simp only [c8F]; omega

theorem Reads.tail {b : List Int} {f f0 : Fr} {known : St} (h : FR f known) (e1 : f0.2.2.2.2.2.2.2.2.1 = f.2.2.2.2.2.2.2.2.1) (e2 : f0.2.2.2.2.2.2.2.2.2.2.1 = f.2.2.2.2.2.2.2.2.2.2.1) (e3 : f0.2.2.2.2.2.2.2.2.2.2.2.2.1 = f.2.2.2.2.2.2.2.2.2.2.2.2.1) :
    Reads b (tailP b f0 (ofF f known)) (mTail f) (withL f0 f.2.2.2.2.2.2.2.2.2.1 f.2.2.2.2.2.2.2.2.2.2.2.1 f.2.2.2.2.2.2.2.2.2.2.2.2.2.1) := by
  have hv := h.v
  have hm := h.m
  have hd := h.d
  have hc := h.c
  have hB := right_b h.s
  have htg := hB.tg
  have hch := hB.ch
  unfold tailP
  rw [e1, e2, e3]
  have k1 : Reads b (if f.2.2.2.2.2.2.2.2.1 then repP (numP b 2) (ofF f known).2.1.toNat else pureP []) (f.2.2.2.2.2.2.2.2.2.1.map markF) f.2.2.2.2.2.2.2.2.2.1 := by
    cases hq : f.2.2.2.2.2.2.2.2.1 with
    | true =>
      rw [if_pos hq] at hm
      exact Reads.rep1 (by omega) (fun v hw => Reads.num' 2 (hv.m v hw).1)
    | false =>
      rw [if_neg (by rw [hq]; decide)] at hm
      rw [hm]
      exact Reads.pure []
  have k2 : Reads b (if f.2.2.2.2.2.2.2.2.2.2.1 then gapP b 16 else pureP []) (f.2.2.2.2.2.2.2.2.2.2.2.1.flatMap gapF ++ (if f.2.2.2.2.2.2.2.2.2.2.1 then [(0, 2)] else [])) f.2.2.2.2.2.2.2.2.2.2.2.1 := by
    cases hq : f.2.2.2.2.2.2.2.2.2.2.1 with
    | true =>
      rw [if_pos hq] at hd
      exact Reads.gap hd hv.d
    | false =>
      rw [if_neg (by rw [hq]; decide)] at hd
      rw [hd]
      exact Reads.pure []
  have k3 : Reads b (if f.2.2.2.2.2.2.2.2.2.2.2.2.1 then repP (numP b 8) (ofF f known).2.2.1.toNat else pureP []) (f.2.2.2.2.2.2.2.2.2.2.2.2.2.1.map c8F) f.2.2.2.2.2.2.2.2.2.2.2.2.2.1 := by
    cases hq : f.2.2.2.2.2.2.2.2.2.2.2.2.1 with
    | true =>
      rw [if_pos hq] at hc
      exact Reads.rep1 (by omega) (fun v hw => Reads.num' 8 (hv.c v hw).1)
    | false =>
      rw [if_neg (by rw [hq]; decide)] at hc
      rw [hc]
      exact Reads.pure []
  have k4 := k1.bind (f := fun ms => (if f.2.2.2.2.2.2.2.2.2.2.1 then gapP b 16 else pureP []).bind fun ds => (if f.2.2.2.2.2.2.2.2.2.2.2.2.1 then repP (numP b 8) (ofF f known).2.2.1.toNat else pureP []).bind fun cs => pureP (withL f0 ms ds cs))
    (k2.bind (k3.bind (Reads.pure _)))
  rw [List.append_nil, List.append_assoc] at k4
  exact k4
theorem Reads.act {b : List Int} {f f0 : Fr} {known : St} (h : FR f known) (ha : 0 ≤ f.2.2.2.2.2.2.2.1 ∧ f.2.2.2.2.2.2.2.1 < 4294967296) (e0 : f0.2.2.2.2.2.2.1 = f.2.2.2.2.2.2.1) (ea : f0.2.2.2.2.2.2.2.1 = 0) (e1 : f0.2.2.2.2.2.2.2.2.1 = f.2.2.2.2.2.2.2.2.1) (e2 : f0.2.2.2.2.2.2.2.2.2.2.1 = f.2.2.2.2.2.2.2.2.2.2.1) (e3 : f0.2.2.2.2.2.2.2.2.2.2.2.2.1 = f.2.2.2.2.2.2.2.2.2.2.2.2.1) :
    Reads b (actP b f0 (ofF f known)) ((if f.2.2.2.2.2.2.1 then [((IntKind.u64.wrap f.2.2.2.2.2.2.2.1).toNat, (ofF f known).2.1.toNat)] else []) ++ mTail f) (withL (withA f0 f.2.2.2.2.2.2.2.1) f.2.2.2.2.2.2.2.2.2.1 f.2.2.2.2.2.2.2.2.2.2.2.1 f.2.2.2.2.2.2.2.2.2.2.2.2.2.1) := by
  unfold actP
  rw [e0]
  have w1 : IntKind.u64.wrap f.2.2.2.2.2.2.2.1 = f.2.2.2.2.2.2.2.1 := u64_id ha.1 (by omega)
  have w2 : IntKind.u32.wrap f.2.2.2.2.2.2.2.1 = f.2.2.2.2.2.2.2.1 := by
    unfold IntKind.wrap IntKind.signed IntKind.bits
    simp only [Bool.false_and, Bool.false_eq_true, if_false]
    exact Int.emod_eq_of_lt (by omega) (by omega)
  cases hq : f.2.2.2.2.2.2.1 with
  | true =>
    have k := (Reads.num' (b := b) (v := f.2.2.2.2.2.2.2.1) (ofF f known).2.1.toNat ha.1).map (fun v => withA f0 (IntKind.u32.wrap v))
    rw [w2] at k
    rw [w1]
    exact k.bind (Reads.tail h e1 e2 e3)
  | false =>
    have hz := h.a hq
    have e : withA f0 f.2.2.2.2.2.2.2.1 = f0 := by rw [hz, ← ea]; rfl
    rw [e]
    exact (Reads.pure (b := b) f0).bind (Reads.tail h e1 e2 e3)
theorem mid_has {b : List Int} {f : Fr} {known : St} (h : FR f known) (ha : 0 ≤ f.2.2.2.2.2.2.2.1 ∧ f.2.2.2.2.2.2.2.1 < 4294967296) {a : Nat} (hh : Has b a (aTail f (ofF f known))) : midF b (hdF f) known a = ansF b (.ok (f, a + sz (aTail f (ofF f known)))) := by
  have hz : ofF f known ≠ zS := by
    intro e
    have := h.s
    rw [e] at this
    exact absurd this (by decide)
  have rest : ∀ (a : Nat), Has b a ((if f.2.2.2.2.2.2.1 then [((IntKind.u64.wrap f.2.2.2.2.2.2.2.1).toNat, (ofF f known).2.1.toNat)] else []) ++ mTail f) → restF b (withS (hdF f) f.2.2.2.2.2.1) known a =
      ansF b (.ok (f, a + sz ((if f.2.2.2.2.2.2.1 then [((IntKind.u64.wrap f.2.2.2.2.2.2.2.1).toNat, (ofF f known).2.1.toNat)] else []) ++ mTail f))) := by
    intro a hh
    have eo : ofF (withS (hdF f) f.2.2.2.2.2.1) known = ofF f known := rfl
    unfold restF
    rw [eo, if_neg hz, if_neg (by
      have := h.pl
      show ¬ ((inB f.2.2.1 0 63 && decide (placeAt f.2.2.1 (ofF f known) < (ofF f known).2.2.2.2.1.length)) = false)
      rw [this]; decide)]
    have k := Reads.act (b := b) (f0 := withS (hdF f) f.2.2.2.2.2.1) h ha rfl rfl rfl rfl rfl a [] (by rw [List.append_nil]; exact hh)
    rw [k.1]
    rfl
  unfold midF
  have e0 : (hdF f).2.2.2.2.1 = f.2.2.2.2.1 := rfl
  rw [e0]
  by_cases hs : f.2.2.2.2.1 = true
  · have e : ofF f known = f.2.2.2.2.2.1 := by simp only [ofF, hs, if_true]
    have h2 := h.s
    have h3 := h.sh
    rw [e] at h2 h3
    rw [if_pos hs]
    have hh' := hh
    unfold aTail at hh'
    rw [if_pos hs] at hh'
    obtain ⟨k1, k2⟩ := Reads.struct (b := b) h2 (right_v h2 h3) a _ hh'
    rw [k1]
    simp only []
    rw [rest _ k2]
    congr 3
    unfold aTail
    rw [if_pos hs]
    simp only [sz_append]
    omega
  · rw [if_neg hs]
    have hs' : f.2.2.2.2.1 = false := by simpa using hs
    have e : hdF f = withS (hdF f) f.2.2.2.2.2.1 := by rw [h.st hs']; rfl
    have hh' := hh
    unfold aTail at hh'
    rw [if_neg hs, List.nil_append] at hh'
    rw [e, rest _ hh']
    congr 3
    unfold aTail
    rw [if_neg hs, List.nil_append]
end Go.Proofs.Try.Eng


set_option linter.unusedVariables false
set_option linter.unusedSimpArgs false
namespace Go.Proofs.Try.Eng
open Go Go.Eng
theorem bne_dec (a b : Int) : (a != b) = !decide (a = b) := by rw [bne, beq_dec]
theorem bneb_dec (a b : Bool) : (a != b) = !decide (a = b) := by cases a <;> cases b <;> rfl

theorem ref_Ints (a b : List Int) (ha : a.length < 100000) : P_crossbarref24_Ints (a, b, ()) = some (decide (a = b), ()) := by
  rw [E_crossbarref24_Ints, N_crossbarref24_Ints]
  by_cases h : a.length = b.length
  · have e : ((a.length : Int) != (b.length : Int)) = false := by simp [h]
    simp only [e, Bool.false_eq_true, if_false]
    refine (iter_all (F := L_crossbarref24_Ints_4 1000000) (fun i => (a, b, (i : Int), ())) (fun i => decide (a.getD i 0 = b.getD i 0)) (r0 := some (false, ())) (r1 := some (true, ())) a.length
      (fun i J hi => by
        simp only [L_crossbarref24_Ints_4, nat_lt_len, Int.toNat_natCast, wrap_succ hi (show a.length < 1000000000 by omega)]
        rw [decide_eq_true (show (i : Int) < (a.length : Int) by omega), decide_eq_true hi, decide_eq_true (show i < b.length by omega)]
        simp only [if_true, bne, beq_dec]
        cases decide (a.getD i 0 = b.getD i 0) <;> rfl)
      (fun J => by simp [L_crossbarref24_Ints_4]) a.length 0 1000000 (by omega) (by omega)).trans ?_
    rw [all_eq a b 0 h]
    cases decide (a = b) <;> rfl
  · have e : ((a.length : Int) != (b.length : Int)) = true := by simp; omega
    simp only [e, if_true]
    rw [decide_eq_false (fun e => h (by rw [e]))]

abbrev sA {R : Type} (a : St) (r : R) := (a.1, a.2.1, a.2.2.1, a.2.2.2.1, a.2.2.2.2.1, a.2.2.2.2.2.1, r)
theorem tm_dec (x y : Tm) : decide (x = y) = (decide (x.1 = y.1) && decide (x.2.1 = y.2.1) && decide (x.2.2.1 = y.2.2.1) && decide (x.2.2.2.1 = y.2.2.2.1) && decide (x.2.2.2.2.1 = y.2.2.2.2.1)) := by
  rw [Bool.eq_iff_iff]
  simp only [Bool.and_eq_true, decide_eq_true_eq, Prod.ext_iff, and_true, and_assoc]
theorem ref26_Same (a b : St) (h : SmS a) : P_crossbarref26_Same (a, b, ()) = some (decide (a = b), ()) := by
  rw [E_crossbarref26_Same, N_crossbarref26_Same]
  have hd : decide (a = b) = (decide (a.1 = b.1) && decide (a.2.1 = b.2.1) && decide (a.2.2.1 = b.2.2.1) && decide (a.2.2.2.1 = b.2.2.2.1) && decide (a.2.2.2.2.2.1 = b.2.2.2.2.2.1) && decide (a.2.2.2.2.1 = b.2.2.2.2.1)) := by
    rw [Bool.eq_iff_iff]
    simp only [Bool.and_eq_true, decide_eq_true_eq, Prod.ext_iff, and_true, and_assoc]
    constructor <;> (rintro ⟨h1, h2, h3, h4, h5, h6⟩; exact ⟨h1, h2, h3, h4, h6, h5⟩)
  have hts := h.ts
  have hzs := h.zs
  simp only [ref_Ints _ _ h.ps, bif_or, bne_dec]
  rw [hd]
  generalize hb1 : decide (a.1 = b.1) = b1
  generalize hb2 : decide (a.2.1 = b.2.1) = b2
  generalize hb3 : decide (a.2.2.1 = b.2.2.1) = b3
  generalize hb4 : decide (a.2.2.2.1 = b.2.2.2.1) = b4
  have pre : ∀ (X : Option (Bool × Unit)) (c d : Bool), ((if (!(!b1 || !b2 || !b3)) = true then some (b4, ()) else some (false, ())).bind fun (r1 : Bool × Unit) => if ((!b1 || !b2 || !b3 || !r1.1 || !c) || !d) = true then some (false, ()) else X) =
      if (b1 && b2 && b3 && b4 && c && d) = true then X else some (false, ()) := by
    intro X c d
    cases b1 <;> cases b2 <;> cases b3 <;> cases b4 <;> cases c <;> cases d <;> rfl
  rw [pre]
  by_cases hc : (b1 && b2 && b3 && b4 && decide ((a.2.2.2.2.1.length : Int) = (b.2.2.2.2.1.length : Int)) && decide ((a.2.2.2.2.2.1.length : Int) = (b.2.2.2.2.2.1.length : Int))) = true
  · rw [if_pos hc]
    simp only [Bool.and_eq_true, decide_eq_true_eq] at hc
    obtain ⟨⟨⟨⟨⟨rfl, rfl⟩, rfl⟩, rfl⟩, h5⟩, h6⟩ := hc
    have h5' : a.2.2.2.2.1.length = b.2.2.2.2.1.length := by omega
    have h6' : a.2.2.2.2.2.1.length = b.2.2.2.2.2.1.length := by omega
    have M := iter_all (F := L_crossbarref26_Same_9 1000000) (fun i => sA a (sA b ((i : Int), ()))) (fun i => decide (a.2.2.2.2.1.getD i zT = b.2.2.2.2.1.getD i zT)) (r0 := some (false, ())) (r1 := some (true, ())) a.2.2.2.2.1.length
      (fun i J hi => by
        obtain ⟨m1, m2, m3⟩ := h.t _ (getD_mem (z := zT) hi)
        simp only [L_crossbarref26_Same_9, nat_lt_len, Int.toNat_natCast, wrap_succ hi (show a.2.2.2.2.1.length < 1000000000 by omega), zT_eq, ref_Ints _ _ m1, ref_Ints _ _ m2, ref_Ints _ _ m3, bne_dec, bif_or]
        rw [decide_eq_true (show (i : Int) < (a.2.2.2.2.1.length : Int) by omega), decide_eq_true hi, decide_eq_true (show i < b.2.2.2.2.1.length by omega), tm_dec]
        generalize decide ((a.2.2.2.2.1.getD i zT).1 = (b.2.2.2.2.1.getD i zT).1) = c1
        generalize decide ((a.2.2.2.2.1.getD i zT).2.1 = (b.2.2.2.2.1.getD i zT).2.1) = c2
        generalize decide ((a.2.2.2.2.1.getD i zT).2.2.1 = (b.2.2.2.2.1.getD i zT).2.2.1) = c3
        generalize decide ((a.2.2.2.2.1.getD i zT).2.2.2.1 = (b.2.2.2.2.1.getD i zT).2.2.2.1) = c4
        generalize decide ((a.2.2.2.2.1.getD i zT).2.2.2.2.1 = (b.2.2.2.2.1.getD i zT).2.2.2.2.1) = c5
        cases c1 <;> cases c2 <;> cases c3 <;> cases c4 <;> cases c5 <;> rfl)
      (fun J => by simp only [L_crossbarref26_Same_9, nlt_cast, Bool.false_eq_true, if_false]) a.2.2.2.2.1.length 0 1000000 (by omega) (by omega)
    rw [all_eq a.2.2.2.2.1 b.2.2.2.2.1 zT h5'] at M
    have L := iter_all (F := L_crossbarref26_Same_4 1000000) (fun i => sA a (sA b ((i : Int), ()))) (fun i => decide (a.2.2.2.2.2.1.getD i (0, 0, ()) = b.2.2.2.2.2.1.getD i (0, 0, ()))) (r0 := some (false, ())) (r1 := some (decide (a.2.2.2.2.1 = b.2.2.2.2.1), ())) a.2.2.2.2.2.1.length
      (fun i J hi => by
        simp only [L_crossbarref26_Same_4, nat_lt_len, Int.toNat_natCast, wrap_succ hi (show a.2.2.2.2.2.1.length < 1000000000 by omega)]
        rw [decide_eq_true (show (i : Int) < (a.2.2.2.2.2.1.length : Int) by omega), decide_eq_true hi, decide_eq_true (show i < b.2.2.2.2.2.1.length by omega)]
        have he : (((a.2.2.2.2.2.1.getD i (0, 0, ())).1 == (b.2.2.2.2.2.1.getD i (0, 0, ())).1) && (((a.2.2.2.2.2.1.getD i (0, 0, ())).2.1 == (b.2.2.2.2.2.1.getD i (0, 0, ())).2.1) && true)) = decide (a.2.2.2.2.2.1.getD i (0, 0, ()) = b.2.2.2.2.2.1.getD i (0, 0, ())) := by
          rw [Bool.eq_iff_iff]
          simp only [Bool.and_eq_true, beq_iff_eq, decide_eq_true_eq, Prod.ext_iff, and_true]
        simp only [he]
        cases decide (a.2.2.2.2.2.1.getD i (0, 0, ()) = b.2.2.2.2.2.1.getD i (0, 0, ())) <;> rfl)
      (fun J => by
        simp only [L_crossbarref26_Same_4, nlt_cast, Bool.false_eq_true, if_false]
        refine M.trans ?_
        cases decide (a.2.2.2.2.1 = b.2.2.2.2.1) <;> rfl) a.2.2.2.2.2.1.length 0 1000000 (by omega) (by omega)
    rw [all_eq a.2.2.2.2.2.1 b.2.2.2.2.2.1 (0, 0, ()) h6'] at L
    refine L.trans ?_
    cases decide (a.2.2.2.2.2.1 = b.2.2.2.2.2.1) <;> rfl
  · rw [if_neg hc]
    congr 2
    rw [Bool.not_eq_true] at hc
    by_cases h5 : a.2.2.2.2.1 = b.2.2.2.2.1
    · by_cases h6 : a.2.2.2.2.2.1 = b.2.2.2.2.2.1
      · rw [decide_eq_true (by rw [h5]), decide_eq_true (by rw [h6])] at hc
        rw [decide_eq_true h5, decide_eq_true h6]
        exact hc.symm
      · rw [decide_eq_false h6, Bool.and_false, Bool.false_and]
    · rw [decide_eq_false h5, Bool.and_false]

instance decFa : DecidableEq (Bool × List Int × Unit) := inferInstance
instance decFb : DecidableEq (Bool × List Int × Bool × List Int × Unit) := inferInstance
instance decF1 : DecidableEq (Bool × List Int × Bool × List Int × Bool × List Int × Unit) := inferInstance
instance decF2 : DecidableEq (Bool × Int × Bool × List Int × Bool × List Int × Bool × List Int × Unit) := inferInstance
instance decF3 : DecidableEq ((Int × Int × Int × List Int × List (Int × Int × List Int × List Int × List Int × Unit) × List (Int × Int × Unit) × Unit) × Bool × Int × Bool × List Int × Bool × List Int × Bool × List Int × Unit) := inferInstance
instance decF4 : DecidableEq (Bool × (Int × Int × Int × List Int × List (Int × Int × List Int × List Int × List Int × Unit) × List (Int × Int × Unit) × Unit) × Bool × Int × Bool × List Int × Bool × List Int × Bool × List Int × Unit) := inferInstance
instance decF5 : DecidableEq (Int × Int × Bool × (Int × Int × Int × List Int × List (Int × Int × List Int × List Int × List Int × Unit) × List (Int × Int × Unit) × Unit) × Bool × Int × Bool × List Int × Bool × List Int × Bool × List Int × Unit) := inferInstance
instance decFr : DecidableEq (Bool × Bool × Int × Int × Bool × (Int × Int × Int × List Int × List (Int × Int × List Int × List Int × List Int × Unit) × List (Int × Int × Unit) × Unit) × Bool × Int × Bool × List Int × Bool × List Int × Bool × List Int × Unit) := inferInstance
theorem ref27_Same (a b : Fr) (h : SmF a) : P_crossbarref27_Same (a, b, ()) = some (decide (a = b), ()) := by
  rw [E_crossbarref27_Same, N_crossbarref27_Same]
  have hd : decide (a = b) = (decide (a.1 = b.1) && decide (a.2.1 = b.2.1) && decide (a.2.2.1 = b.2.2.1) && decide (a.2.2.2.1 = b.2.2.2.1) && decide (a.2.2.2.2.1 = b.2.2.2.2.1) && decide (a.2.2.2.2.2.1 = b.2.2.2.2.2.1) && decide (a.2.2.2.2.2.2.1 = b.2.2.2.2.2.2.1) && decide (a.2.2.2.2.2.2.2.1 = b.2.2.2.2.2.2.2.1) && decide (a.2.2.2.2.2.2.2.2.1 = b.2.2.2.2.2.2.2.2.1) && decide (a.2.2.2.2.2.2.2.2.2.1 = b.2.2.2.2.2.2.2.2.2.1) && decide (a.2.2.2.2.2.2.2.2.2.2.1 = b.2.2.2.2.2.2.2.2.2.2.1) && decide (a.2.2.2.2.2.2.2.2.2.2.2.1 = b.2.2.2.2.2.2.2.2.2.2.2.1) && decide (a.2.2.2.2.2.2.2.2.2.2.2.2.1 = b.2.2.2.2.2.2.2.2.2.2.2.2.1) && decide (a.2.2.2.2.2.2.2.2.2.2.2.2.2.1 = b.2.2.2.2.2.2.2.2.2.2.2.2.2.1)) := by
    rw [Bool.eq_iff_iff]
    simp only [Bool.and_eq_true, decide_eq_true_eq]
    constructor
    · rintro rfl; simp
    · rintro ⟨⟨⟨⟨⟨⟨⟨⟨⟨⟨⟨⟨⟨h1, h2⟩, h3⟩, h4⟩, h5⟩, h6⟩, h7⟩, h8⟩, h9⟩, h10⟩, h11⟩, h12⟩, h13⟩, h14⟩
      exact Prod.ext h1 (Prod.ext h2 (Prod.ext h3 (Prod.ext h4 (Prod.ext h5 (Prod.ext h6 (Prod.ext h7 (Prod.ext h8 (Prod.ext h9 (Prod.ext h10 (Prod.ext h11 (Prod.ext h12 (Prod.ext h13 (Prod.ext h14 rfl)))))))))))))
  simp only [ref26_Same _ _ h.s, ref_Ints _ _ h.m, ref_Ints _ _ h.d, ref_Ints _ _ h.c, bif_or, bif_and, bne_dec, bneb_dec, Option.bind_some]
  rw [hd]
  generalize decide (a.1 = b.1) = b1
  generalize decide (a.2.1 = b.2.1) = b2
  generalize decide (a.2.2.1 = b.2.2.1) = b3
  generalize decide (a.2.2.2.1 = b.2.2.2.1) = b4
  generalize decide (a.2.2.2.2.1 = b.2.2.2.2.1) = b5
  generalize decide (a.2.2.2.2.2.1 = b.2.2.2.2.2.1) = b6
  generalize decide (a.2.2.2.2.2.2.1 = b.2.2.2.2.2.2.1) = b7
  generalize decide (a.2.2.2.2.2.2.2.1 = b.2.2.2.2.2.2.2.1) = b8
  generalize decide (a.2.2.2.2.2.2.2.2.1 = b.2.2.2.2.2.2.2.2.1) = b9
  generalize decide (a.2.2.2.2.2.2.2.2.2.1 = b.2.2.2.2.2.2.2.2.2.1) = b10
  generalize decide (a.2.2.2.2.2.2.2.2.2.2.1 = b.2.2.2.2.2.2.2.2.2.2.1) = b11
  generalize decide (a.2.2.2.2.2.2.2.2.2.2.2.1 = b.2.2.2.2.2.2.2.2.2.2.2.1) = b12
  generalize decide (a.2.2.2.2.2.2.2.2.2.2.2.2.1 = b.2.2.2.2.2.2.2.2.2.2.2.2.1) = b13
  generalize decide (a.2.2.2.2.2.2.2.2.2.2.2.2.2.1 = b.2.2.2.2.2.2.2.2.2.2.2.2.2.1) = b14
  cases b1
  · simp
  cases b2
  · simp
  cases b3
  · simp
  cases b4
  · simp
  cases b5
  · simp
  cases b7
  · simp
  cases b8
  · simp
  cases b9 <;> cases b11 <;> cases b13 <;> cases b6 <;> cases b10 <;> cases b12 <;> cases b14 <;> rfl
end Go.Proofs.Try.Eng


set_option linter.unusedVariables false
set_option linter.unusedSimpArgs false
namespace Go.Eng
/-- errors are no nothing -/
def NoZ {α : Type} (p : Pa α) : Prop := ∀ a e, p a = .error e → e ≠ 0
theorem NoZ.num (b : List Int) (n : Nat) : NoZ (numP b n) := by
  intro a e h
  unfold numP at h
  split at h
  · cases h
  · cases h; decide
theorem NoZ.pure {α : Type} (x : α) : NoZ (pureP x) := fun a e h => by cases h
theorem NoZ.fail6 {α : Type} : NoZ (failP 6 : Pa α) := fun a e h => by cases h; decide
theorem NoZ.bind {α β : Type} {p : Pa α} {f : α → Pa β} (hp : NoZ p) (hf : ∀ v, NoZ (f v)) : NoZ (p.bind f) := by
  intro a e h
  simp only [Pa.bind] at h
  cases hq : p a with
  | error e' => rw [hq] at h; cases h; exact hp a _ hq
  | ok z => obtain ⟨v, a'⟩ := z; rw [hq] at h; exact hf v a' e h
theorem NoZ.map {α β : Type} {p : Pa α} (hp : NoZ p) (f : α → β) : NoZ (p.map f) := by
  intro a e h
  simp only [Pa.map] at h
  cases hq : p a with
  | error e' => rw [hq] at h; cases h; exact hp a _ hq
  | ok z => obtain ⟨v, a'⟩ := z; rw [hq] at h; cases h
theorem NoZ.rep {α : Type} {p : Pa α} (hp : NoZ p) : ∀ k, NoZ (repP p k)
  | 0 => NoZ.pure _
  | k + 1 => hp.bind fun v => (NoZ.rep hp k).map _
theorem NoZ.ite {α : Type} {c : Prop} [Decidable c] {p q : Pa α} (hp : NoZ p) (hq : NoZ q) : NoZ (if c then p else q) := by split; exact hp; exact hq
end Go.Eng
namespace Go.Proofs.Try.Eng
open Go Go.Eng
theorem NoZ.gap (b : List Int) : ∀ k, NoZ (gapP b k)
  | 0 => (NoZ.num b 2).bind fun g => NoZ.ite (NoZ.pure _) NoZ.fail6
  | k + 1 => (NoZ.num b 2).bind fun g => NoZ.ite (NoZ.pure _) ((NoZ.num b _).bind fun v => (NoZ.gap b k).map _)
theorem NoZ.act (b : List Int) (f : Fr) (s : St) : NoZ (actP b f s) :=
  (NoZ.ite ((NoZ.num b _).map _) (NoZ.pure _)).bind fun f => (NoZ.ite ((NoZ.num b _).rep _) (NoZ.pure _)).bind fun ms => (NoZ.ite (NoZ.gap b _) (NoZ.pure _)).bind fun ds => (NoZ.ite ((NoZ.num b _).rep _) (NoZ.pure _)).bind fun cs => NoZ.pure _
theorem gap_ok {b : List Int} : ∀ {k a : Nat} {l : List Int} {a' : Nat}, a ≤ 8 * b.length → gapP b k a = .ok (l, a') → l.length ≤ k ∧ (∀ v ∈ l, 1 ≤ v ∧ v ≤ 4096) ∧ a' ≤ 8 * b.length
  | 0, a, l, a', ha, h => by
    obtain ⟨g, a1, h1, h2⟩ := bind_ok.1 h
    have hr := num_range h1
    split at h2
    · obtain ⟨rfl, rfl⟩ := pure_ok.1 h2
      exact ⟨by simp, by simp, hr.2.2⟩
    · cases h2
  | k + 1, a, l, a', ha, h => by
    obtain ⟨g, a1, h1, h2⟩ := bind_ok.1 h
    have hr := num_range h1
    have p2 : (2 : Int) ^ 2 = 4 := by decide
    split at h2
    · obtain ⟨rfl, rfl⟩ := pure_ok.1 h2
      exact ⟨by simp, by simp, hr.2.2⟩
    · obtain ⟨v, a2, h3, h4⟩ := bind_ok.1 h2
      obtain ⟨r, h5, rfl⟩ := map_ok.1 h4
      have hv := num_range h3
      have p12 : (2 : Int) ^ (4 * g).toNat ≤ 4096 := by
        have h3 : 2 ^ (4 * g).toNat ≤ 2 ^ 12 := Nat.pow_le_pow_right (by decide) (by omega)
        have h4 : (2 : Nat) ^ 12 = 4096 := by decide
        rw [show (2 : Int) ^ (4 * g).toNat = ((2 ^ (4 * g).toNat : Nat) : Int) from (Int.natCast_pow 2 _).symm]
        omega
      obtain ⟨r1, r2, r3⟩ := gap_ok hv.2.2 h5
      refine ⟨by simp; omega, ?_, r3⟩
      intro w hw
      rcases List.mem_cons.1 hw with rfl | hw
      · omega
      · exact r2 w hw

/-- what is read is right -/
theorem rest_right {b : List Int} (hl : b.length < 100000000) {f u : Fr} {known : St} {a : Nat} (ha : a ≤ 8 * b.length) (hk : (decide (known = zS) || rightS known) = true) (hko : ofF f known ≠ zS → rightS (ofF f known) = true) (hS : f.2.2.2.2.1 = false → f.2.2.2.2.2.1 = zS) (hsh : Sh f.2.2.2.2.2.1)
    (hn : 0 ≤ f.2.2.2.1 ∧ f.2.2.2.1 ≤ 65535) (hz : f.2.2.2.2.2.2.2.1 = 0) (h : restF b f known a = (u, 0, ())) : rightF u known = true ∧ ShF u ∧ 0 ≤ u.2.2.2.2.2.2.2.1 ∧ u.2.2.2.2.2.2.2.1 < 4294967296 := by
  unfold restF at h
  split at h
  · simp only [Prod.mk.injEq] at h; exact absurd h.2.1 (by decide)
  · rename_i hne
    have hr := hko hne
    split at h
    · simp only [Prod.mk.injEq] at h; exact absurd h.2.1 (by decide)
    · rename_i hp
      rw [Bool.not_eq_false] at hp
      have hB := right_b hr
      have htg := hB.tg
      have hch := hB.ch
      cases hq : actP b f (ofF f known) a with
      | error e =>
        rw [hq] at h
        simp only [ansF, Prod.mk.injEq] at h
        exact absurd h.2.1 (NoZ.act b f _ a e hq)
      | ok z =>
        obtain ⟨u', a'⟩ := z
        rw [hq] at h
        simp only [ansF] at h
        split at h
        · simp only [Prod.mk.injEq] at h; exact absurd h.2.1 (by decide)
        · simp only [Prod.mk.injEq] at h
          obtain ⟨rfl, _, _⟩ := h
          obtain ⟨f1, a1, h1, h2⟩ := bind_ok.1 hq
          obtain ⟨ms, a2, h3, h4⟩ := bind_ok.1 h2
          obtain ⟨ds, a3, h5, h6⟩ := bind_ok.1 h4
          obtain ⟨cs, a4, h7, h8⟩ := bind_ok.1 h6
          obtain ⟨rfl, rfl⟩ := pure_ok.1 h8
          -- the targets that are active
          obtain ⟨ac, rfl, hac, ha1, hoff⟩ : ∃ ac : Int, f1 = withA f ac ∧ (0 ≤ ac ∧ ac < 2 ^ (ofF f known).2.1.toNat) ∧ a1 ≤ 8 * b.length ∧ (f.2.2.2.2.2.2.1 = false → ac = 0) := by
            have p1 : 2 ^ (ofF f known).2.1.toNat ≤ 2 ^ 32 := Nat.pow_le_pow_right (by decide) (by omega)
            have p2 : (2 : Nat) ^ 32 = 4294967296 := by decide
            have p3 : (2 : Int) ^ (ofF f known).2.1.toNat = ((2 ^ (ofF f known).2.1.toNat : Nat) : Int) := (Int.natCast_pow 2 _).symm
            split at h1
            · rename_i hA
              obtain ⟨v, hv, rfl⟩ := map_ok.1 h1
              have hr := num_range hv
              have e : IntKind.u32.wrap v = v := by
                unfold IntKind.wrap IntKind.signed IntKind.bits
                simp only [Bool.false_and, Bool.false_eq_true, if_false]
                exact Int.emod_eq_of_lt (by omega) (by omega)
              exact ⟨v, by rw [e], ⟨hr.1, hr.2.1⟩, hr.2.2, fun hA' => by rw [hA'] at hA; cases hA⟩
            · obtain ⟨rfl, rfl⟩ := pure_ok.1 h1
              refine ⟨0, ?_, ⟨by omega, by rw [p3]; have := Nat.pow_pos (n := (ofF f known).2.1.toNat) (show 0 < 2 by decide); omega⟩, ha, fun _ => rfl⟩
              unfold withA
              rw [← hz]
          have hms : (if f.2.2.2.2.2.2.2.2.1 then (ms.length : Int) = (ofF f known).2.1 else ms.length = 0) ∧ (∀ v ∈ ms, 0 ≤ v ∧ v ≤ 3) ∧ a2 ≤ 8 * b.length := by
            have p2 : (2 : Int) ^ 2 = 4 := by decide
            have e : (withA f ac).2.2.2.2.2.2.2.2.1 = f.2.2.2.2.2.2.2.2.1 := rfl
            rw [e] at h3
            split at h3
            · rename_i hA
              obtain ⟨k1, k2, k3⟩ := rep_ok (V := fun v => 0 ≤ v ∧ v ≤ 3) (L := 8 * b.length) (fun a v a' h => by have := num_range h; exact ⟨by omega, this.2.2⟩) ha1 h3
              exact ⟨by rw [if_pos hA]; omega, k2, k3⟩
            · rename_i hA
              obtain ⟨rfl, rfl⟩ := pure_ok.1 h3
              exact ⟨by rw [if_neg hA]; rfl, by simp, ha1⟩
          have hds : (if f.2.2.2.2.2.2.2.2.2.2.1 then True else ds.length = 0) ∧ ds.length ≤ 16 ∧ (∀ v ∈ ds, 1 ≤ v ∧ v ≤ 4096) ∧ a3 ≤ 8 * b.length := by
            have e : (withA f ac).2.2.2.2.2.2.2.2.2.2.1 = f.2.2.2.2.2.2.2.2.2.2.1 := rfl
            rw [e] at h5
            split at h5
            · rename_i hA
              obtain ⟨k1, k2, k3⟩ := gap_ok hms.2.2 h5
              exact ⟨by rw [if_pos hA]; trivial, k1, k2, k3⟩
            · rename_i hA
              obtain ⟨rfl, rfl⟩ := pure_ok.1 h5
              exact ⟨by rw [if_neg hA]; rfl, by simp, by simp, hms.2.2⟩
          have hcs : (if f.2.2.2.2.2.2.2.2.2.2.2.2.1 then (cs.length : Int) = (ofF f known).2.2.1 else cs.length = 0) ∧ (∀ v ∈ cs, 0 ≤ v ∧ v ≤ 255) := by
            have p8 : (2 : Int) ^ 8 = 256 := by decide
            have e : (withA f ac).2.2.2.2.2.2.2.2.2.2.2.2.1 = f.2.2.2.2.2.2.2.2.2.2.2.2.1 := rfl
            rw [e] at h7
            split at h7
            · rename_i hA
              obtain ⟨k1, k2, k3⟩ := rep_ok (V := fun v => 0 ≤ v ∧ v ≤ 255) (L := 8 * b.length) (fun a v a' h => by have := num_range h; exact ⟨by omega, this.2.2⟩) hds.2.2.2 h7
              exact ⟨by rw [if_pos hA]; omega, k2⟩
            · rename_i hA
              obtain ⟨rfl, rfl⟩ := pure_ok.1 h7
              exact ⟨by rw [if_neg hA]; rfl, by simp⟩
          have p1 : 2 ^ (ofF f known).2.1.toNat ≤ 2 ^ 32 := Nat.pow_le_pow_right (by decide) (by omega)
          have p2 : (2 : Nat) ^ 32 = 4294967296 := by decide
          have p3 : (2 : Int) ^ (ofF f known).2.1.toNat = ((2 ^ (ofF f known).2.1.toNat : Nat) : Int) := (Int.natCast_pow 2 _).symm
          have e1 : min (ofF f known).2.1.toNat IntKind.u64.bits = (ofF f known).2.1.toNat := Nat.min_eq_left (show _ ≤ 64 by omega)
          have e2 : IntKind.u64.wrap ((1 : Int) * 2 ^ (min (ofF f known).2.1.toNat IntKind.u64.bits)) = ((2 ^ (ofF f known).2.1.toNat : Nat) : Int) := by
            rw [e1, Int.one_mul, p3, wrap_u64 (by omega)]
          have e3 : IntKind.u64.wrap ac = ac := u64_id hac.1 (by omega)
          have eo : ofF (withL (withA f ac) ms ds cs) known = ofF f known := rfl
          have hown : ∀ {has : Bool} {l : List Int} {many lo hi : Int}, (if has = true then (l.length : Int) = many else l.length = 0) → (∀ v ∈ l, lo ≤ v ∧ v ≤ hi) → ownOk has l many lo hi = true := by
            intro has l many lo hi h1 h2
            unfold ownOk
            cases has with
            | true =>
              simp only [if_true, Bool.and_eq_true, beq_iff_eq, allB, List.all_eq_true, inB, decide_eq_true_eq] at h1 ⊢
              exact ⟨h1, h2⟩
            | false =>
              simp only [Bool.false_eq_true, if_false, beq_iff_eq] at h1 ⊢
              omega
          refine ⟨?_, ⟨hsh, ?_, ?_, ?_⟩, hac.1, ?_⟩
          · unfold rightF
            rw [eo, hk, hr]
            simp only [Bool.true_and, Bool.and_eq_true]
            refine ⟨⟨⟨⟨⟨⟨?_, ?_⟩, ?_⟩, ?_⟩, ?_, ?_⟩, ?_⟩, ?_⟩
            · show (f.2.2.2.2.1 || decide (f.2.2.2.2.2.1 = zS)) = true
              cases hq2 : f.2.2.2.2.1 with
              | true => rfl
              | false => rw [hS hq2]; decide
            · simp only [Bool.and_eq_true] at hp; exact hp
            · show inB f.2.2.2.1 0 65535 = true
              simp only [inB, Bool.and_eq_true, decide_eq_true_eq]; exact hn
            · show (!(decide (IntKind.u64.wrap ac ≥ IntKind.u64.wrap ((1 : Int) * 2 ^ (min (ofF f known).2.1.toNat IntKind.u64.bits))) || (!f.2.2.2.2.2.2.1 && (ac != 0)))) = true
              rw [e2, e3, decide_eq_false (by omega)]
              cases hq2 : f.2.2.2.2.2.2.1 with
              | true => rfl
              | false => rw [hoff hq2]; rfl
            · show (!decide ((ds.length : Int) > 16)) = true
              rw [decide_eq_false (by omega)]; rfl
            · refine hown (has := f.2.2.2.2.2.2.2.2.2.2.1) (l := ds) ?_ hds.2.2.1
              have := hds.1
              split
              · rfl
              · rename_i h; rw [if_neg h] at this; exact this
            · exact hown (has := f.2.2.2.2.2.2.2.2.1) (l := ms) hms.1 hms.2.1
            · exact hown (has := f.2.2.2.2.2.2.2.2.2.2.2.2.1) (l := cs) hcs.1 hcs.2
          · show ms.length ≤ 99
            have := hms.1; split at this <;> omega
          · show ds.length ≤ 99
            omega
          · show cs.length ≤ 99
            have := hcs.1; split at this <;> omega
          · show ac < 4294967296
            omega
theorem read_right {b : List Int} (hl : b.length < 100000000) {u : Fr} {known : St} (h : readF b known = (u, 0, ())) : rightF u known = true ∧ ShF u ∧ 0 ≤ u.2.2.2.2.2.2.2.1 ∧ u.2.2.2.2.2.2.2.1 < 4294967296 := by
  unfold readF at h
  split at h
  · simp only [Prod.mk.injEq] at h; exact absurd h.2.1 (by decide)
  · rename_i hk
    rw [Bool.not_eq_false] at hk
    split at h
    · simp only [Prod.mk.injEq] at h; exact absurd h.2.1 (by decide)
    · rename_i h3
      have g16 := gbits_lt b 8 16
      have p16 : (2 : Nat) ^ 16 = 65536 := by decide
      have hn : 0 ≤ (headF b).2.2.2.1 ∧ (headF b).2.2.2.1 ≤ 65535 := by
        show 0 ≤ ((gbits b 8 16 : Nat) : Int) ∧ ((gbits b 8 16 : Nat) : Int) ≤ 65535
        omega
      have ha : (if 3 < b.length then 29 else 24) ≤ 8 * b.length := by split <;> omega
      have hr : known ≠ zS → rightS known = true := by
        intro h
        simp [h] at hk
        exact hk
      have hz0 : Sh zS := ⟨by simp [zS], by simp [zS], by simp [zS], fun t ht => by simp [zS] at ht⟩
      generalize (if 3 < b.length then 29 else 24) = a at h ha
      unfold midF at h
      split at h
      · rename_i hS
        cases hs : structP b a with
        | error e =>
          rw [hs] at h
          simp only [Prod.mk.injEq] at h
          exfalso
          have k0 : NoZ (structP b) := by
            unfold structP
            have hlay : ∀ k sid tid, NoZ (layP b k sid tid) := by
              intro k
              induction k with
              | zero => intro sid tid; exact (NoZ.num b 2).bind fun h => NoZ.ite (NoZ.pure _) NoZ.fail6
              | succ k ih => intro sid tid; exact (NoZ.num b 2).bind fun h => NoZ.ite (NoZ.pure _) (NoZ.ite NoZ.fail6 ((ih _ _).map _))
            have hdif : ∀ k, NoZ (difP b k) := by
              intro k
              induction k with
              | zero => exact (NoZ.num b 1).bind fun h => NoZ.ite NoZ.fail6 (NoZ.pure _)
              | succ k ih => exact (NoZ.num b 1).bind fun h => NoZ.ite ((NoZ.num b 4).bind fun v => ih.map _) (NoZ.pure _)
            have hfill : ∀ (f : Tm → Pa Tm), (∀ t, NoZ (f t)) → ∀ ts, NoZ (fillP f ts) := by
              intro f hf ts
              induction ts with
              | nil => exact NoZ.pure _
              | cons t r ih => exact (hf t).bind fun t' => ih.map _
            have hrange : ∀ n, NoZ (rangeP b n) := by
              intro n a e h
              unfold rangeP at h
              split at h
              · split at h
                · cases h
                · split at h
                  · cases h
                  · cases h; decide
              · cases h; decide
            exact (NoZ.num b 6).bind fun id => (NoZ.num b 5).bind fun tg => ((hlay _ _ _).map _).bind fun ts0 => (hfill _ (fun t => ((NoZ.num b 2).rep _).map _) _).bind fun ts1 => (hfill _ (fun t => (hdif _).map _) _).bind fun ts2 =>
              (hrange _).bind fun ch => (NoZ.ite ((hrange _).rep _) (NoZ.pure _)).bind fun pr => (hfill _ (fun t => ((NoZ.num b 4).rep _).map _) _).bind fun ts3 => (NoZ.num b 1).bind fun z =>
              (NoZ.ite (((NoZ.num b 16).bind fun w => (NoZ.num b 16).map _).rep _) (NoZ.pure _)).bind fun zs => NoZ.pure _
          exact k0 a e hs h.2.1
        | ok z =>
          obtain ⟨s, a'⟩ := z
          rw [hs] at h
          obtain ⟨r1, r2, r3⟩ := struct_right hl ha hs
          have eo : ofF (withS (headF b) s) known = s := by
            unfold ofF
            exact if_pos hS
          exact rest_right (f := withS (headF b) s) hl r3 hk (fun _ => by rw [eo]; exact r1) (fun h => by
            have : (withS (headF b) s).2.2.2.2.1 = (headF b).2.2.2.2.1 := rfl
            rw [this, hS] at h; cases h) r2 hn rfl h
      · rename_i hS
        have eo : ofF (headF b) known = known := by
          unfold ofF
          exact if_neg hS
        exact rest_right hl ha hk (fun h => by rw [eo] at h ⊢; exact hr h) (fun _ => rfl) hz0 hn rfl h
end Go.Proofs.Try.Eng


set_option linter.unusedVariables false
set_option linter.unusedSimpArgs false
namespace Go.Proofs.Try.Eng
open Go Go.Eng

theorem ofU8s_u8s {x : List Int} (h : Byt x) : ofU8s (u8s x) = x := by
  induction x with
  | nil => rfl
  | cons v r ih =>
    have hv := h v (by simp)
    simp only [u8s, ofU8s, List.map_cons, List.map_map] at ih ⊢
    rw [ih (fun w hw => h w (by simp [hw]))]
    congr 1
    obtain ⟨n, rfl⟩ := Int.eq_ofNat_of_zero_le hv.1
    simp only [Int.toNat_natCast, UInt8.toNat_ofNat']
    omega
theorem u8s_eq {x y : List Int} (hx : Byt x) (hy : Byt y) : (u8s x == u8s y) = decide (x = y) := by
  rw [Bool.eq_iff_iff]
  simp only [beq_iff_eq, decide_eq_true_eq]
  constructor
  · intro h
    rw [← ofU8s_u8s hx, ← ofU8s_u8s hy, h]
  · rintro rfl; rfl
theorem bo_dec (c : Bool) : decide ((boF c).1 = 1) = c := by cases c <;> rfl
/-- the head's fields -/
def hd4 (f : Fr) : List (Nat × Nat) := [boF f.1, boF f.2.1, (f.2.2.1.toNat, 6), (f.2.2.2.1.toNat, 16)]
theorem hd4_fits {f : Fr} {s : St} (h : FV f s) : Fits (hd4 f) := by
  have p6 : (2 : Nat) ^ 6 = 64 := by decide
  have p16 : (2 : Nat) ^ 16 = 65536 := by decide
  have h1 := h.t
  have h2 := h.n
  exact Fits.cons (boF_fits _) (Fits.cons (boF_fits _) (Fits.cons (by simp only; omega) (Fits.cons (by simp only; omega) Fits.nil)))
theorem has_hd4 {b : List Int} {f : Fr} {s : St} {rest : List (Nat × Nat)} (hv : FV f s) (h : Has b 0 (hd4 f ++ rest)) : bitB b 0 = f.1 ∧ bitB b 1 = f.2.1 ∧ ((gbits b 2 6 : Nat) : Int) = f.2.2.1 ∧ ((gbits b 8 16 : Nat) : Int) = f.2.2.2.1 ∧ Has b 24 rest := by
  obtain ⟨_, g1, h⟩ := Has.cons (V := (boF f.1).1) (c := 1) h
  obtain ⟨_, g2, h⟩ := Has.cons (V := (boF f.2.1).1) (c := 1) h
  obtain ⟨_, g3, h⟩ := Has.cons h
  obtain ⟨_, g4, h⟩ := Has.cons h
  have ht := hv.t
  have hn := hv.n
  refine ⟨?_, ?_, ?_, ?_, h⟩
  · unfold bitB; rw [g1, bo_dec]
  · unfold bitB; rw [g2, bo_dec]
  · rw [g3]; omega
  · rw [g4]; omega
theorem has_flags {b : List Int} {f : Fr} {rest : List (Nat × Nat)} (h : Has b 24 ((flags f).map boF ++ rest)) : bitB b 24 = f.2.2.2.2.1 ∧ bitB b 25 = f.2.2.2.2.2.2.1 ∧ bitB b 26 = f.2.2.2.2.2.2.2.2.1 ∧ bitB b 27 = f.2.2.2.2.2.2.2.2.2.2.1 ∧ bitB b 28 = f.2.2.2.2.2.2.2.2.2.2.2.2.1 ∧ Has b 29 rest := by
  obtain ⟨_, g1, h⟩ := Has.cons (V := (boF f.2.2.2.2.1).1) (c := 1) h
  obtain ⟨_, g2, h⟩ := Has.cons (V := (boF f.2.2.2.2.2.2.1).1) (c := 1) h
  obtain ⟨_, g3, h⟩ := Has.cons (V := (boF f.2.2.2.2.2.2.2.2.1).1) (c := 1) h
  obtain ⟨_, g4, h⟩ := Has.cons (V := (boF f.2.2.2.2.2.2.2.2.2.2.1).1) (c := 1) h
  obtain ⟨_, g5, h⟩ := Has.cons (V := (boF f.2.2.2.2.2.2.2.2.2.2.2.2.1).1) (c := 1) h
  refine ⟨?_, ?_, ?_, ?_, ?_, h⟩ <;> unfold bitB
  · rw [g1, bo_dec]
  · rw [g2, bo_dec]
  · rw [g3, bo_dec]
  · rw [g4, bo_dec]
  · rw [g5, bo_dec]
theorem read_flags {b : List Int} {f : Fr} {known : St} (h : FR f known) (ha : 0 ≤ f.2.2.2.2.2.2.2.1 ∧ f.2.2.2.2.2.2.2.1 < 4294967296) (hl : 3 < b.length) (hh : Has b 0 (hd4 f ++ ((flags f).map boF ++ aTail f (ofF f known)))) : readF b known = ansF b (.ok (f, 29 + sz (aTail f (ofF f known)))) := by
  obtain ⟨a1, a2, a3, a4, hh⟩ := has_hd4 h.v hh
  obtain ⟨b1, b2, b3, b4, b5, hh⟩ := has_flags hh
  unfold readF
  rw [if_neg (by rw [h.k]; decide), if_neg (by omega), if_pos hl]
  have e : headF b = hdF f := by
    unfold headF hdF
    rw [a1, a2, a3, a4, b1, b2, b3, b4, b5, decide_eq_true hl]
    rfl
  rw [e]
  exact mid_has h ha hh
theorem noflags {f : Fr} {known : St} (h : FR f known) (hf : (flags f).all (!·) = true) : aTail f (ofF f known) = [] ∧ f.2.2.2.2.1 = false ∧ f.2.2.2.2.2.2.1 = false ∧ f.2.2.2.2.2.2.2.2.1 = false ∧ f.2.2.2.2.2.2.2.2.2.2.1 = false ∧ f.2.2.2.2.2.2.2.2.2.2.2.2.1 = false := by
  simp only [flags, List.all_cons, List.all_nil, Bool.and_true, Bool.and_eq_true, Bool.not_eq_true'] at hf
  obtain ⟨h1, h2, h3, h4, h5⟩ := hf
  have hm := h.m
  have hd := h.d
  have hc := h.c
  rw [if_neg (by rw [h3]; decide)] at hm
  rw [if_neg (by rw [h4]; decide)] at hd
  rw [if_neg (by rw [h5]; decide)] at hc
  refine ⟨?_, h1, h2, h3, h4, h5⟩
  unfold aTail mTail dTail
  rw [h1, h2, h4, hm, hd, hc]
  rfl
theorem read_bare {b : List Int} {f : Fr} {known : St} (h : FR f known) (ha : 0 ≤ f.2.2.2.2.2.2.2.1 ∧ f.2.2.2.2.2.2.2.1 < 4294967296) (hl : b.length = 3) (hf : (flags f).all (!·) = true) (hh : Has b 0 (hd4 f)) : readF b known = (f, 0, ()) := by
  obtain ⟨e0, f1, f2, f3, f4, f5⟩ := noflags h hf
  obtain ⟨a1, a2, a3, a4, hh⟩ := has_hd4 (rest := []) h.v (by rw [List.append_nil]; exact hh)
  unfold readF
  rw [if_neg (by rw [h.k]; decide), if_neg (by omega), if_neg (by omega)]
  have e : headF b = hdF f := by
    unfold headF hdF
    rw [a1, a2, a3, a4, f1, f2, f3, f4, f5, decide_eq_false (show ¬ 3 < b.length by omega)]
    rfl
  rw [e, mid_has h ha (a := 24) (by rw [e0]; exact hh), e0]
  simp only [ansF, hl]
  rfl

structure WF' (f : Fr) (known : St) (x : List Int) : Prop where
  w : P_av1_Write (f, known, ()) = some (x, 0, ())
  byt : Byt x
  l3 : 3 ≤ x.length
  lb : x.length < 1000000
  r : readF x known = (f, 0, ())
  more : ∀ m : Int, 0 ≤ m → m < 256 → 3 < x.length → (readF (x ++ [m]) known).2.1 = 4
  bare : x.length = 3 → readF (x ++ [0]) known = (f, 0, ())
theorem write_facts {f : Fr} {known : St} (hf : SmF f) (hk : SmS known) (hf2 : ShF f) (hk2 : Sh known) (hr : rightF f known = true) (ha : 0 ≤ f.2.2.2.2.2.2.2.1 ∧ f.2.2.2.2.2.2.2.1 < 4294967296) : ∃ x, WF' f known x := by
  have h := right_fr hr hf2 hk2
  obtain ⟨k, hw, hK, hle⟩ := av1_Write_K f known hf hk hf2 hr
  have hbo : Fits ((flags f).map boF) := Fits.map (fun c _ => boF_fits c)
  have e1 : ∀ m : Int, 0 ≤ m → m < 256 → Byt [m] := fun m h1 h2 x hx => by simp only [List.mem_singleton] at hx; subst hx; exact ⟨h1, h2⟩
  have hlen := hK.len
  have s4 : sz (hd4 f) = 24 := rfl
  have s5 : sz ((flags f).map boF) = 5 := rfl
  by_cases hfl : (flags f).all (!·) = true
  · obtain ⟨e0, f1, f2, f3, f4, f5⟩ := noflags h hfl
    have efr : frFields f (ofF f known) = hd4 f := by
      unfold frFields
      rw [if_pos hfl, List.append_nil]
      rfl
    rw [efr] at hK hlen hle
    rw [puts_sz, s4] at hlen
    have l3 : k.1.length = 3 := by simp at hlen; omega
    have hh := K.has hK (hd4_fits h.v) Byt.nil
    rw [List.append_nil] at hh
    refine ⟨k.1, hw, hK.byt, by omega, by omega, read_bare h ha l3 hfl hh, fun m _ _ h => by omega, fun _ => ?_⟩
    -- a byte of nothing more
    have hh5 : Has (k.1 ++ [0]) 0 (hd4 f ++ ((flags f).map boF ++ aTail f (ofF f known))) := by
      rw [e0, List.append_nil]
      have ef : (flags f).map boF = [(0, 1), (0, 1), (0, 1), (0, 1), (0, 1)] := by
        unfold flags
        rw [f1, f2, f3, f4, f5]
        rfl
      rw [ef]
      refine ⟨Fits.append (hd4_fits h.v) (by rw [← ef]; exact hbo), 0, ?_, ?_⟩
      · rw [puts_sz, sz_append, s4]; simp only [List.length_append, l3]; decide
      · rw [puts_append, puts_from]
        have hnum := hK.num
        have hm := puts_sz (0, 0) (hd4 f)
        rw [s4] at hm
        simp only [Nat.zero_add] at hm
        rw [hm, l3] at hnum
        have e5 : puts (0, 0) [(0, 1), (0, 1), (0, 1), (0, 1), (0, 1)] = (0, 5) := rfl
        rw [e5, hm]
        simp only [List.length_append, l3, List.length_singleton, Nat.add_zero]
        rw [num_append, hnum]
        show (((puts (0, 0) (hd4 f)).1 * 2 ^ (8 * 3 - 24)) * 256 ^ 1 + num [0]) / 2 ^ (8 * (3 + 1) - (24 + 5)) = (puts (0, 0) (hd4 f)).1 * 2 ^ 5
        generalize (puts (0, 0) (hd4 f)).1 = N
        have n0 : num [(0 : Int)] = 0 := rfl
        rw [n0]
        have p0 : (2 : Nat) ^ (8 * 3 - 24) = 1 := rfl
        have p3 : (2 : Nat) ^ (8 * (3 + 1) - (24 + 5)) = 8 := rfl
        have p5 : (2 : Nat) ^ 5 = 32 := rfl
        rw [p0, p3, p5]
        omega
    rw [read_flags h ha (by simp [l3]) hh5, e0]
    simp only [ansF, List.length_append, l3]
    rfl
  · have efr : frFields f (ofF f known) = hd4 f ++ ((flags f).map boF ++ aTail f (ofF f known)) := by
      unfold frFields
      rw [if_neg hfl]
      rfl
    rw [efr] at hK hlen hle
    rw [puts_sz, sz_append, sz_append, s4, s5] at hlen hle
    simp only [Nat.zero_add] at hlen hle
    have hfit : Fits (hd4 f ++ ((flags f).map boF ++ aTail f (ofF f known))) := Fits.append (hd4_fits h.v) (Fits.append hbo (aTail_fits h))
    have hh := K.has hK hfit Byt.nil
    rw [List.append_nil] at hh
    refine ⟨k.1, hw, hK.byt, by omega, by omega, ?_, fun m m1 m2 _ => ?_, fun h => by omega⟩
    · rw [read_flags h ha (by omega) hh]
      simp only [ansF]
      rw [if_neg (by omega)]
    · have hhm := K.has hK hfit (e1 m m1 m2)
      rw [read_flags h ha (by simp only [List.length_append]; omega) hhm]
      simp only [ansF, List.length_append, List.length_singleton]
      rw [if_pos (by omega)]

theorem write_wrong {f : Fr} {known : St} (hf : SmF f) (hk : SmS known) (hr : rightF f known = false) : P_av1_Write (f, known, ()) = some ([], 1, ()) := by
  rw [E_av1_Write, N_av1_Write]
  simp only [av1_Right f known hf hk, Option.bind_some, hr]
  rfl
theorem read_wrong {b : List Int} {known : St} (h : (readF b known).2.1 ≠ 0) : (readF b known).1 = zF := by
  have ans : ∀ q, (ansF b q).2.1 ≠ 0 → (ansF b q).1 = zF := by
    intro q h
    unfold ansF at h ⊢
    split at h
    · rfl
    · split at h
      · rename_i hc; simp only [if_pos hc]
      · exact absurd rfl h
  have rest : ∀ f a, (restF b f known a).2.1 ≠ 0 → (restF b f known a).1 = zF := by
    intro f a h
    unfold restF at h ⊢
    split at h
    · rename_i hc; rw [if_pos hc]
    · rename_i hc
      rw [if_neg hc]
      split at h
      · rename_i hc; rw [if_pos hc]
      · rename_i hc; rw [if_neg hc]; exact ans _ h
  unfold readF at h ⊢
  split at h
  · rename_i hc; rw [if_pos hc]
  · rename_i hc
    rw [if_neg hc]
    split at h
    · rename_i hc; rw [if_pos hc]
    · rename_i hc
      rw [if_neg hc]
      unfold midF at h ⊢
      split at h
      · rename_i hc
        rw [if_pos hc]
        cases hs : structP b (if 3 < b.length then 29 else 24) with
        | error e => rfl
        | ok z => obtain ⟨s, a'⟩ := z; rw [hs] at h; exact rest _ _ h
      · rename_i hc; rw [if_neg hc]; exact rest _ _ h
theorem shF_smF {f : Fr} (h : ShF f) : SmF f := by
  have h1 := h.s
  refine ⟨⟨?_, ?_, ?_, fun t ht => ?_⟩, ?_, ?_, ?_⟩
  · have := h1.ts; omega
  · have := h1.ps; omega
  · have := h1.zs; omega
  · have := h1.t t ht; omega
  · have := h.m; omega
  · have := h.d; omega
  · have := h.c; omega
theorem canon_ok {b : List Int} (hb : Byt b) (hl : b.length < 100000000) {known : St} (hk : SmS known) (hk2 : Sh known) {u : Fr} (hr : readF b known = (u, 0, ())) {z : List Int} (hz : P_av1_Write (u, known, ()) = some (z, 0, ())) : P_av1_Canon (b, known, ()) = some (u8s z == u8s b, ()) := by
  rw [E_av1_Canon, N_av1_Canon]
  simp only [av1_Read hb hl known hk, hr, Option.bind_some, hz, E_bytes_Equal, N_bytes_Equal]
  rfl
theorem canon_wrong {b : List Int} (hb : Byt b) (hl : b.length < 100000000) {known : St} (hk : SmS known) (hr : (readF b known).2.1 ≠ 0) : P_av1_Canon (b, known, ()) = some (false, ()) := by
  rw [E_av1_Canon, N_av1_Canon]
  simp only [av1_Read hb hl known hk, Option.bind_some]
  rw [if_pos (by simpa using hr)]
end Go.Proofs.Try.Eng


set_option linter.unusedVariables false
set_option linter.unusedSimpArgs false
namespace Go.Proofs.Try.Eng
open Go Go.Eng
/-- the second half of the law -/
theorem back_tail (known : St) (hk : SmS known) (hk2 : Sh known) (b : List Int) (hb : Byt b) (hl : b.length ≤ 3000) :
    ((P_av1_Read (b, known, ())).bind fun (r14 : T_api_Frame × Int × Unit) =>
      if (r14.2.1 != (0 : Int)) = true then
        (P_crossbarref27_Same (r14.1, zF, ())).bind fun (r15 : Bool × Unit) =>
        (if r15.1 = true then P_av1_Canon (b, known, ()) else some (false, ())).bind fun (r16 : Bool × Unit) => some ((if r15.1 = true then !r16.1 else false), ())
      else
        (P_av1_Write (r14.1, known, ())).bind fun (r17 : T_api_Ink) =>
        (P_av1_Read (r17.1, known, ())).bind fun (r18 : T_api_Frame × Int × Unit) =>
        (if (if (r17.2.1 == (0 : Int)) = true then r18.2.1 == (0 : Int) else false) = true then P_av1_Right (r14.1, known, ()) else some (false, ())).bind fun (r19 : Bool × Unit) =>
        (if (if (if (r17.2.1 == (0 : Int)) = true then r18.2.1 == (0 : Int) else false) = true then r19.1 else false) = true then P_crossbarref27_Same (r14.1, r18.1, ()) else some (false, ())).bind fun (r20 : Bool × Unit) =>
        (if (if (if (if (r17.2.1 == (0 : Int)) = true then r18.2.1 == (0 : Int) else false) = true then r19.1 else false) = true then r20.1 else false) = true then P_av1_Canon (b, known, ()) else some (false, ())).bind fun (r21 : Bool × Unit) =>
        some ((if (if (if (if (r17.2.1 == (0 : Int)) = true then r18.2.1 == (0 : Int) else false) = true then r19.1 else false) = true then r20.1 else false) = true then r21.1 == (u8s r17.1 == u8s b) else false), ())) = some (true, ()) := by
  rw [av1_Read hb (by omega) known hk, Option.bind_some]
  have hzF : SmF zF := shF_smF ⟨⟨by simp [zF], by simp [zF], by simp [zF], fun t ht => by simp [zF] at ht⟩, by simp [zF], by simp [zF], by simp [zF]⟩
  by_cases hc : (readF b known).2.1 = 0
  · obtain ⟨u, e⟩ : ∃ u, readF b known = (u, 0, ()) := ⟨(readF b known).1, Prod.ext rfl (Prod.ext hc rfl)⟩
    obtain ⟨hr, hsh, ha⟩ := read_right (by omega) e
    have hu := shF_smF hsh
    obtain ⟨z, hz⟩ := write_facts hu hk hsh hk2 hr ha
    rw [e]
    have hlb := hz.lb
    simp only [bne_self_eq_false, Bool.false_eq_true, if_false, hz.w, Option.bind_some, av1_Read hz.byt (by omega) known hk, hz.r, beq_self_eq_true, if_true, av1_Right u known hu hk, hr, ref27_Same u u hu, decide_true, canon_ok hb (by omega) hk hk2 e hz.w]
  · rw [if_pos (by simpa using hc), read_wrong hc, ref27_Same zF zF hzF]
    simp only [decide_true, Option.bind_some, if_true, canon_wrong hb (by omega) hk hc, Bool.not_false]
theorem law_back (f g : Fr) (known : St) (b : List Int) (more : Int) (hfa : 0 ≤ f.2.2.2.2.2.2.2.1 ∧ f.2.2.2.2.2.2.2.1 < 4294967296) (hga : 0 ≤ g.2.2.2.2.2.2.2.1 ∧ g.2.2.2.2.2.2.2.1 < 4294967296) (hb : Byt b) (hm : 0 ≤ more ∧ more < 256) :
    P_crossbarlaw27_Av1Back (f, g, known, b, more, ()) = some (true, ()) := by
  rw [E_crossbarlaw27_Av1Back, N_crossbarlaw27_Av1Back]
  rw [awake_ok, Option.bind_some]
  simp only [Bool.not_true, Bool.false_eq_true, if_false, short27, short26, Option.bind_some, bif_or, Bool.not_not]
  by_cases hsf : shortF f = true
  case neg =>
    rw [Bool.not_eq_true] at hsf
    simp [hsf]
  by_cases hsg : shortF g = true
  case neg =>
    rw [Bool.not_eq_true] at hsg
    simp [hsf, hsg]
  by_cases hsk : shortS known = true
  case neg =>
    rw [Bool.not_eq_true] at hsk
    simp [hsf, hsg, hsk]
  by_cases hl : b.length ≤ 3000
  case neg =>
    simp only [hsf, hsg, hsk, Bool.not_true, Bool.or_self, Bool.not_false, if_true, Option.bind_some, Bool.false_or]
    rw [decide_eq_true (by omega), if_pos rfl]
  have hf := shortF_sm hsf
  have hf2 := shortF_sh hsf
  have hg := shortF_sm hsg
  have hg2 := shortF_sh hsg
  have hk := short_sm hsk
  have hk2 := short_sh hsk
  simp only [hsf, hsg, hsk, Bool.not_true, Bool.or_self, Bool.not_false, if_true, Option.bind_some, Bool.false_or]
  rw [decide_eq_false (by omega), if_neg (by decide)]
  have hT := back_tail known hk hk2 b hb hl
  -- what the first half comes to
  have first : ∀ (X : Option ((Int × Int × Int × (List (Int)) × (List (T_api_Template)) × (List (T_api_Size)) × (List (Int)) × Unit) ⊕ (Bool × Unit))), X = some (.inl (known.1, known.2.1, known.2.2.1, known.2.2.2.1, known.2.2.2.2.1, known.2.2.2.2.2.1, b, ())) →
      (X.bind fun (q : (Int × Int × Int × (List (Int)) × (List (T_api_Template)) × (List (T_api_Size)) × (List (Int)) × Unit) ⊕ (Bool × Unit)) => Sum.elim (fun (d7 : Int × Int × Int × (List (Int)) × (List (T_api_Template)) × (List (T_api_Size)) × (List (Int)) × Unit) =>
  (P_av1_Read (d7.2.2.2.2.2.2.1, (d7.1, d7.2.1, d7.2.2.1, d7.2.2.2.1, d7.2.2.2.2.1, d7.2.2.2.2.2.1, ()), ())).bind fun (r14 : T_api_Frame × Int × Unit) =>
      if (r14.2.1 != (0 : Int)) = true then
        (P_crossbarref27_Same (r14.1, zF, ())).bind fun (r15 : Bool × Unit) =>
        (if r15.1 = true then P_av1_Canon (d7.2.2.2.2.2.2.1, (d7.1, d7.2.1, d7.2.2.1, d7.2.2.2.1, d7.2.2.2.2.1, d7.2.2.2.2.2.1, ()), ()) else some (false, ())).bind fun (r16 : Bool × Unit) => some ((if r15.1 = true then !r16.1 else false), ())
      else
        (P_av1_Write (r14.1, (d7.1, d7.2.1, d7.2.2.1, d7.2.2.2.1, d7.2.2.2.2.1, d7.2.2.2.2.2.1, ()), ())).bind fun (r17 : T_api_Ink) =>
        (P_av1_Read (r17.1, (d7.1, d7.2.1, d7.2.2.1, d7.2.2.2.1, d7.2.2.2.2.1, d7.2.2.2.2.2.1, ()), ())).bind fun (r18 : T_api_Frame × Int × Unit) =>
        (if (if (r17.2.1 == (0 : Int)) = true then r18.2.1 == (0 : Int) else false) = true then P_av1_Right (r14.1, (d7.1, d7.2.1, d7.2.2.1, d7.2.2.2.1, d7.2.2.2.2.1, d7.2.2.2.2.2.1, ()), ()) else some (false, ())).bind fun (r19 : Bool × Unit) =>
        (if (if (if (r17.2.1 == (0 : Int)) = true then r18.2.1 == (0 : Int) else false) = true then r19.1 else false) = true then P_crossbarref27_Same (r14.1, r18.1, ()) else some (false, ())).bind fun (r20 : Bool × Unit) =>
        (if (if (if (if (r17.2.1 == (0 : Int)) = true then r18.2.1 == (0 : Int) else false) = true then r19.1 else false) = true then r20.1 else false) = true then P_av1_Canon (d7.2.2.2.2.2.2.1, (d7.1, d7.2.1, d7.2.2.1, d7.2.2.2.1, d7.2.2.2.2.1, d7.2.2.2.2.2.1, ()), ()) else some (false, ())).bind fun (r21 : Bool × Unit) =>
        some ((if (if (if (if (r17.2.1 == (0 : Int)) = true then r18.2.1 == (0 : Int) else false) = true then r19.1 else false) = true then r20.1 else false) = true then r21.1 == (u8s r17.1 == u8s d7.2.2.2.2.2.2.1) else false), ())) some q) = some (true, ()) := by
    rintro _ rfl
    exact hT
  obtain ⟨y, e2, hy⟩ : ∃ y e2, P_av1_Write (g, known, ()) = some (y, e2, ()) := by
    obtain ⟨y, hy⟩ := av1_Write g known hg hk hg2
    exact ⟨y, _, hy⟩
  cases hr : rightF f known with
  | false =>
    rw [write_wrong hf hk hr, hy]
    simp only [Option.bind_some]
    rw [if_neg (by decide)]
    exact first _ rfl
  | true =>
    obtain ⟨x, hx⟩ := write_facts hf hk hf2 hk2 hr hfa
    have hlb := hx.lb
    have hl3 := hx.l3
    have hbm : Byt (x ++ [more]) := hx.byt.append (fun v hv => by simp only [List.mem_singleton] at hv; subst hv; exact hm)
    have hb0 : Byt (x ++ [(0 : Int)]) := hx.byt.append (fun v hv => by simp only [List.mem_singleton] at hv; subst hv; exact ⟨by omega, by omega⟩)
    rw [hx.w, hy]
    simp only [Option.bind_some, List.nil_append, List.length_append, List.length_nil, List.length_singleton]
    refine first _ ?_
    rw [if_pos (by decide), av1_Read hx.byt (by omega) known hk, hx.r]
    simp only [Option.bind_some, bne_self_eq_false, Bool.not_false, if_true, ref27_Same f f hf, decide_true, Bool.not_true, Bool.or_self, canon_ok hx.byt (by omega) hk hk2 hx.r hx.w, beq_self_eq_true, Bool.false_or, decide_eq_false (show ¬ (x.length : Int) < 3 by omega), Bool.true_and, Bool.false_eq_true, if_false]
    have hsame : ∀ (K : Bool × Unit → Option ((Int × Int × Int × (List (Int)) × (List (T_api_Template)) × (List (T_api_Size)) × (List (Int)) × Unit) ⊕ (Bool × Unit))), ((if (e2 == 0) = true then P_crossbarref27_Same (f, g, ()) else some (false, ())).bind fun (r11 : Bool × Unit) => if (if (e2 == 0) = true then ((u8s x == u8s y) != r11.1) else false) = true then Option.map Sum.inr (some (false, ())) else K r11) =
        K (if (e2 == 0) = true then decide (f = g) else false, ()) := by
      intro K
      by_cases he : e2 = 0
      · subst he
        have hrg : rightF g known = true := by
          cases h : rightF g known with
          | true => rfl
          | false => rw [write_wrong hg hk h] at hy; simp at hy
        obtain ⟨y', hy'⟩ := write_facts hg hk hg2 hk2 hrg hga
        have : y' = y := by
          have := hy'.w
          rw [hy] at this
          simp only [Option.some.injEq, Prod.mk.injEq] at this
          exact this.1.symm
        subst this
        have key : (u8s x == u8s y') = decide (f = g) := by
          rw [u8s_eq hx.byt hy'.byt]
          by_cases hfg : f = g
          · subst hfg
            have := hx.w
            rw [hy'.w] at this
            simp only [Option.some.injEq, Prod.mk.injEq] at this
            rw [decide_eq_true rfl, decide_eq_true this.1.symm]
          · rw [decide_eq_false hfg, decide_eq_false]
            rintro rfl
            have h1 := hx.r
            rw [hy'.r] at h1
            simp only [Prod.mk.injEq] at h1
            exact hfg h1.1.symm
        simp only [beq_self_eq_true, if_true, ref27_Same f g hf, Option.bind_some, key, bne_self_eq_false, Bool.false_eq_true, if_false]
      · have e : (e2 == 0) = false := by simpa using he
        rw [e]
        rfl
    rw [hsame]
    rw [if_pos (decide_eq_true (by omega)), if_pos (decide_eq_true (by omega)), av1_Read hbm (by simp only [List.length_append, List.length_singleton]; omega) known hk]
    simp only [Option.bind_some]
    have hcanon : P_av1_Canon (x ++ [0], known, ()) = some (false, ()) := by
      by_cases h3 : x.length = 3
      · rw [canon_ok hb0 (by simp only [List.length_append, List.length_singleton]; omega) hk hk2 (hx.bare h3) hx.w, u8s_eq hx.byt hb0, decide_eq_false]
        intro e
        have := congrArg List.length e
        simp at this
      · refine canon_wrong hb0 (by simp only [List.length_append, List.length_singleton]; omega) hk ?_
        rw [hx.more 0 (by omega) (by omega) (by omega)]
        decide
    by_cases h3 : 3 < x.length
    · rw [hx.more more hm.1 hm.2 h3]
      simp only [bne_self_eq_false, ite_self, Bool.not_false, if_true, hcanon, Option.bind_some, Bool.false_eq_true, if_false]
      rw [if_pos (decide_eq_true (by omega)), if_pos (decide_eq_true (by omega))]
    · rw [decide_eq_false (show ¬ (x.length : Int) > 3 by omega)]
      simp only [Bool.false_eq_true, if_false, Bool.not_false, if_true, hcanon, Option.bind_some]
      rw [if_pos (decide_eq_true (by omega)), if_pos (decide_eq_true (by omega))]
end Go.Proofs.Try.Eng


set_option linter.unusedVariables false
namespace Go.Proofs.Try.Eng
open Go Go.Eng
theorem wf_u8 {n : Int} (h : WF (.int .u8) n) : 0 ≤ n ∧ n < 256 := by
  have h2 := (Lit.wf_int_iff .u8 n).1 h
  have e1 : IntKind.u8.min = 0 := by decide
  have e2 : IntKind.u8.max = 255 := by decide
  omega
theorem wf_u32 {n : Int} (h : WF (.int .u32) n) : 0 ≤ n ∧ n < 4294967296 := by
  have h2 := (Lit.wf_int_iff .u32 n).1 h
  have e1 : IntKind.u32.min = 0 := by decide
  have e2 : IntKind.u32.max = 4294967295 := by decide
  omega
theorem wf_bytes {l : List Int} (h : WF (.sl (.int .u8)) l) : Byt l := fun x hx => wf_u8 (h.2 x hx)
theorem back_F (d : Den (chain (in_crossbarlaw27_Av1Back.map PK.ty))) (h : WF (chain (in_crossbarlaw27_Av1Back.map PK.ty)) d) : F_crossbarlaw27_Av1Back d = some (true, ()) := by
  obtain ⟨hf, hg, hk, hb, hm, _⟩ := h
  exact law_back d.1 d.2.1 d.2.2.1 d.2.2.2.1 d.2.2.2.2.1 (wf_u32 hf.2.2.2.2.2.2.2.1) (wf_u32 hg.2.2.2.2.2.2.2.1) (wf_bytes hb) (wf_u8 hm)
end Go.Proofs.Try.Eng


