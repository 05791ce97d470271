/- The plain law: what FeedKinds computes is true for every input. -/
import Derived.Test.YtpoikihkllfmbaaDoorNf
import Derived.Test.YtpoikihkllfmbaaDoorEngD
set_option linter.unusedVariables false
namespace Go.Proofs.Tryd.Eng
open Go Go.Eng

def codeS (k : Int) : Int × Int × Int × Unit :=
  if k = 1 then (205, 1, 0, ()) else if k = 2 then (205, 15, 0, ()) else if k = 3 then (206, 1, 0, ()) else if k = 4 then (206, 4, 0, ()) else if k = 5 then (206, 15, 0, ()) else (0, 0, 1, ())
def kindS (t c : Int) : Int :=
  if t = 205 ∧ c = 1 then 1 else if t = 205 ∧ c = 15 then 2 else if t = 206 ∧ c = 1 then 3 else if t = 206 ∧ c = 4 then 4 else if t = 206 ∧ c = 15 then 5 else 0
theorem beq_no {a b : Int} (h : ¬ b = a) : (a == b) = false := by simp; omega
theorem code_step0 (n m : Nat) (k : Int) : iter (L_feed_Code_2 n) (m + 1) (k, 1, 205, 1, 2, 205, 15, 3, 206, 1, 4, 206, 4, 5, 206, 15, 0, ()) = if ((1 : Int) == k) then some (205, 1, 0, ()) else iter (L_feed_Code_2 n) m (k, 1, 205, 1, 2, 205, 15, 3, 206, 1, 4, 206, 4, 5, 206, 15, 1, ()) := rfl
theorem kind_step0 (n m : Nat) (t c : Int) : iter (L_feed_Kind_2 n) (m + 1) (t, c, 1, 205, 1, 2, 205, 15, 3, 206, 1, 4, 206, 4, 5, 206, 15, 0, ()) = if (if ((205 : Int) == t) then ((1 : Int) == c) else false) then some (1, ()) else iter (L_feed_Kind_2 n) m (t, c, 1, 205, 1, 2, 205, 15, 3, 206, 1, 4, 206, 4, 5, 206, 15, 1, ()) := rfl
theorem code_step1 (n m : Nat) (k : Int) : iter (L_feed_Code_2 n) (m + 1) (k, 1, 205, 1, 2, 205, 15, 3, 206, 1, 4, 206, 4, 5, 206, 15, 1, ()) = if ((2 : Int) == k) then some (205, 15, 0, ()) else iter (L_feed_Code_2 n) m (k, 1, 205, 1, 2, 205, 15, 3, 206, 1, 4, 206, 4, 5, 206, 15, 2, ()) := rfl
theorem kind_step1 (n m : Nat) (t c : Int) : iter (L_feed_Kind_2 n) (m + 1) (t, c, 1, 205, 1, 2, 205, 15, 3, 206, 1, 4, 206, 4, 5, 206, 15, 1, ()) = if (if ((205 : Int) == t) then ((15 : Int) == c) else false) then some (2, ()) else iter (L_feed_Kind_2 n) m (t, c, 1, 205, 1, 2, 205, 15, 3, 206, 1, 4, 206, 4, 5, 206, 15, 2, ()) := rfl
theorem code_step2 (n m : Nat) (k : Int) : iter (L_feed_Code_2 n) (m + 1) (k, 1, 205, 1, 2, 205, 15, 3, 206, 1, 4, 206, 4, 5, 206, 15, 2, ()) = if ((3 : Int) == k) then some (206, 1, 0, ()) else iter (L_feed_Code_2 n) m (k, 1, 205, 1, 2, 205, 15, 3, 206, 1, 4, 206, 4, 5, 206, 15, 3, ()) := rfl
theorem kind_step2 (n m : Nat) (t c : Int) : iter (L_feed_Kind_2 n) (m + 1) (t, c, 1, 205, 1, 2, 205, 15, 3, 206, 1, 4, 206, 4, 5, 206, 15, 2, ()) = if (if ((206 : Int) == t) then ((1 : Int) == c) else false) then some (3, ()) else iter (L_feed_Kind_2 n) m (t, c, 1, 205, 1, 2, 205, 15, 3, 206, 1, 4, 206, 4, 5, 206, 15, 3, ()) := rfl
theorem code_step3 (n m : Nat) (k : Int) : iter (L_feed_Code_2 n) (m + 1) (k, 1, 205, 1, 2, 205, 15, 3, 206, 1, 4, 206, 4, 5, 206, 15, 3, ()) = if ((4 : Int) == k) then some (206, 4, 0, ()) else iter (L_feed_Code_2 n) m (k, 1, 205, 1, 2, 205, 15, 3, 206, 1, 4, 206, 4, 5, 206, 15, 4, ()) := rfl
theorem kind_step3 (n m : Nat) (t c : Int) : iter (L_feed_Kind_2 n) (m + 1) (t, c, 1, 205, 1, 2, 205, 15, 3, 206, 1, 4, 206, 4, 5, 206, 15, 3, ()) = if (if ((206 : Int) == t) then ((4 : Int) == c) else false) then some (4, ()) else iter (L_feed_Kind_2 n) m (t, c, 1, 205, 1, 2, 205, 15, 3, 206, 1, 4, 206, 4, 5, 206, 15, 4, ()) := rfl
theorem code_step4 (n m : Nat) (k : Int) : iter (L_feed_Code_2 n) (m + 1) (k, 1, 205, 1, 2, 205, 15, 3, 206, 1, 4, 206, 4, 5, 206, 15, 4, ()) = if ((5 : Int) == k) then some (206, 15, 0, ()) else iter (L_feed_Code_2 n) m (k, 1, 205, 1, 2, 205, 15, 3, 206, 1, 4, 206, 4, 5, 206, 15, 5, ()) := rfl
theorem kind_step4 (n m : Nat) (t c : Int) : iter (L_feed_Kind_2 n) (m + 1) (t, c, 1, 205, 1, 2, 205, 15, 3, 206, 1, 4, 206, 4, 5, 206, 15, 4, ()) = if (if ((206 : Int) == t) then ((15 : Int) == c) else false) then some (5, ()) else iter (L_feed_Kind_2 n) m (t, c, 1, 205, 1, 2, 205, 15, 3, 206, 1, 4, 206, 4, 5, 206, 15, 5, ()) := rfl
theorem code_step5 (n m : Nat) (k : Int) : iter (L_feed_Code_2 n) (m + 1) (k, 1, 205, 1, 2, 205, 15, 3, 206, 1, 4, 206, 4, 5, 206, 15, 5, ()) = some (0, 0, 1, ()) := rfl
theorem kind_step5 (n m : Nat) (t c : Int) : iter (L_feed_Kind_2 n) (m + 1) (t, c, 1, 205, 1, 2, 205, 15, 3, 206, 1, 4, 206, 4, 5, 206, 15, 5, ()) = some (0, ()) := rfl
theorem code_all (n m : Nat) (k : Int) : iter (L_feed_Code_2 n) (m + 6) (k, 1, 205, 1, 2, 205, 15, 3, 206, 1, 4, 206, 4, 5, 206, 15, 0, ()) = some (codeS k) := by
  rw [code_step0, code_step1, code_step2, code_step3, code_step4, code_step5]
  unfold codeS
  by_cases h1 : k = 1
  · subst h1; rfl
  rw [beq_no h1, if_neg h1]
  by_cases h2 : k = 2
  · subst h2; rfl
  rw [beq_no h2, if_neg h2]
  by_cases h3 : k = 3
  · subst h3; rfl
  rw [beq_no h3, if_neg h3]
  by_cases h4 : k = 4
  · subst h4; rfl
  rw [beq_no h4, if_neg h4]
  by_cases h5 : k = 5
  · subst h5; rfl
  rw [beq_no h5, if_neg h5]
  rfl
theorem kind_all (n m : Nat) (t c : Int) : iter (L_feed_Kind_2 n) (m + 6) (t, c, 1, 205, 1, 2, 205, 15, 3, 206, 1, 4, 206, 4, 5, 206, 15, 0, ()) = some (kindS t c, ()) := by
  rw [kind_step0, kind_step1, kind_step2, kind_step3, kind_step4, kind_step5]
  unfold kindS
  by_cases ht : t = 205
  · subst ht
    by_cases h1 : c = 1
    · subst h1; rfl
    by_cases h2 : c = 15
    · subst h2; rfl
    rw [beq_no h1, beq_no h2]
    simp [h1, h2]
  by_cases ht2 : t = 206
  · subst ht2
    by_cases h1 : c = 1
    · subst h1; rfl
    by_cases h2 : c = 4
    · subst h2; rfl
    by_cases h3 : c = 15
    · subst h3; rfl
    rw [beq_no h1, beq_no h2, beq_no h3]
    simp [h1, h2, h3]
  rw [beq_no ht, beq_no ht2]
  simp [ht, ht2]
theorem code_eq (k : Int) : P_feed_Code (k, ()) = some (codeS k) := by
  rw [E_feed_Code, N_feed_Code]
  exact code_all 1000000 999994 k
theorem kind_eq (t c : Int) : P_feed_Kind (t, c, ()) = some (kindS t c, ()) := by
  rw [E_feed_Kind, N_feed_Kind]
  exact kind_all 1000000 999994 t c
theorem fk_step (n m : Nat) (t c i : Int) (h : i = 1 ∨ i = 2 ∨ i = 3 ∨ i = 4 ∨ i = 5) (hk : kindS t c = 0) : iter (L_crossbarlaw20_FeedKinds_8 n) (m + 1) (t, c, i, ()) = iter (L_crossbarlaw20_FeedKinds_8 n) m (t, c, i + 1, ()) := by
  show L_crossbarlaw20_FeedKinds_8 n (iter (L_crossbarlaw20_FeedKinds_8 n) m) (t, c, i, ()) = _
  have hne : ¬ (t = (codeS i).1 ∧ c = (codeS i).2.1) := by
    rintro ⟨rfl, rfl⟩
    rcases h with rfl | rfl | rfl | rfl | rfl <;> exact absurd hk (by decide)
  have hb : (if ((codeS i).1 == t) = true then (codeS i).2.1 == c else false) = false := by
    by_cases ht : (codeS i).1 = t
    · have hc : ¬ c = (codeS i).2.1 := fun hc => hne ⟨ht.symm, hc⟩
      rw [beq_no hc]
      simp
    · rw [beq_no (fun e => ht e.symm)]
      simp
  unfold L_crossbarlaw20_FeedKinds_8
  simp only [code_eq, kind_eq, Option.bind_some, hb]
  rcases h with rfl | rfl | rfl | rfl | rfl <;> rfl
theorem fk_end (n m : Nat) (t c : Int) : iter (L_crossbarlaw20_FeedKinds_8 n) (m + 1) (t, c, 6, ()) = some (true, ()) := rfl
theorem fk_all (n m : Nat) (t c : Int) (hk : kindS t c = 0) : iter (L_crossbarlaw20_FeedKinds_8 n) (m + 6) (t, c, 1, ()) = some (true, ()) := by
  rw [fk_step n _ t c 1 (by omega) hk, fk_step n _ t c (1 + 1) (by omega) hk, fk_step n _ t c (1 + 1 + 1) (by omega) hk, fk_step n _ t c (1 + 1 + 1 + 1) (by omega) hk, fk_step n _ t c (1 + 1 + 1 + 1 + 1) (by omega) hk]
  exact fk_end n m t c
theorem kind_some (t c : Int) (h : ¬ kindS t c = 0) : (kindS t c = 1 ∧ t = 205 ∧ c = 1) ∨ (kindS t c = 2 ∧ t = 205 ∧ c = 15) ∨ (kindS t c = 3 ∧ t = 206 ∧ c = 1) ∨ (kindS t c = 4 ∧ t = 206 ∧ c = 4) ∨ (kindS t c = 5 ∧ t = 206 ∧ c = 15) := by
  unfold kindS at h ⊢
  by_cases h1 : t = 205 ∧ c = 1
  · rw [if_pos h1]; exact .inl ⟨rfl, h1⟩
  rw [if_neg h1] at h ⊢
  by_cases h2 : t = 205 ∧ c = 15
  · rw [if_pos h2]; exact .inr (.inl ⟨rfl, h2⟩)
  rw [if_neg h2] at h ⊢
  by_cases h3 : t = 206 ∧ c = 1
  · rw [if_pos h3]; exact .inr (.inr (.inl ⟨rfl, h3⟩))
  rw [if_neg h3] at h ⊢
  by_cases h4 : t = 206 ∧ c = 4
  · rw [if_pos h4]; exact .inr (.inr (.inr (.inl ⟨rfl, h4⟩)))
  rw [if_neg h4] at h ⊢
  by_cases h5 : t = 206 ∧ c = 15
  · rw [if_pos h5]; exact .inr (.inr (.inr (.inr ⟨rfl, h5⟩)))
  rw [if_neg h5] at h
  exact absurd rfl h
theorem awake_eq : P_crossbarlaw20_awake () = some (true, ()) := by
  unfold P_crossbarlaw20_awake
  exact awake_true
theorem kinds_law (t c : Int) : P_crossbarlaw20_FeedKinds (t, c, ()) = some (true, ()) := by
  rw [E_crossbarlaw20_FeedKinds, N_crossbarlaw20_FeedKinds]
  rw [awake_eq]
  simp only [Option.bind_some, kind_eq, code_eq]
  by_cases hk : kindS t c = 0
  · rw [hk]
    exact fk_all 1000000 999994 t c hk
  · rcases kind_some t c hk with ⟨e, rfl, rfl⟩ | ⟨e, rfl, rfl⟩ | ⟨e, rfl, rfl⟩ | ⟨e, rfl, rfl⟩ | ⟨e, rfl, rfl⟩ <;> rfl
end Go.Proofs.Tryd.Eng
namespace Go.Proofs.Tryd.Eng
open Go Go.Eng
theorem kinds_F (d : Den (chain (in_crossbarlaw20_FeedKinds.map PK.ty))) (h : WF (chain (in_crossbarlaw20_FeedKinds.map PK.ty)) d) : F_crossbarlaw20_FeedKinds d = some (true, ()) := by
  obtain ⟨t, c, u⟩ := d
  exact kinds_law t c
end Go.Proofs.Tryd.Eng


