/- Soundness of the evaluator's regions, in whatever order, of its loops and joins. -/
import Derived.Test.YtpoikihkllfmbaaDoorEngB
set_option linter.unusedVariables false
set_option linter.unusedSimpArgs false
namespace Go.Eng
section
variable {P : Program} {tab : Tab} {B : Bd tab}

def InvE (B : Bd tab) (nt : Nat) (s : St) (a : Act) (w : World) : Prop := ∃ ι N, Inv B nt ι N s a w

theorem getD_set_self (a : Array Value) (d : Nat) (v u : Value) (h : d < a.size) : (a.setIfInBounds d v).getD d u = v := by simp [Array.getD, h]
theorem getD_set_ne (a : Array Value) (d i : Nat) (v u : Value) (h : i ≠ d) : (a.setIfInBounds d v).getD i u = a.getD i u := by
  simp only [Array.getD_eq_getD_getElem?]
  rw [Array.getElem?_setIfInBounds_ne (fun e => h e.symm)]

theorem gb_all (s : St) : ∀ p : Path, gb s p = p.all (gb1 s)
  | [] => rfl
  | [x] => by simp [gb]
  | x :: y :: r => by
    have := gb_all s (y :: r)
    simp only [gb, this, List.all_cons]
theorem slotBool_congr {s s' : St} {i : Nat} (h1 : s'.env i = s.env i) (h2 : s'.gen i = s.gen i) : slotBool s' i = slotBool s i := by simp only [slotBool, h1, h2]
theorem gb_congr {s s' : St} {p : Path} (h : ∀ x ∈ p, slotBool s' x.1 = slotBool s x.1) : gb s' p = gb s p := by
  rw [gb_all, gb_all]
  have : ∀ x ∈ p, gb1 s' x = gb1 s x := fun x hx => by simp only [gb1, h x hx]
  rw [Bool.eq_iff_iff, List.all_eq_true, List.all_eq_true]
  exact ⟨fun h2 x hx => by rw [← this x hx]; exact h2 x hx, fun h2 x hx => by rw [this x hx]; exact h2 x hx⟩

theorem inv_put {nt : Nat} {ι ι' : Nat → Value} {N N' : Nat → Prop} {s : St} {a : Act} {w w' : World} (hi : Inv B nt ι N s a w) {dst : Option Nat} (hd : dstOk nt s dst = true) {sv : SV} {h : Option Heap} {v : Value}
    (ext : Ext ⟨ι, s.heap, w, N⟩ ⟨ι', h.getD s.heap, w', N'⟩) (hr : HR B ⟨ι', h.getD s.heap, w', N'⟩) (hv : SVR ⟨ι', h.getD s.heap, w', N'⟩ sv v) :
    Inv B nt ι' N' (s.put dst sv h) (a.put dst v) w' := by
  cases dst with
  | none => exact ⟨hi.nt, hi.defers, hr, fun i => (hi.env i).ext ext, fun i p x hg => by
      obtain ⟨a1, a2, a3, a4⟩ := hi.gen i p x hg
      have hgb : gb (s.put none sv h) p = gb s p := gb_congr (fun _ _ => rfl)
      rw [hgb]
      exact ⟨a1, a2, fun hb => (a3 hb).ext ext, a4⟩⟩
  | some d =>
    simp only [dstOk, Bool.and_eq_true, decide_eq_true_eq, Bool.not_eq_true'] at hd
    obtain ⟨hlt, hdone⟩ := hd
    have hne : ∀ x, s.done x = true → x ≠ d := fun x hx e => by rw [e, hdone] at hx; cases hx
    have hsb : ∀ x, s.done x = true → slotBool (s.put (some d) sv h) x = slotBool s x := fun x hx => slotBool_congr (by simp [St.put, upd, hne x hx]) rfl
    refine ⟨by simp [Act.put, hi.nt], hi.defers, hr, fun i => ?_, fun i p x hg => ?_⟩
    · by_cases e : i = d
      · subst e
        simp only [St.put, upd, if_true, Act.put]
        rw [getD_set_self _ _ _ _ (by rw [hi.nt]; exact hlt)]
        exact hv
      · simp only [St.put, upd, if_neg e, Act.put]
        rw [getD_set_ne _ _ _ _ _ e]
        exact (hi.env i).ext ext
    · obtain ⟨a1, a2, a3, a4⟩ := hi.gen i p x hg
      have hgb : gb (s.put (some d) sv h) p = gb s p := gb_congr (fun y hy => hsb y.1 (a2 y hy).1)
      simp only [Act.put]
      rw [getD_set_ne _ _ _ _ _ (hne i a1), hgb]
      refine ⟨by simp [St.put, upd, hne i a1, a1], fun y hy => ⟨by simp [St.put, upd, hne y.1 (a2 y hy).1, (a2 y hy).1], by rw [hsb y.1 (a2 y hy).1]; exact (a2 y hy).2⟩, fun hb => (a3 hb).ext ext, a4⟩

theorem inv_putH {nt : Nat} {ι ι' : Nat → Value} {N N' : Nat → Prop} {s : St} {a : Act} {w w' : World} (hi : Inv B nt ι N s a w) {dst : Option Nat} (hd : dstOk nt s dst = true) {p : Path} {sv : SV} {v : Value}
    (hp : ∀ x ∈ p, s.done x.1 = true ∧ (slotBool s x.1).isSome) {h : Option Heap} (ext : Ext ⟨ι, s.heap, w, N⟩ ⟨ι', h.getD s.heap, w', N'⟩) (hr : HR B ⟨ι', h.getD s.heap, w', N'⟩) (hv : gb s p = true → SVR ⟨ι', h.getD s.heap, w', N'⟩ sv v) (hu : gb s p = false → v = undef) :
    Inv B nt ι' N' (s.putH dst p sv h) (a.put dst v) w' := by
  cases dst with
  | none => exact ⟨hi.nt, hi.defers, hr, fun i => (hi.env i).ext ext, fun i q x hg => by
      obtain ⟨a1, a2, a3, a4⟩ := hi.gen i q x hg
      have hg' : gb (s.putH none p sv h) q = gb s q := gb_congr (fun y hy => slotBool_congr rfl rfl)
      rw [hg']
      exact ⟨a1, fun y hy => ⟨(a2 y hy).1, (a2 y hy).2⟩, fun hb => (a3 hb).ext ext, a4⟩⟩
  | some d =>
    simp only [dstOk, Bool.and_eq_true, decide_eq_true_eq, Bool.not_eq_true'] at hd
    obtain ⟨hlt, hdone⟩ := hd
    have hne : ∀ x, s.done x = true → x ≠ d := fun x hx e => by rw [e, hdone] at hx; cases hx
    have hsb : ∀ x, s.done x = true → slotBool (s.putH (some d) p sv h) x = slotBool s x := fun x hx => slotBool_congr (by simp [St.putH, upd, hne x hx]) (by simp [St.putH, upd, hne x hx])
    refine ⟨by simp [Act.put, hi.nt], hi.defers, hr, fun i => ?_, fun i q x hg => ?_⟩
    · by_cases e : i = d
      · subst e
        simp only [St.putH, upd, if_true]
        trivial
      · simp only [St.putH, upd, if_neg e, Act.put]
        rw [getD_set_ne _ _ _ _ _ e]
        exact (hi.env i).ext ext
    · by_cases e : i = d
      · subst e
        simp only [St.putH, upd, if_true, Option.some.injEq, Prod.mk.injEq] at hg
        obtain ⟨rfl, rfl⟩ := hg
        have hgb : gb (s.putH (some i) p sv h) p = gb s p := gb_congr (fun y hy => hsb y.1 (hp y hy).1)
        simp only [Act.put]
        rw [getD_set_self _ _ _ _ (by rw [hi.nt]; exact hlt), hgb]
        exact ⟨by simp [St.putH, upd], fun y hy => ⟨by simp [St.putH, upd, hne y.1 (hp y hy).1, (hp y hy).1], by rw [hsb y.1 (hp y hy).1]; exact (hp y hy).2⟩, hv, hu⟩
      · simp only [St.putH, upd, if_neg e] at hg
        obtain ⟨a1, a2, a3, a4⟩ := hi.gen i q x hg
        have hgb : gb (s.putH (some d) p sv h) q = gb s q := gb_congr (fun y hy => hsb y.1 (a2 y hy).1)
        simp only [Act.put]
        rw [getD_set_ne _ _ _ _ _ e, hgb]
        exact ⟨by simp [St.putH, upd, e, a1], fun y hy => ⟨by simp [St.putH, upd, hne y.1 (a2 y hy).1, (a2 y hy).1], by rw [hsb y.1 (a2 y hy).1]; exact (a2 y hy).2⟩, fun hb => (a3 hb).ext ext, a4⟩

/-! ### guards -/
theorem inv_putG {nt : Nat} {ι ι' : Nat → Value} {N N' : Nat → Prop} {s : St} {a : Act} {w w' : World} (hi : Inv B nt ι N s a w) {dst : Option Nat} (hd : dstOk nt s dst = true) {p : Path} {sv : SV} {v : Value}
    (hp : ∀ x ∈ p, s.done x.1 = true ∧ (slotBool s x.1).isSome) (ext : Ext ⟨ι, s.heap, w, N⟩ ⟨ι', s.heap, w', N'⟩) (hr : HR B ⟨ι', s.heap, w', N'⟩) (hv : gb s p = true → SVR ⟨ι', s.heap, w', N'⟩ sv v) (hu : gb s p = false → v = undef) :
    Inv B nt ι' N' (s.putG dst p sv) (a.put dst v) w' := by
  have := inv_putH hi hd hp (h := none) ext hr hv hu
  cases dst <;> exact this
theorem litS_id {s : St} {i : Nat} {v : Bool} (h : ∀ b, slotBool s i = some b → b = v) : litS s i v = s := by
  unfold litS
  split
  · rename_i hg
    split
    · rename_i b he
      have : b = v := h b (by simp [slotBool, hg, he, boolOf])
      subst this
      have e : upd s.env i (.lf (.bool b)) = s.env := by
        funext j
        simp only [upd]
        split
        · rename_i e; subst e; exact he.symm
        · rfl
      rw [e]
    · rfl
  · rename_i q b hg
    have : b = v := h b (by simp [slotBool, hg, boolOf])
    subst this
    have e : upd s.gen i (some (q, .lf (.bool b))) = s.gen := by
      funext j
      simp only [upd]
      split
      · rename_i e; subst e; exact hg.symm
      · rfl
    rw [e]
  · rfl
theorem litP_id : ∀ {p : Path} {s : St}, gb s p = true → litP p s = s
  | [], _, _ => rfl
  | x :: r, s, h => by
    rw [gb_all, List.all_cons, Bool.and_eq_true] at h
    have h1 : litS s x.1 x.2 = s := litS_id (by
      intro b hb
      have h2 := h.1
      simp only [gb1, hb] at h2
      cases b <;> cases hx : x.2 <;> simp_all [lit])
    simp only [litP, h1]
    exact litP_id (by rw [gb_all]; exact h.2)
theorem litF_id {p : Path} {s : St} (h : gb s p = false) : litF p s = s := by
  unfold litF
  split
  · rename_i x
    refine litS_id ?_
    intro b hb
    simp only [gb, gb1, hb] at h
    cases b <;> cases hx : x.2 <;> simp_all [lit]
  · rfl
theorem slot_value {nt : Nat} {ι : Nat → Value} {N : Nat → Prop} {s : St} {a : Act} {w : World} (hi : Inv B nt ι N s a w) {d : Nat} {b : Bool} (h : slotBool s d = some b) :
    (s.gen d = none ∧ a.tmps.getD d undef = .bool b) ∨ ∃ q sv, s.gen d = some (q, sv) ∧ (gb s q = true → a.tmps.getD d undef = .bool b) ∧ (gb s q = false → a.tmps.getD d undef = undef) := by
  have bo : ∀ {sv : SV} {c : Cx} {v : Value}, boolOf sv = some b → SVR c sv v → v = .bool b := by
    intro sv c v hb hs
    unfold boolOf at hb
    split at hb
    · simp only [Option.some.injEq] at hb; subst hb; exact hs
    · cases hb
  unfold slotBool at h
  split at h
  · rename_i hg
    exact .inl ⟨hg, bo h (hi.env d)⟩
  · rename_i q sv hg
    obtain ⟨_, _, a3, a4⟩ := hi.gen d q sv hg
    exact .inr ⟨q, sv, hg, fun hb => bo h (a3 hb), a4⟩

theorem guard_sound {nt : Nat} {ι : Nat → Value} {N : Nat → Prop} {s : St} {a : Act} {w : World} (hi : Inv B nt ι N s a w) {ops : Array Oper} {o : Oper} {p : Path} (h : guardPath ops s o.guard = some p) :
    (Region.wanted o (yielded ops a.tmps) = gb s p) ∧ ∀ x ∈ p, s.done x.1 = true ∧ (slotBool s x.1).isSome := by
  unfold Region.wanted
  cases hg : o.guard with
  | none =>
    rw [hg] at h
    simp only [guardPath, Option.some.injEq] at h
    subst h
    exact ⟨rfl, by simp⟩
  | some jw =>
    obtain ⟨j, want⟩ := jw
    rw [hg] at h
    simp only [guardPath] at h
    split at h
    · rename_i d hd
      split at h
      · rename_i b hb hdone
        have hy : ∀ b', a.tmps.getD d undef = .bool b' → yielded ops a.tmps j = some b' := by
          intro b' e
          have : a.tmps[d]? = some (.bool b') := by
            rw [Array.getD_eq_getD_getElem?] at e
            cases hq : a.tmps[d]? with
            | none => rw [hq] at e; cases e
            | some v => rw [hq] at e; simp only [Option.getD_some] at e; rw [e]
          simp [yielded, hd, this]
        have hl : ∀ b', (some b' == some want) = lit want b' := by intro b'; cases b' <;> cases want <;> rfl
        have hg1 : gb1 s (d, want) = lit want b := by simp only [gb1, hb]
        split at h
        · rename_i hgen
          simp only [Option.some.injEq] at h
          subst h
          rcases slot_value hi hb with ⟨_, e⟩ | ⟨q, sv, hg', _⟩
          · refine ⟨?_, by intro x hx; simp at hx; subst hx; exact ⟨hdone, by rw [hb]; rfl⟩⟩
            simp only [hy _ e, hl, gb, hg1]
          · rw [hgen] at hg'; cases hg'
        · rename_i q sv hgen
          simp only [Option.some.injEq] at h
          subst h
          rcases slot_value hi hb with ⟨hg', _⟩ | ⟨q', sv', hg', e1, e2⟩
          · rw [hgen] at hg'; cases hg'
          · rw [hgen] at hg'
            simp only [Option.some.injEq, Prod.mk.injEq] at hg'
            obtain ⟨rfl, rfl⟩ := hg'
            obtain ⟨_, a2, _, _⟩ := hi.gen d q sv hgen
            refine ⟨?_, ?_⟩
            · have hga : gb s (q ++ [(d, want)]) = (gb s q && lit want b) := by rw [gb_all, gb_all, List.all_append]; simp [hg1]
              rw [hga]
              cases hq : gb s q with
              | true => simp only [hy _ (e1 hq), hl, Bool.true_and]
              | false =>
                have hu := e2 hq
                have : yielded ops a.tmps j = none := by
                  have : ∀ v, a.tmps[d]? = some v → v = undef := by
                    intro v hv
                    rw [Array.getD_eq_getD_getElem?, hv] at hu
                    exact hu
                  unfold yielded
                  rw [hd]
                  cases hv : a.tmps[d]? with
                  | none => simp [hv]
                  | some v => simp only [Option.bind_some, hv]; rw [this v hv]; rfl
                simp only [this, Bool.false_and]
                rfl
            · intro x hx
              rcases List.mem_append.1 hx with hx | hx
              · exact a2 x hx
              · simp at hx; subst hx; exact ⟨hdone, by rw [hb]; rfl⟩
      · cases h
    · cases h

theorem opnd_sound {nt : Nat} {ι : Nat → Value} {N : Nat → Prop} {s : St} {a : Act} {w : World} (hi : Inv B nt ι N s a w) {p : Path} (hp : gb s p = true) {x : Operand} {sv : SV} (h : opnd s p x = some sv) : SVR ⟨ι, s.heap, w, N⟩ sv (a.eval x) := by
  cases x with
  | tmp i =>
    simp only [opnd] at h
    split at h
    · simp only [Option.some.injEq] at h; subst h; exact hi.env i
    · rename_i q y hg
      split at h
      · rename_i hs
        simp only [Option.some.injEq] at h
        subst h
        obtain ⟨_, _, a3, _⟩ := hi.gen i q y hg
        refine a3 ?_
        rw [gb_all, List.all_eq_true] at hp ⊢
        intro z hz
        have := List.all_eq_true.1 hs z hz
        exact hp z (by simpa using this)
      · cases h
  | const v => exact constSV_sound h
  | func f => simp only [opnd, Option.some.injEq] at h; subst h; rfl
  | global g => simp only [opnd, Option.some.injEq] at h; subst h; rfl

theorem opnd_pick {nt : Nat} {ι : Nat → Value} {N : Nat → Prop} {s : St} {a : Act} {w : World} (hi : Inv B nt ι N s a w) {p : Path} (hp : gb s p = true) {i : Nat} {b : Bool} {x : Operand} {sv : SV} (h : opnd s (p ++ [(i, b)]) x = some sv) (hb : a.eval (.tmp i) = .bool b) : SVR ⟨ι, s.heap, w, N⟩ sv (a.eval x) := by
  cases x with
  | tmp j =>
    simp only [opnd] at h
    split at h
    · simp only [Option.some.injEq] at h; subst h; exact hi.env j
    · rename_i q y hg
      split at h
      · rename_i hs
        simp only [Option.some.injEq] at h
        subst h
        obtain ⟨_, a2, a3, _⟩ := hi.gen j q y hg
        refine a3 ?_
        rw [gb_all, List.all_eq_true] at hp ⊢
        intro z hz
        have h1 := List.all_eq_true.1 hs z hz
        simp only [List.contains_eq_mem, List.mem_append, List.mem_singleton, decide_eq_true_eq] at h1
        rcases h1 with h1 | rfl
        · exact hp z h1
        · obtain ⟨b', hb'⟩ := Option.isSome_iff_exists.1 (a2 _ hz).2
          have hb2 : a.tmps.getD i undef = .bool b := hb
          rcases slot_value hi hb' with ⟨_, e⟩ | ⟨q', sv', _, e1, e2⟩
          · rw [e] at hb2
            simp only [Value.bool.injEq] at hb2
            subst hb2
            simp only [gb1, hb']
            cases b' <;> rfl
          · cases hq : gb s q' with
            | true =>
              rw [e1 hq] at hb2
              simp only [Value.bool.injEq] at hb2
              subst hb2
              simp only [gb1, hb']
              cases b' <;> rfl
            | false => rw [e2 hq] at hb2; cases hb2
      · cases h
  | const v => exact constSV_sound h
  | func f => simp only [opnd, Option.some.injEq] at h; subst h; rfl
  | global g => simp only [opnd, Option.some.injEq] at h; subst h; rfl

/-! ### one operation -/
def opS (tab : Tab) (Γ : Ctx) (nt : Nat) (ops : Array Oper) (o : Oper) (s : St) : Option St := opK tab Γ nt ops o some s

theorem opK_bind {R : Type} {Γ : Ctx} {nt : Nat} {ops : Array Oper} {o : Oper} {K : St → Option R} {s : St} : opK tab Γ nt ops o K s = (opS tab Γ nt ops o s).bind K := by
  unfold opS opK
  split
  · split
    · rfl
    · split
      · rfl
      · rfl
      · split <;> rfl
      · simp only [Option.bind_assoc]; congr 1
    · split
      · rfl
      · split <;> rfl
      · split <;> rfl
      · split
        · split <;> rfl
        · rfl
      · simp only [Option.bind_assoc]; congr 1
      · split
        · simp only [Option.bind_assoc]; congr 1
        · rfl
  · rfl

theorem opS_sound (tk : TabOk P tab) {Γ : Ctx} (hΓ : ∀ f con, Γ f = some con → Sound P tab (f % 10000) con) {nt : Nat} {ops : Array Oper} {o : Oper} {s s' : St} (h : opS tab Γ nt ops o s = some s') {a : Act} {w : World} (hi : InvE B nt s a w)
    {Q : Exit → Act → World → Prop} {next : Act → World → Prop} (hn : ∀ a' w', InvE B nt s' a' w' → next a' w') :
    if Region.wanted o (yielded ops a.tmps) then o.wp P a w next Q else next (a.put o.dst undef) w := by
  obtain ⟨ι, N, hi⟩ := hi
  unfold opS opK at h
  split at h
  · rename_i hdst
    split at h
    · cases h
    · -- no guard
      rename_i hgp
      obtain ⟨hw, _⟩ := guard_sound hi hgp
      rw [hw]
      simp only [gb, if_true]
      have main := opO_sound (B := B) (c := ⟨ι, s.heap, w, N⟩) tk hΓ hi.heap (o := o) (a := a) (ρ := opnd s []) (ρx := opnd s) (fun x sv hx => opnd_sound hi rfl hx) (fun x sv hx => opnd_sound hi rfl hx)
        (fun i b x sv hx hb => opnd_pick hi (p := []) rfl (by simpa using hx) hb)
      split at h
      · cases h
      · rename_i sv hh hout
        simp only at main
        rw [hout] at main
        simp only [Option.some.injEq] at h
        subst h
        refine main (by simp) next Q ?_
        rintro v w' ⟨ι', N', e1, e2, e3⟩
        exact hn _ _ ⟨ι', N', inv_put hi hdst e1 e2 e3⟩
      · rename_i t sv hh hout
        simp only at main
        rw [hout] at main
        split at h
        · rename_i ht
          simp only [Option.some.injEq] at h
          subst h
          refine main (by intro b hb; simp only [Option.some.injEq] at hb; subst hb; exact ht) next Q ?_
          rintro v w' ⟨ι', N', e1, e2, e3⟩
          exact hn _ _ ⟨ι', N', inv_put hi hdst e1 e2 e3⟩
        · cases h
      · rename_i t q x F hout
        simp only at main
        rw [hout] at main
        cases hx : x with
        | none => rw [hx] at h; cases h
        | some r =>
          rw [hx] at h
          simp only [Option.bind_some, Option.some.injEq] at h
          cases q with
          | false =>
            subst h
            refine (main r hx).1 next Q ?_
            rintro v w' ⟨ι', N', e1, e2, e3⟩
            exact hn _ _ ⟨ι', N', inv_put hi hdst e1 e2 e3⟩
          | true =>
            subst h
            refine (main r hx).2 rfl next Q ?_
            rintro v w' ⟨ι', N', e1, e2, e3⟩
            exact hn _ _ ⟨ι', N', inv_put hi hdst (h := none) e1 e2 e3⟩
    · -- a guard
      rename_i p hne hgp
      obtain ⟨hw, hp⟩ := guard_sound hi hgp
      rw [hw]
      have main : gb s p = true → OutOk P B ⟨ι, s.heap, w, N⟩ o a (opO tab Γ o.dst (fun q => opnd s (p ++ q)) (opnd s p) s.heap o.op) := fun hb =>
        opO_sound (B := B) (c := ⟨ι, s.heap, w, N⟩) tk hΓ hi.heap (o := o) (a := a) (ρ := opnd s p) (ρx := fun q => opnd s (p ++ q)) (fun x sv hx => opnd_sound hi hb hx) (fun x sv hx => opnd_sound hi hb (by simpa using hx))
        (fun i b x sv hx hb' => opnd_pick hi hb hx hb')
      have skip : ∀ sv, gb s p = false → InvE B nt (s.putG o.dst p sv) (a.put o.dst undef) w := fun sv hb =>
        ⟨ι, N, inv_putG hi hdst hp (Ext.refl _) hi.heap (fun h => by rw [hb] at h; cases h) (fun _ => rfl)⟩
      split at h
      · rename_i sv hout
        simp only [Option.some.injEq] at h
        subst h
        cases hb : gb s p with
        | false => simp only [Bool.false_eq_true, if_false]; exact hn _ _ (skip sv hb)
        | true =>
          simp only [if_true]
          have m := main hb
          rw [hout] at m
          refine m (by simp) next Q ?_
          rintro v w' ⟨ι', N', e1, e2, e3⟩
          exact hn _ _ ⟨ι', N', inv_putG hi hdst hp e1 e2 (fun _ => e3) (fun h => by rw [hb] at h; cases h)⟩
      · rename_i t sv hout
        split at h
        · rename_i ht
          simp only [Option.some.injEq] at h
          subst h
          cases hb : gb s p with
          | false => simp only [Bool.false_eq_true, if_false]; exact hn _ _ (skip sv hb)
          | true =>
            simp only [if_true]
            have m := main hb
            rw [hout] at m
            rw [hb] at ht
            refine m (by intro b hb'; simp only [Option.some.injEq] at hb'; subst hb'; simpa using ht) next Q ?_
            rintro v w' ⟨ι', N', e1, e2, e3⟩
            exact hn _ _ ⟨ι', N', inv_putG hi hdst hp e1 e2 (fun _ => e3) (fun h => by rw [hb] at h; cases h)⟩
        · cases h
      · rename_i hout
        cases hb : gb s p with
        | false =>
          rw [hb] at h
          simp only [Bool.false_eq_true, if_false, Option.some.injEq, litF_id hb] at h ⊢
          subst h
          refine hn _ _ ?_
          obtain ⟨ι1, N1, h1⟩ := skip (.lf .bad) hb
          refine ⟨ι1, N1, ?_⟩
          have e : s.putH o.dst p (.lf .bad) none = s.putG o.dst p (.lf .bad) := by cases o.dst <;> rfl
          rw [e]
          exact h1
        | true => rw [hb] at h; cases h
      · rename_i t sv hh hout
        cases hb : gb s p with
        | false =>
          rw [hb] at h
          simp only [Bool.false_eq_true, if_false, Option.some.injEq, litF_id hb] at h ⊢
          subst h
          have := skip (.lf .bad) hb
          refine hn _ _ ?_
          obtain ⟨ι1, N1, h1⟩ := this
          refine ⟨ι1, N1, ?_⟩
          have e : s.putH o.dst p (.lf .bad) none = s.putG o.dst p (.lf .bad) := by cases o.dst <;> rfl
          rw [e]
          exact h1
        | true =>
          rw [hb] at h
          simp only [if_true] at h ⊢
          split at h
          · rename_i ht
            simp only [Option.some.injEq, litP_id hb] at h
            subst h
            have m := main hb
            rw [hout] at m
            refine m (by intro b hb'; subst hb'; simpa using ht) next Q ?_
            rintro v w' ⟨ι', N', e1, e2, e3⟩
            exact hn _ _ ⟨ι', N', inv_putH hi hdst hp e1 e2 (fun _ => e3) (fun h => by rw [hb] at h; cases h)⟩
          · cases h
      · rename_i t x F hout
        cases hb : gb s p with
        | false =>
          simp only [Bool.false_eq_true, if_false]
          rw [hb] at h
          simp only [Bool.false_eq_true, if_false, Option.bind_some, Option.some.injEq] at h
          subst h
          exact hn _ _ (skip _ hb)
        | true =>
          simp only [if_true]
          rw [hb] at h
          simp only [if_true] at h
          cases hx : x with
          | none => rw [hx] at h; cases h
          | some r =>
            rw [hx] at h
            simp only [Option.bind_some, Option.some.injEq] at h
            subst h
            have m := main hb
            rw [hout] at m
            refine (m r hx).2 rfl next Q ?_
            rintro v w' ⟨ι', N', e1, e2, e3⟩
            exact hn _ _ ⟨ι', N', inv_putG hi hdst hp e1 e2 (fun _ => e3) (fun h => by rw [hb] at h; cases h)⟩
      · rename_i t x F hout
        cases hb : gb s p with
        | false =>
          rw [hb] at h
          simp only [Bool.false_eq_true, if_false, Option.some.injEq, litF_id hb] at h ⊢
          subst h
          refine hn _ _ ?_
          obtain ⟨ι1, N1, h1⟩ := skip (.lf .bad) hb
          refine ⟨ι1, N1, ?_⟩
          have e : s.putH o.dst p (.lf .bad) none = s.putG o.dst p (.lf .bad) := by cases o.dst <;> rfl
          rw [e]
          exact h1
        | true =>
          simp only [if_true]
          rw [hb] at h
          simp only [if_true] at h
          cases hx : x with
          | none => rw [hx] at h; cases h
          | some r =>
            rw [hx] at h
            simp only [Option.bind_some, Option.some.injEq, litP_id hb] at h
            subst h
            have m := main hb
            rw [hout] at m
            refine (m r hx).1 next Q ?_
            rintro v w' ⟨ι', N', e1, e2, e3⟩
            exact hn _ _ ⟨ι', N', inv_putH hi hdst hp e1 e2 (fun _ => e3) (fun h => by rw [hb] at h; cases h)⟩
  · cases h

/-! ### regions in order -/
def opsS (tab : Tab) (Γ : Ctx) (nt : Nat) (ops : Array Oper) : List Oper → St → Option St
  | [], s => some s
  | o :: r, s => (opS tab Γ nt ops o s).bind (opsS tab Γ nt ops r)
theorem opsK_bind {R : Type} {Γ : Ctx} {nt : Nat} {ops : Array Oper} : ∀ {l : List Oper} {K : St → Option R} {s : St}, opsK tab Γ nt ops l K s = (opsS tab Γ nt ops l s).bind K
  | [], K, s => rfl
  | o :: r, K, s => by
    simp only [opsK, opsS, opK_bind, Option.bind_assoc]
    congr 1
    funext s'
    exact opsK_bind

theorem opsS_sound (tk : TabOk P tab) {Γ : Ctx} (hΓ : ∀ f con, Γ f = some con → Sound P tab (f % 10000) con) {nt : Nat} {ops : Array Oper} {Q : Exit → Act → World → Prop} : ∀ {l : List Nat} {s s' : St} {a : Act} {w : World}, (∀ i ∈ l, i < ops.size) →
    opsS tab Γ nt ops (l.map fun i => ops.getD i default) s = some s' → InvE B nt s a w → (∀ a' w', InvE B nt s' a' w' → Q .normal a' w') → wpOps P ops Q l a w
  | [], s, s', a, w, _, h, hi, hq => by
    simp only [List.map_nil, opsS, Option.some.injEq] at h
    subst h
    exact hq a w hi
  | i :: r, s, s', a, w, hl, h, hi, hq => by
    have hlt : i < ops.size := hl i (by simp)
    have ho : ops[i]? = some (ops.getD i default) := by simp [Array.getD, hlt]
    simp only [List.map_cons, opsS] at h
    cases h1 : opS tab Γ nt ops (ops.getD i default) s with
    | none => rw [h1] at h; cases h
    | some s1 =>
      rw [h1] at h
      simp only [Option.bind_some] at h
      simp only [wpOps, ho]
      have := opS_sound (B := B) tk hΓ h1 hi (Q := Q) (next := wpOps P ops Q r) (fun a' w' hi' => opsS_sound tk hΓ (fun j hj => hl j (by simp [hj])) h hi' hq)
      by_cases hw : Region.wanted (ops.getD i default) (yielded ops a.tmps) = true
      · simp only [hw, if_true] at this ⊢
        exact .inl this
      · simp only [hw, if_false, Bool.false_eq_true] at this ⊢
        exact this
end
end Go.Eng


set_option linter.unusedVariables false
set_option linter.unusedSimpArgs false
namespace Go.Eng
section
variable {P : Program} {tab : Tab} {B : Bd tab}

/-! ### packing and unpacking -/
theorem inv_clear {nt : Nat} {s : St} {a : Act} {w : World} (hi : InvE B nt s a w) : InvE B nt (mkSt s.env s.heap) a w := by
  obtain ⟨ι, N, h⟩ := hi
  exact ⟨ι, N, h.nt, h.defers, h.heap, h.env, fun i p sv hg => by simp [mkSt] at hg⟩

/-- a context from whose objects some are taken away, and put back under other names -/
theorem takeRow_sound {c : Cx} (hr : HR B c) {e : Nat} {x y : Lf} {h1 : Heap} {v : Value} (h : takeRow e c.h x = some (y, h1)) (hx : LR c x v) :
    h1.used = c.h.used ∧ (∀ l o, h1.obj l = some o → c.h.obj l = some o) ∧
    ((y = .nilsl ∧ v = .slice none 0 0) ∨ ∃ t, ∃ xs : List (Den t), y = .sl t xs ∧ RowR B.w0.heap.size c.w c.N e t xs v ∧ (∀ g, blk v = some g → c.N g ∧ ∀ l o, h1.obj l = some o → blk (c.ι l) ≠ some g)) := by
  unfold takeRow at h
  split at h
  · rename_i l
    split at h
    · rename_i e' t xs ho
      split at h
      · rename_i he
        subst he
        simp only [Option.some.injEq, Prod.mk.injEq] at h
        obtain ⟨rfl, rfl⟩ := h
        simp only [LR] at hx
        have hv := hx.2.2 _ _ _ ho
        subst hv
        obtain ⟨_, hp, us, hown, hrd⟩ := hr.obj l _ ho
        refine ⟨rfl, fun l' o h' => (del_obj h').2, .inr ⟨t, xs, rfl, ⟨hp, us, hown, hrd⟩, ?_⟩⟩
        intro g hg
        refine ⟨hr.own l _ g ho hg, ?_⟩
        intro l' o h' hb
        obtain ⟨hne, h''⟩ := del_obj h'
        exact hne (hr.inj l' l o _ g h'' ho hb hg)
      · cases h
    · cases h
  · simp only [Option.some.injEq, Prod.mk.injEq] at h
    obtain ⟨rfl, rfl⟩ := h
    simp only [LR] at hx
    exact ⟨rfl, fun _ _ h => h, .inl ⟨rfl, hx⟩⟩
  · cases h
end
end Go.Eng


set_option linter.unusedVariables false
set_option linter.unusedSimpArgs false
namespace Go.Eng
section
variable {P : Program} {tab : Tab} {B : Bd tab}

def Leq : Lf → Lf → Prop
  | .int k n, y => y = .int k n
  | .bool b, y => y = .bool b
  | .str s, y => y = .str s
  | .sl t xs, y => y = .sl t xs ∨ (y = .nilsl ∧ xs = [])
  | .ifc ids p k d, y => ofIf ids p y = some (k, d)
  | _, _ => False
def LeqL : List Lf → List Lf → Prop
  | [], [] => True
  | m :: ms, y :: ys => Leq m y ∧ LeqL ms ys
  | _, _ => False
theorem LeqL.append {a b : List Lf} : ∀ {l : List Lf}, LeqL l (a ++ b) ↔ LeqL (l.take a.length) a ∧ LeqL (l.drop a.length) b := by
  induction a with
  | nil => intro l; simp [LeqL]
  | cons x r ih =>
    intro l
    cases l with
    | nil => simp [LeqL]
    | cons m ms => simp [LeqL, ih, and_assoc]
theorem LeqL.length : ∀ {a b : List Lf}, LeqL a b → a.length = b.length
  | [], [], _ => rfl
  | _ :: _, _ :: _, h => by simp [LeqL.length h.2]
  | [], _ :: _, h => h.elim
  | _ :: _, [], h => h.elim

theorem slOf_leq {t : Ty} {x : Lf} {xs : List (Den t)} (h : slOf t x = some xs) : Leq (.sl t xs) x := by
  unfold slOf at h
  split at h
  · split at h
    · rename_i e
      subst e
      simp only [Option.some.injEq] at h
      subst h
      exact .inl rfl
    · cases h
  · simp only [Option.some.injEq] at h
    subst h
    exact .inr ⟨rfl, rfl⟩
  · cases h

theorem ofL_leq : ∀ {t : Ty} {l : List Lf} {d : Den t} {r : List Lf}, ofL t l = some (d, r) → ∃ l1, l = l1 ++ r ∧ LeqL (leaves t d) l1
  | .int k, l, d, r, h => by
    match l, h with
    | .int k' n :: l', h =>
      simp only [ofL] at h
      split at h
      · rename_i e
        simp only [Option.some.injEq, Prod.mk.injEq] at h
        obtain ⟨rfl, rfl⟩ := h
        subst e
        exact ⟨[.int k' n], rfl, rfl, trivial⟩
      · cases h
  | .bool, l, d, r, h => by
    match l, h with
    | .bool b :: l', h =>
      simp only [ofL, Option.some.injEq, Prod.mk.injEq] at h
      obtain ⟨rfl, rfl⟩ := h
      exact ⟨[.bool b], rfl, rfl, trivial⟩
  | .str, l, d, r, h => by
    match l, h with
    | .str b :: l', h =>
      simp only [ofL, Option.some.injEq, Prod.mk.injEq] at h
      obtain ⟨rfl, rfl⟩ := h
      exact ⟨[.str b], rfl, rfl, trivial⟩
  | .nil, l, d, r, h => by
    simp only [ofL, Option.some.injEq, Prod.mk.injEq] at h
    exact ⟨[], by simp [h.2], trivial⟩
  | .sl t, l, d, r, h => by
    match l, h with
    | x :: l', h =>
      simp only [ofL] at h
      split at h
      · rename_i xs hs
        simp only [Option.some.injEq, Prod.mk.injEq] at h
        obtain ⟨rfl, rfl⟩ := h
        exact ⟨[x], rfl, slOf_leq hs, trivial⟩
      · cases h
    | [], h => simp [ofL] at h
  | .ifc ids p, l, d, r, h => by
    match l, h with
    | x :: l', h =>
      simp only [ofL] at h
      split at h
      · rename_i y hs
        simp only [Option.some.injEq, Prod.mk.injEq] at h
        obtain ⟨rfl, rfl⟩ := h
        exact ⟨[x], rfl, hs, trivial⟩
      · cases h
    | [], h => simp [ofL] at h
  | .cons t u, l, d, r, h => by
    simp only [ofL] at h
    split at h
    · rename_i d1 l1 h1
      split at h
      · rename_i d2 l2 h2
        simp only [Option.some.injEq, Prod.mk.injEq] at h
        obtain ⟨rfl, rfl⟩ := h
        obtain ⟨a, rfl, ha⟩ := ofL_leq h1
        obtain ⟨b, rfl, hb⟩ := ofL_leq h2
        refine ⟨a ++ b, by simp, ?_⟩
        simp only [leaves]
        rw [LeqL.append, ← ha.length]
        simp only [List.take_left, List.drop_left]
        exact ⟨ha, hb⟩
      · cases h
    · cases h
theorem ofAll_leq {t : Ty} {l : List Lf} {d : Den t} (h : ofAll t l = some d) : LeqL (leaves t d) l := by
  unfold ofAll at h
  split at h
  · rename_i d' h'
    simp only [Option.some.injEq] at h
    subst h
    obtain ⟨l1, e, hl⟩ := ofL_leq h'
    rw [List.append_nil] at e
    subst e
    exact hl
  · cases h

/-- a leaf of data reads the same in any context of the same world -/
theorem leq_LR {c cn : Cx} (hw : cn.w = c.w) (hN : cn.N = c.N) {m y : Lf} {v : Value} (h : Leq m y) (hy : LR c y v) : LR cn m v := by
  cases m with
  | int k n => simp only [Leq] at h; subst h; exact hy
  | bool b => simp only [Leq] at h; subst h; exact hy
  | str s => simp only [Leq] at h; subst h; exact hy
  | sl t xs =>
    simp only [Leq] at h
    rcases h with rfl | ⟨rfl, rfl⟩
    · simp only [LR] at hy ⊢
      rw [hw, hN]
      exact hy
    · simp only [LR] at hy
      subst hy
      simp only [LR, Rd]
      exact ⟨none, 0, by simp, by simp, fun i hi => by simp at hi⟩
  | ifc ids p k d =>
    simp only [Leq] at h
    have := ofIf_rd h hy
    simp only [LR]
    rw [hw, hN]
    exact this
  | _ => exact h.elim

structure Two (B : Bd tab) (c0 c cn : Cx) : Prop where
  ext : Ext c0 c
  hr : HR B c
  hn : HR B cn
  w : c.w = c0.w
  wn : cn.w = c0.w
  N : cn.N = c.N
  ι : c.ι = c0.ι
  dis : ∀ l o l' o' g, c.h.obj l = some o → cn.h.obj l' = some o' → blk (c.ι l) = some g → blk (cn.ι l') = some g → False
  box : ∀ l ro cs, cn.h.obj l = some (.box ro cs) → (∃ ro' cs', c0.h.obj l = some (.box ro' cs')) ∧ cn.ι l = c0.ι l
  same : ∀ l ro cs, c.h.obj l = some (.box ro cs) → c0.h.obj l = some (.box ro cs)

theorem frz_sub (h : Heap) (x : Lf) : ∀ l o, (frz h x).2.obj l = some o → h.obj l = some o := by
  intro l o ho
  unfold frz at ho
  split at ho
  · split at ho
    · exact (del_obj ho).2
    · exact ho
  · exact ho

theorem two_frz {c0 c cn : Cx} (T : Two B c0 c cn) {x y : Lf} {h1 : Heap} {v : Value} (h : frz c.h x = (y, h1)) (hx : LR c x v) :
    ∃ N', Two B c0 ⟨c.ι, h1, c.w, N'⟩ ⟨cn.ι, cn.h, cn.w, N'⟩ ∧ Ext cn ⟨cn.ι, cn.h, cn.w, N'⟩ ∧ LR ⟨c.ι, h1, c.w, N'⟩ y v := by
  obtain ⟨N', sub, lets, e1, r1, lr⟩ := frz_sound2 T.hr h hx
  have hN : ∀ b, cn.N b ↔ c.N b := fun b => by rw [T.N]
  obtain ⟨e2, r2⟩ := step_forget T.hn cn.h (fun _ h => h) (fun _ _ h => h) N' (fun b hb => (hN b).2 (sub b hb)) (fun l o g ho hb => by
    rcases lets g ((hN g).1 (T.hn.own l o g ho hb)) with h | ⟨l', o', ho', hb'⟩
    · exact h
    · exact (T.dis l' o' l o g ho' ho hb' hb).elim) r1.base
  have hu : h1.used = c.h.used := by have := frz_used c.h x; rw [h] at this; exact this
  refine ⟨N', ⟨T.ext.trans e1, r1, r2, T.w, T.wn, rfl, T.ι, ?_, T.box, fun l ro cs ho => T.same l ro cs (by have := frz_sub c.h x l _ (by rw [h]; exact ho); exact this)⟩, e2, lr⟩
  intro l o l' o' g ho ho' hb hb'
  obtain ⟨o2, h2, _⟩ := e1.obj l o (by have := (r1.obj l o ho).1; simp only [hu] at this; exact this) ho
  exact T.dis l o2 l' o' g h2 ho' hb hb'

theorem two_row {c0 c cn : Cx} (T : Two B c0 c cn) {e l : Nat} {x y m : Lf} {h1 : Heap} {v : Value} (h : takeRow e c.h x = some (y, h1)) (hx : LR c x v) (hm : Leq m y) (hl : cn.h.used l = false) :
    ∃ ι', Two B c0 ⟨c.ι, h1, c.w, c.N⟩ ⟨ι', rowAtL cn.h l e m, cn.w, cn.N⟩ ∧ Ext cn ⟨ι', rowAtL cn.h l e m, cn.w, cn.N⟩ ∧ LR ⟨ι', rowAtL cn.h l e m, cn.w, cn.N⟩ (ownOk (rowAtL cn.h l e m) l) v ∧
      (∀ l', l' ≠ l → (rowAtL cn.h l e m).used l' = cn.h.used l') := by
  obtain ⟨hu, hsub, hrow⟩ := takeRow_sound T.hr h hx
  obtain ⟨ef, rf⟩ := step_forget T.hr h1 (fun l' h => by rw [hu]; exact h) hsub c.N (fun _ h => h) (fun l' o g ho hb => T.hr.own l' o g (hsub l' o ho) hb) T.hr.base
  have T1 : Two B c0 ⟨c.ι, h1, c.w, c.N⟩ cn := ⟨T.ext.trans ef, rf, T.hn, T.w, T.wn, T.N, T.ι, fun l o l' o' g ho => T.dis l o l' o' g (hsub l o ho), T.box, fun l ro cs ho => T.same l ro cs (hsub l _ ho)⟩
  -- the row that comes
  have hr' : ∃ t, ∃ xs : List (Den t), m = .sl t xs ∧ (0 < t.size → RowR B.w0.heap.size c.w c.N e t xs v) ∧ (∀ g, blk v = some g → c.N g ∧ ∀ l' o, h1.obj l' = some o → blk (c.ι l') ≠ some g) ∧ (∀ g, blk v = some g → ∀ l' o', cn.h.obj l' = some o' → blk (cn.ι l') ≠ some g) := by
    rcases hrow with ⟨rfl, rfl⟩ | ⟨t, xs, rfl, hR, hb⟩
    · cases m with
      | sl t xs =>
        simp only [Leq] at hm
        rcases hm with hm | ⟨_, rfl⟩
        · cases hm
        · refine ⟨t, [], rfl, fun hp => ⟨hp, [], ⟨by simp, .inl ⟨rfl, rfl⟩⟩, fun i hi => by simp at hi⟩, fun g hg => by simp [blk] at hg, fun g hg => by simp [blk] at hg⟩
      | int k n => simp [Leq] at hm
      | bool b => simp [Leq] at hm
      | str s => simp [Leq] at hm
      | ifc ids p k d => simp [Leq, ofIf] at hm
      | _ => exact hm.elim
    · have hm' : m = .sl t xs := by
        cases m with
        | sl t' xs' =>
          simp only [Leq] at hm
          rcases hm with hm | ⟨hm, _⟩
          · exact hm.symm
          · cases hm
        | int k n => simp [Leq] at hm
        | bool b => simp [Leq] at hm
        | str s => simp [Leq] at hm
        | ifc ids p k d => simp [Leq, ofIf] at hm
        | _ => exact hm.elim
      refine ⟨t, xs, hm', fun _ => hR, hb, ?_⟩
      intro g hg l' o' ho' hb'
      -- the row was an object of c
      unfold takeRow at h
      split at h
      · rename_i lx
        split at h
        · rename_i e' t' xs' hox
          simp only [LR] at hx
          have hv := hx.2.2 _ _ _ hox
          exact T.dis lx _ l' o' g hox ho' (by rw [← hv]; exact hg) hb'
        · cases h
      · simp only [LR] at hx
        subst hx
        simp [blk] at hg
      · cases h
  obtain ⟨t, xs, rfl, hR, hb, hd⟩ := hr'
  by_cases hp : 0 < t.size
  · have hat : rowAtL cn.h l e (.sl t xs) = cn.h.new l (.row e t xs) := by simp [rowAtL, hp]
    rw [hat]
    obtain ⟨hp', us, hown, hrd⟩ := hR hp
    obtain ⟨e2, r2⟩ := step_add (hpin := fun _ _ _ h => by cases h) T.hn l hl v (fun g hg => ⟨by rw [T.N]; exact (hb g hg).1, hd g hg⟩) (.row e t xs)
      (fun ext => ⟨hp', us, by simp only [upd, if_true]; rw [T.wn, ← T.w]; exact hown, fun i hi => by simp only; rw [T.wn, ← T.w, T.N]; exact hrd i hi⟩)
    refine ⟨upd cn.ι l v, ⟨T1.ext, rf, r2, T.w, T.wn, T.N, T.ι, ?_, ?_, T1.same⟩, e2, ?_, ?_⟩
    · intro l1 o1 l2 o2 g ho1 ho2 hb1 hb2
      by_cases e' : l2 = l
      · subst e'
        simp only [upd, if_true] at hb2
        exact (hb g hb2).2 l1 o1 ho1 hb1
      · simp only [Heap.new, upd, if_neg e'] at ho2 hb2
        exact T1.dis l1 o1 l2 o2 g ho1 ho2 hb1 hb2
    · intro l2 ro cs ho2
      by_cases e' : l2 = l
      · subst e'
        simp only [Heap.new, upd, if_true, Option.some.injEq] at ho2
        cases ho2
      · simp only [Heap.new, upd, if_neg e'] at ho2 ⊢
        exact T.box l2 ro cs ho2
    · have : ownOk (cn.h.new l (.row e t xs)) l = .own l := by simp [ownOk, Heap.new, upd]
      rw [this]
      simp only [LR]
      exact ⟨by simp [Heap.new, upd], ownsRow_one hown, fun _ _ _ _ => by simp [upd]⟩
    · intro l' hne
      simp [Heap.new, upd, hne]
  · have hat : rowAtL cn.h l e (.sl t xs) = cn.h := by simp [rowAtL, hp]
    rw [hat]
    refine ⟨cn.ι, T1, Ext.refl _, ?_, fun _ _ => rfl⟩
    have : ownOk cn.h l = .bad := by simp [ownOk, hl]
    rw [this]
    trivial

theorem two_cst {c0 c cn : Cx} (T : Two B c0 c cn) {x y : Lf} {v : Value} (h : x.same y = true) (hy : LR c0 y v) : LR cn (cstOk cn.h x) v := by
  unfold Lf.same at h
  split at h
  · rename_i l o l' o'
    simp only [Bool.and_eq_true, beq_iff_eq] at h
    obtain ⟨rfl, rfl⟩ := h
    simp only [cstOk]
    split
    · rename_i hu
      simp only [LR] at hy ⊢
      refine ⟨hu, hy.2.1, fun ro cs ho => ?_⟩
      obtain ⟨⟨ro', cs', ho'⟩, hι⟩ := T.box l ro cs ho
      rw [hι]
      exact hy.2.2 _ _ ho'
    · trivial
  · simp only [beq_iff_eq] at h
    subst h
    exact hy
  · rename_i f ls g ls'
    simp only [Bool.and_eq_true, beq_iff_eq] at h
    obtain ⟨rfl, rfl⟩ := h
    simp only [cstOk]
    split
    · rename_i hu
      simp only [LR] at hy ⊢
      obtain ⟨vs, e, hl, hb⟩ := hy
      refine ⟨vs, e, hl, fun i l u hi hv => ?_⟩
      obtain ⟨h1, h2, h3⟩ := hb i l u hi hv
      refine ⟨List.all_eq_true.1 hu l (List.mem_of_getElem? hi), h2, fun ro cs ho => ?_⟩
      obtain ⟨⟨ro', cs', ho'⟩, hι⟩ := T.box l ro cs ho
      rw [hι]
      exact h3 _ _ ho'
    · trivial
  · exact trivial
  · exact hy
  · cases h
end
end Go.Eng


set_option linter.unusedVariables false
set_option linter.unusedSimpArgs false
namespace Go.Eng
section
variable {P : Program} {tab : Tab} {B : Bd tab}

theorem two_eta {c0 c cn : Cx} (T : Two B c0 c cn) : Two B c0 ⟨c.ι, c.h, c.w, c.N⟩ ⟨cn.ι, cn.h, cn.w, c.N⟩ ∧ Ext cn ⟨cn.ι, cn.h, cn.w, c.N⟩ := by
  have hN := T.N
  cases c; cases cn
  simp only at hN
  subst hN
  exact ⟨T, Ext.refl _⟩

theorem packC_sound {c0 : Cx} : ∀ {cells : List Cell} {xs : List Lf} {c cn : Cx} {ys : List Lf} {h1 : Heap} {ms ms2 : List Lf} {g : Nat → Option Value}, Two B c0 c cn → packC cells xs c.h = some (ys, h1) → LsR c0 xs g → LeqL ms ys →
    (∀ l ∈ locsC cells, cn.h.used l = false) → apartL (locsC cells) = true →
    ∃ N' ι' cs' H', unpackC cells (ms ++ ms2) cn.h = (cs', H', ms2) ∧ Two B c0 ⟨c.ι, h1, c.w, N'⟩ ⟨ι', H', cn.w, N'⟩ ∧ Ext cn ⟨ι', H', cn.w, N'⟩ ∧ LsR ⟨ι', H', cn.w, N'⟩ cs' g ∧ cs'.length = xs.length ∧ (∀ l, l ∉ locsC cells → H'.used l = cn.h.used l)
  | [], xs, c, cn, ys, h1, ms, ms2, g, T, h, hl, hm, hu, ha => by
    cases xs with
    | cons _ _ => simp [packC] at h
    | nil =>
      simp only [packC, Option.some.injEq, Prod.mk.injEq] at h
      obtain ⟨rfl, rfl⟩ := h
      cases ms with
      | cons _ _ => exact hm.elim
      | nil =>
        exact ⟨c.N, cn.ι, [], cn.h, rfl, (two_eta T).1, (two_eta T).2, LsR.nil _ _, rfl, fun _ _ => rfl⟩
  | .v :: cells, xs, c, cn, ys, h1, ms, ms2, g, T, h, hl, hm, hu, ha => by
    cases xs with
    | nil => simp [packC] at h
    | cons x xs =>
      simp only [packC] at h
      cases hf : frz c.h x with
      | mk y h2 =>
        simp only [hf] at h
        split at h
        · rename_i zs h3 hrest
          simp only [Option.some.injEq, Prod.mk.injEq] at h
          obtain ⟨rfl, rfl⟩ := h
          cases ms with
          | nil => exact hm.elim
          | cons m ms =>
            obtain ⟨⟨v, e, hv⟩, hrl⟩ := LsR.cons.1 hl
            obtain ⟨N1, T1, E1, L1⟩ := two_frz T hf (hv.ext T.ext)
            obtain ⟨N2, ι2, cs2, H2, u2, T2, E2, L2, len2, k2⟩ := packC_sound (c := ⟨c.ι, h2, c.w, N1⟩) (cn := ⟨cn.ι, cn.h, cn.w, N1⟩) (ms2 := ms2) T1 hrest hrl hm.2 hu ha
            refine ⟨N2, ι2, m :: cs2, H2, ?_, T2, E1.trans E2, ?_, by simp [len2], k2⟩
            · simp only [List.cons_append, unpackC, u2]
            · refine LsR.cons.2 ⟨⟨v, e, ?_⟩, L2⟩
              exact LR.ext E2 (leq_LR (c := ⟨c.ι, h2, c.w, N1⟩) (cn := ⟨cn.ι, cn.h, cn.w, N1⟩) (T.wn.trans T.w.symm) rfl hm.1 L1)
        · cases h
  | .row l e :: cells, xs, c, cn, ys, h1, ms, ms2, g, T, h, hl, hm, hu, ha => by
    cases xs with
    | nil => simp [packC] at h
    | cons x xs =>
      simp only [packC] at h
      split at h
      · rename_i y h2 hf
        split at h
        · rename_i zs h3 hrest
          simp only [Option.some.injEq, Prod.mk.injEq] at h
          obtain ⟨rfl, rfl⟩ := h
          cases ms with
          | nil => exact hm.elim
          | cons m ms =>
            obtain ⟨⟨v, ev, hv⟩, hrl⟩ := LsR.cons.1 hl
            simp only [locsC, apartL, Bool.and_eq_true, Bool.not_eq_true', List.contains_eq_mem, decide_eq_false_iff_not] at ha
            obtain ⟨ι1, T1, E1, L1, k1⟩ := two_row T hf (hv.ext T.ext) hm.1 (hu l (by simp [locsC]))
            obtain ⟨N2, ι2, cs2, H2, u2, T2, E2, L2, len2, k2⟩ := packC_sound (c := ⟨c.ι, h2, c.w, c.N⟩) (cn := ⟨ι1, rowAtL cn.h l e m, cn.w, cn.N⟩) (ms2 := ms2) T1 hrest hrl hm.2 (fun l' hl' => by
              have hne : l' ≠ l := fun e' => ha.1 (e' ▸ hl')
              simp only
              rw [k1 l' hne]
              exact hu l' (by simp [locsC, hl'])) ha.2
            refine ⟨N2, ι2, ownOk (rowAtL cn.h l e m) l :: cs2, H2, ?_, T2, E1.trans E2, ?_, by simp [len2], ?_⟩
            · simp only [List.cons_append, unpackC, u2]
            · exact LsR.cons.2 ⟨⟨v, ev, L1.ext E2⟩, L2⟩
            · intro l' hl'
              simp only [locsC, List.mem_cons, not_or] at hl'
              rw [k2 l' hl'.2]
              exact k1 l' hl'.1
        · cases h
      · cases h
  | .cst k :: cells, xs, c, cn, ys, h1, ms, ms2, g, T, h, hl, hm, hu, ha => by
    cases xs with
    | nil => simp [packC] at h
    | cons x xs =>
      simp only [packC] at h
      split at h
      · rename_i hs
        obtain ⟨⟨v, ev, hv⟩, hrl⟩ := LsR.cons.1 hl
        have L1 := two_cst T hs hv
        obtain ⟨N2, ι2, cs2, H2, u2, T2, E2, L2, len2, k2⟩ := packC_sound (c := c) (cn := cn) (ms2 := ms2) T h hrl hm hu ha
        refine ⟨N2, ι2, cstOk cn.h k :: cs2, H2, ?_, T2, E2, LsR.cons.2 ⟨⟨v, ev, L1.ext E2⟩, L2⟩, by simp [len2], k2⟩
        simp only [unpackC, u2]
      · cases h

theorem two_del {c0 c cn : Cx} (T : Two B c0 c cn) (l : Nat) : Two B c0 ⟨c.ι, c.h.del l, c.w, c.N⟩ cn := by
  obtain ⟨e, r⟩ := step_forget T.hr (c.h.del l) (fun _ h => h) (fun l' o h => (del_obj h).2) c.N (fun _ h => h) (fun l' o g ho hb => T.hr.own l' o g (del_obj ho).2 hb) T.hr.base
  exact ⟨T.ext.trans e, r, T.hn, T.w, T.wn, T.N, T.ι, fun l1 o1 l2 o2 g h1 => T.dis l1 o1 l2 o2 g (del_obj h1).2, T.box, fun l' ro cs ho => T.same l' ro cs (del_obj ho).2⟩

theorem packC_box : ∀ {cells : List Cell} {xs ys : List Lf} {h h1 : Heap} {l : Nat} {ro : Bool} {cs : List Lf}, packC cells xs h = some (ys, h1) → h.obj l = some (.box ro cs) → h1.obj l = some (.box ro cs)
  | [], [], ys, h, h1, l, ro, cs, e, ho => by simp only [packC, Option.some.injEq, Prod.mk.injEq] at e; rw [← e.2]; exact ho
  | [], _ :: _, _, _, _, _, _, _, e, _ => by simp [packC] at e
  | .v :: _, [], _, _, _, _, _, _, e, _ => by simp [packC] at e
  | .row _ _ :: _, [], _, _, _, _, _, _, e, _ => by simp [packC] at e
  | .cst _ :: _, [], _, _, _, _, _, _, e, _ => by simp [packC] at e
  | .v :: cells, x :: xs, ys, h, h1, l, ro, cs, e, ho => by
    simp only [packC] at e
    split at e
    · rename_i zs h3 hrest
      simp only [Option.some.injEq, Prod.mk.injEq] at e
      rw [← e.2]
      exact packC_box hrest (frz_box h x l ro cs ho)
    · cases e
  | .row l' t :: cells, x :: xs, ys, h, h1, l, ro, cs, e, ho => by
    simp only [packC] at e
    split at e
    · rename_i y h2 hf
      split at e
      · rename_i zs h3 hrest
        simp only [Option.some.injEq, Prod.mk.injEq] at e
        rw [← e.2]
        refine packC_box hrest ?_
        unfold takeRow at hf
        split at hf
        · split at hf
          · rename_i l2 e' t' xs' h'
            split at hf
            · simp only [Option.some.injEq, Prod.mk.injEq] at hf
              rw [← hf.2]
              simp only [Heap.del, upd]
              split
              · rename_i e2; subst e2; rw [ho] at h'; cases h'
              · exact ho
            · cases hf
          · cases hf
        · simp only [Option.some.injEq, Prod.mk.injEq] at hf
          rw [← hf.2]; exact ho
        · cases hf
      · cases e
    · cases e
  | .cst k :: cells, x :: xs, ys, h, h1, l, ro, cs, e, ho => by
    simp only [packC] at e
    split at e
    · exact packC_box e ho
    · cases e

theorem apart_append {a b : List Nat} (h : apartL (a ++ b) = true) : apartL a = true ∧ apartL b = true ∧ ∀ x ∈ a, x ∉ b := by
  induction a with
  | nil => exact ⟨rfl, h, by simp⟩
  | cons x r ih =>
    simp only [List.cons_append, apartL, Bool.and_eq_true, Bool.not_eq_true', List.contains_eq_mem, decide_eq_false_iff_not, List.mem_append, not_or] at h
    obtain ⟨⟨h1, h2⟩, h3⟩ := h
    obtain ⟨i1, i2, i3⟩ := ih h3
    refine ⟨by simp [apartL, h1, i1], i2, ?_⟩
    intro y hy
    rcases List.mem_cons.1 hy with rfl | hy
    · exact h2
    · exact i3 y hy

theorem packE_sound {c0 : Cx} (hr0 : HR B c0) {env : Nat → SV} {a : Act} (henv : ∀ i, SVR c0 (env i) (a.tmps.getD i undef)) : ∀ {ents : List Ent} {c cn : Cx} {ys ms : List Lf} {e : Nat → SV}, Two B c0 c cn → packE env ents c.h = some ys → LeqL ms ys →
    (∀ i, SVR cn (e i) (a.tmps.getD i undef)) → (∀ l ∈ locsE ents, cn.h.used l = false) → apartL (locsE ents) = true →
    ∃ N' ι', HR B ⟨ι', (unpackE ents ms e cn.h).2, cn.w, N'⟩ ∧ (∀ i, SVR ⟨ι', (unpackE ents ms e cn.h).2, cn.w, N'⟩ ((unpackE ents ms e cn.h).1 i) (a.tmps.getD i undef)) ∧ ∀ l ro cs, (unpackE ents ms e cn.h).2.obj l = some (.box ro cs) → ι' l = c0.ι l
  | [], c, cn, ys, ms, e, T, h, hm, he, hu, ha => ⟨cn.N, cn.ι, T.hn, he, fun l ro cs h => (T.box l ro cs h).2⟩
  | .sv i :: r, c, cn, ys, ms, e, T, h, hm, he, hu, ha => by
    simp only [packE] at h
    split at h
    · rename_i x hx
      cases hf : frz c.h x with
      | mk y h2 =>
        simp only [hf] at h
        split at h
        · rename_i zs hrest
          simp only [Option.some.injEq] at h
          subst h
          cases ms with
          | nil => exact hm.elim
          | cons m ms =>
            have hv : LR c0 x (a.tmps.getD i undef) := by have := henv i; rw [hx] at this; exact this
            obtain ⟨N1, T1, E1, L1⟩ := two_frz T hf (hv.ext T.ext)
            have L2 : LR ⟨cn.ι, cn.h, cn.w, N1⟩ m (a.tmps.getD i undef) := leq_LR (c := ⟨c.ι, h2, c.w, N1⟩) (cn := ⟨cn.ι, cn.h, cn.w, N1⟩) (T.wn.trans T.w.symm) rfl hm.1 L1
            exact packE_sound hr0 henv (ents := r) (c := ⟨c.ι, h2, c.w, N1⟩) (cn := ⟨cn.ι, cn.h, cn.w, N1⟩) T1 hrest hm.2 (fun j => by
              by_cases ej : j = i
              · subst ej; simp only [upd, if_true]; exact L2
              · simp only [upd, if_neg ej]; exact (he j).ext E1) hu ha
        · cases h
    · cases h
  | .sa i n :: r, c, cn, ys, ms, e, T, h, hm, he, hu, ha => by
    simp only [packE] at h
    split at h
    · rename_i cs hx
      split at h
      · rename_i hn
        -- leaf by leaf
        have hv : SVR c0 (.ag cs) (a.tmps.getD i undef) := by have := henv i; rw [hx] at this; exact this
        obtain ⟨vs, ev, hvs, hls⟩ := hv
        have key : ∀ (cs : List Lf) {c cn : Cx} {ys ms : List Lf} {h1 : Heap} {g : Nat → Option Value}, Two B c0 c cn → frzAll c.h cs = (ys, h1) → LsR c0 cs g → LeqL ms ys →
            ∃ N', Two B c0 ⟨c.ι, h1, c.w, N'⟩ ⟨cn.ι, cn.h, cn.w, N'⟩ ∧ Ext cn ⟨cn.ι, cn.h, cn.w, N'⟩ ∧ LsR ⟨cn.ι, cn.h, cn.w, N'⟩ ms g := by
          intro cs
          induction cs with
          | nil =>
            intro c cn ys ms h1 g T h hl hm
            simp only [frzAll, Prod.mk.injEq] at h
            obtain ⟨rfl, rfl⟩ := h
            cases ms with
            | cons _ _ => exact hm.elim
            | nil =>
              exact ⟨c.N, (two_eta T).1, (two_eta T).2, LsR.nil _ _⟩
          | cons x r ih =>
            intro c cn ys ms h1 g T h hl hm
            cases hf : frz c.h x with
            | mk y h2 =>
              cases hg : frzAll h2 r with
              | mk zs h3 =>
                simp only [frzAll, hf, hg, Prod.mk.injEq] at h
                obtain ⟨rfl, rfl⟩ := h
                cases ms with
                | nil => exact hm.elim
                | cons m ms =>
                  obtain ⟨⟨v, e1, hv⟩, hrl⟩ := LsR.cons.1 hl
                  obtain ⟨N1, T1, E1, L1⟩ := two_frz T hf (hv.ext T.ext)
                  have L2 : LR ⟨cn.ι, cn.h, cn.w, N1⟩ m v := leq_LR (c := ⟨c.ι, h2, c.w, N1⟩) (cn := ⟨cn.ι, cn.h, cn.w, N1⟩) (T.wn.trans T.w.symm) rfl hm.1 L1
                  obtain ⟨N2, T2, E2, L3⟩ := ih (c := ⟨c.ι, h2, c.w, N1⟩) (cn := ⟨cn.ι, cn.h, cn.w, N1⟩) T1 hg hrl hm.2
                  exact ⟨N2, T2, E1.trans E2, LsR.cons.2 ⟨⟨v, e1, L2.ext E2⟩, L3⟩⟩
        cases hf : frzAll c.h cs with
        | mk y h2 =>
          simp only [hf] at h
          split at h
          · rename_i zs hrest
            simp only [Option.some.injEq] at h
            subst h
            rw [LeqL.append] at hm
            obtain ⟨N1, T1, E1, L1⟩ := key cs T hf hls hm.1
            have hyl : y.length = n := by
              have h1 : ∀ (cs : List Lf) (h : Heap), (frzAll h cs).1.length = cs.length := by
                intro cs
                induction cs with
                | nil => intro h; rfl
                | cons x r ih => intro h; simp only [frzAll, List.length_cons, ih]
              have := h1 cs c.h
              rw [hf] at this
              simp only at this
              rw [this, hn]
            rw [hyl] at hm L1
            have htl : (ms.take n).length = n := by rw [hm.1.length, hyl]
            exact packE_sound hr0 henv (ents := r) (c := ⟨c.ι, h2, c.w, N1⟩) (cn := ⟨cn.ι, cn.h, cn.w, N1⟩) T1 hrest hm.2 (fun j => by
              by_cases ej : j = i
              · subst ej; simp only [upd, if_true]; exact ⟨vs, ev, by rw [htl, hvs, hn], L1⟩
              · simp only [upd, if_neg ej]; exact (he j).ext E1) hu ha
          · cases h
      · cases h
    · cases h
  | .row i l t :: r, c, cn, ys, ms, e, T, h, hm, he, hu, ha => by
    simp only [packE] at h
    split at h
    · rename_i x hx
      split at h
      · rename_i y h2 hf
        split at h
        · rename_i zs hrest
          simp only [Option.some.injEq] at h
          subst h
          cases ms with
          | nil => exact hm.elim
          | cons m ms =>
            have hv : LR c0 x (a.tmps.getD i undef) := by have := henv i; rw [hx] at this; exact this
            simp only [locsE, apartL, Bool.and_eq_true, Bool.not_eq_true', List.contains_eq_mem, decide_eq_false_iff_not] at ha
            obtain ⟨ι1, T1, E1, L1, k1⟩ := two_row T hf (hv.ext T.ext) hm.1 (hu l (by simp [locsE]))
            exact packE_sound hr0 henv (ents := r) (c := ⟨c.ι, h2, c.w, c.N⟩) (cn := ⟨ι1, rowAtL cn.h l t m, cn.w, cn.N⟩) T1 hrest hm.2 (fun j => by
              by_cases ej : j = i
              · subst ej; simp only [upd, if_true]; exact L1
              · simp only [upd, if_neg ej]; exact (he j).ext E1) (fun l' hl' => by
                have hne : l' ≠ l := fun e' => ha.1 (e' ▸ hl')
                simp only
                rw [k1 l' hne]
                exact hu l' (by simp [locsE, hl'])) ha.2
        · cases h
      · cases h
    · cases h
  | .cst i x :: r, c, cn, ys, ms, e, T, h, hm, he, hu, ha => by
    simp only [packE] at h
    split at h
    · rename_i y hy
      split at h
      · rename_i hs
        have hv : LR c0 y (a.tmps.getD i undef) := by have := henv i; rw [hy] at this; exact this
        have L1 := two_cst T hs hv
        exact packE_sound hr0 henv (ents := r) (c := c) (cn := cn) T h hm (fun j => by
          by_cases ej : j = i
          · subst ej; simp only [upd, if_true]; exact L1
          · simp only [upd, if_neg ej]; exact he j) hu ha
      · cases h
    · cases h
  | .bx l ro cells :: r, c, cn, ys, ms, e, T, h, hm, he, hu, ha => by
    simp only [packE] at h
    split at h
    · rename_i ro' cs ho
      split at h
      · cases h
      · rename_i hro
        split at h
        · rename_i ys1 h2 hf
          split at h
          · rename_i zs hrest
            simp only [Option.some.injEq] at h
            subst h
            rw [LeqL.append] at hm
            simp only [locsE] at ha hu
            obtain ⟨a1, a2, a3⟩ := apart_append ha
            simp only [apartL, Bool.and_eq_true, Bool.not_eq_true', List.contains_eq_mem, decide_eq_false_iff_not] at a2
            have ho0 := T.same l ro' cs ho
            obtain ⟨u0, g, hι, hW, vs, Ty', hg, hsz, hls⟩ := hr0.obj l _ ho0
            have hul : cn.h.used l = false := hu l (by simp)
            obtain ⟨N2, ι2, cs2, H2, e2, T2, E2, L2, len2, k2⟩ := packC_sound (ms2 := ms.drop ys1.length) T hf hls hm.1 (fun l' hl' => hu l' (by simp [hl'])) a1
            rw [List.take_append_drop] at e2
            have hlc : l ∉ locsC cells := fun h => a3 l h (by simp)
            have hι2 : c.ι l = .pointer (some ⟨g, 0, none⟩) := by rw [T.ι]; exact hι
            have hob2 := packC_box hf ho
            have hblk : blk (c.ι l) = some g := by rw [hι2]; rfl
            obtain ⟨e3, r3⟩ := step_add (hpin := fun _ _ v _ hp => hr0.pin l ro' cs v ho0 hp |> fun e => (congrFun T.ι l).trans e) (c := ⟨ι2, H2, cn.w, N2⟩) T2.hn l (by simp only; rw [k2 l hlc]; exact hul) (c.ι l) (fun g' hg' => by
                rw [hblk] at hg'
                simp only [Option.some.injEq] at hg'
                subst hg'
                exact ⟨T2.hr.own l _ g hob2 hblk, fun l' o' ho' hb' => T2.dis l _ l' o' g hob2 ho' hblk hb'⟩) (.box ro cs2)
              (fun ext => ⟨g, by simp only [upd, if_true]; exact hι2, fun hro' => hW (by
                cases hq : ro'
                · rfl
                · rw [hq, hro'] at hro; exact absurd rfl hro), vs, Ty', by simp only; rw [T.wn]; exact hg, by rw [hsz, len2], L2.ext ext⟩)
            have T3 := two_del T2 l
            have T4 : Two B c0 ⟨c.ι, h2.del l, c.w, N2⟩ ⟨upd ι2 l (c.ι l), H2.new l (.box ro cs2), cn.w, N2⟩ := by
              refine ⟨T3.ext, T3.hr, r3, T3.w, T3.wn, rfl, T3.ι, ?_, ?_, T3.same⟩
              · intro l1 o1 l2 o2 g1 ho1 ho2 hb1 hb2
                by_cases e' : l2 = l
                · subst e'
                  simp only [upd, if_true] at hb2
                  obtain ⟨hne, ho1'⟩ := del_obj ho1
                  exact hne (T2.hr.inj l1 l2 o1 _ g1 ho1' hob2 hb1 hb2)
                · simp only [Heap.new, upd, if_neg e'] at ho2 hb2
                  exact T3.dis l1 o1 l2 o2 g1 ho1 ho2 hb1 hb2
              · intro l2 ro2 cs3 ho2
                by_cases e' : l2 = l
                · subst e'
                  exact ⟨⟨ro', cs, ho0⟩, by simp only [upd, if_true]; exact congrFun T.ι l2⟩
                · simp only [Heap.new, upd, if_neg e'] at ho2 ⊢
                  exact T3.box l2 ro2 cs3 ho2
            have hun : unpackE (.bx l ro cells :: r) ms e cn.h = unpackE r (ms.drop ys1.length) e (H2.new l (.box ro cs2)) := by simp only [unpackE, e2]
            rw [hun]
            exact packE_sound hr0 henv (ents := r) (c := ⟨c.ι, h2.del l, c.w, N2⟩) (cn := ⟨upd ι2 l (c.ι l), H2.new l (.box ro cs2), cn.w, N2⟩) T4 hrest hm.2 (fun j => ((he j).ext E2).ext e3) (fun l' hl' => by
              have hne : l' ≠ l := fun e' => a2.1 (e' ▸ hl')
              have hnc : l' ∉ locsC cells := fun h => a3 l' h (by simp [hl'])
              simp only [Heap.new, upd, if_neg hne]
              rw [k2 l' hnc]
              exact hu l' (by simp [hl'])) a2.2
          · cases h
        · cases h
    · cases h

theorem alEs_sound {c0 cn : Cx} (hr0 : HR B c0) (hrn : HR B cn) (hw : cn.w = c0.w) (hb : ∀ l ro cs, cn.h.obj l = some (.box ro cs) → cn.ι l = c0.ι l) {s : St} (hs : s.heap = c0.h) {a : Act} (henv : ∀ i, SVR c0 (s.env i) (a.tmps.getD i undef)) :
    ∀ {al : List (Nat × Nat × Nat)} {e : Nat → SV}, al.all (aliasOk s) = true → (∀ i, SVR cn (e i) (a.tmps.getD i undef)) → ∀ i, SVR cn (alEs cn.h al e i) (a.tmps.getD i undef)
  | [], e, _, he => he
  | q :: r, e, h, he => by
    simp only [List.all_cons, Bool.and_eq_true] at h
    refine fun i0 => alEs_sound hr0 hrn hw hb hs henv (al := r) (e := upd e q.1 (cellAt cn.h q.2.1 q.2.2)) h.2 (fun i => ?_) i0
    simp only [upd]
    split
    · rename_i ei
      subst ei
      unfold cellAt
      split
      · rename_i ro cs ho
        split
        · rename_i x hx
          obtain ⟨_, g, hι, _, vs, T, hg, _, hls⟩ := hrn.obj _ _ ho
          obtain ⟨v, hv, hL⟩ := hls _ _ hx
          have h1 := h.1
          unfold aliasOk at h1
          split at h1
          · rename_i k ro0 cs0 he0 ho0
            split at h1
            · rename_i k' e' t' xs' hc0 hk0
              have hkk : k' = k := by simpa using h1
              subst hkk
              rw [hs] at ho0 hk0
              obtain ⟨_, g0, hι0, _, vs0, T0, hg0, _, hls0⟩ := hr0.obj _ _ ho0
              rw [hb _ _ _ ho, hι0] at hι
              simp only [Value.pointer.injEq, Option.some.injEq, Addr.mk.injEq] at hι
              obtain ⟨rfl, _⟩ := hι
              rw [hw, hg0] at hg
              cases hg
              obtain ⟨v0, hv0, hL0⟩ := hls0 _ _ hc0
              rw [hv0] at hv
              simp only [Option.some.injEq] at hv
              subst hv
              have h2 := henv q.1
              rw [he0] at h2
              simp only [SVR, LR] at h2 hL0
              have e1 := h2.2.2 _ _ _ hk0
              have e2 := hL0.2.2 _ _ _ hk0
              simp only [SVR]
              rw [e1, ← e2]
              exact hL
            · cases h1
          · cases h1
        · trivial
      · trivial
    · exact he i

theorem pack_sound {nt : Nat} {s : St} {a : Act} {w : World} {A : Ann} {d : Den A.ty} (h : pack A s = some d) (hi : InvE B nt s a w) : InvE B nt (unpack A d) a w := by
  obtain ⟨ι, N, hi⟩ := hi
  unfold pack at h
  split at h
  · cases h
  · rename_i hap'
    have hap : ¬ (apartL (locsE A.ents) = false) := fun h => hap' (.inl h)
    have hal : A.al.all (aliasOk s) = true := by simpa using (fun h => hap' (.inr h))
    split at h
    · rename_i ls hp
      have hm := ofAll_leq h
      have hr := hi.heap
      have rn : HR B ⟨ι, emptyH, w, N⟩ := ⟨fun l o ho => by simp [emptyH] at ho, fun l o g ho => by simp [emptyH] at ho, fun l l' o o' g ho => by simp [emptyH] at ho, hr.keep, hr.base, hr.low, fun l ro cs v ho => by simp [emptyH] at ho⟩
      have T : Two B ⟨ι, s.heap, w, N⟩ ⟨ι, s.heap, w, N⟩ ⟨ι, emptyH, w, N⟩ := ⟨Ext.refl _, hr, rn, rfl, rfl, rfl, rfl, fun l o l' o' g _ ho => by simp [emptyH] at ho, fun l ro cs ho => by simp [emptyH] at ho, fun _ _ _ h => h⟩
      obtain ⟨N', ι', r', e', b'⟩ := packE_sound hr (a := a) hi.env T hp hm (e := fun _ => .lf .bad) (fun i => trivial) (fun l _ => rfl) (by simpa using hap)
      have hun : unpack A d = mkSt (alEs (unpackE A.ents (leaves A.ty d) (fun _ => .lf .bad) emptyH).2 A.al (unpackE A.ents (leaves A.ty d) (fun _ => .lf .bad) emptyH).1) (unpackE A.ents (leaves A.ty d) (fun _ => .lf .bad) emptyH).2 := rfl
      rw [hun]
      exact ⟨ι', N', hi.nt, hi.defers, r', alEs_sound hr r' rfl b' rfl hi.env hal e', fun i p sv hg => by simp [mkSt] at hg⟩
    · cases h
end
end Go.Eng


set_option linter.unusedVariables false
set_option linter.unusedSimpArgs false
namespace Go.Eng

/-! ### an operation touches its footprint alone -/
def mix (F : List Nat) (h h0 : Heap) : Heap := ⟨fun l => if F.contains l then h.obj l else h0.obj l, fun l => if F.contains l then h.used l else h0.used l⟩
theorem mix_obj {F : List Nat} {h h0 : Heap} {l : Nat} (hl : F.contains l = true) : (mix F h h0).obj l = h.obj l := by simp only [mix, hl, if_true]
theorem mix_used {F : List Nat} {h h0 : Heap} {l : Nat} (hl : F.contains l = true) : (mix F h h0).used l = h.used l := by simp only [mix, hl, if_true]
theorem Heap.ext' {a b : Heap} (h1 : ∀ l, a.obj l = b.obj l) (h2 : ∀ l, a.used l = b.used l) : a = b := by
  cases a; cases b; simp only [Heap.mk.injEq]; exact ⟨funext h1, funext h2⟩
theorem upd_if {α : Type} (f : Nat → α) (i : Nat) (v : α) (j : Nat) : upd f i v j = if j = i then v else f j := rfl
theorem mix_del {F : List Nat} {h h0 : Heap} {l : Nat} (hl : F.contains l = true) : (mix F h h0).del l = mix F (h.del l) h0 := by
  refine Heap.ext' (fun j => ?_) (fun j => rfl)
  by_cases e : j = l
  · subst e; simp only [mix, Heap.del, upd_if, hl, if_true]
  · simp only [mix, Heap.del, upd_if, if_neg e]
theorem mix_put {F : List Nat} {h h0 : Heap} {l : Nat} {o : Ob} (hl : F.contains l = true) : (mix F h h0).put l o = mix F (h.put l o) h0 := by
  refine Heap.ext' (fun j => ?_) (fun j => rfl)
  by_cases e : j = l
  · subst e; simp only [mix, Heap.put, upd_if, hl, if_true]
  · simp only [mix, Heap.put, upd_if, if_neg e]
theorem mix_new {F : List Nat} {h h0 : Heap} {l : Nat} {o : Ob} (hl : F.contains l = true) : (mix F h h0).new l o = mix F (h.new l o) h0 := by
  refine Heap.ext' (fun j => ?_) (fun j => ?_)
  · by_cases e : j = l
    · subst e; simp only [mix, Heap.new, upd_if, hl, if_true]
    · simp only [mix, Heap.new, upd_if, if_neg e]
  · by_cases e : j = l
    · subst e; simp only [mix, Heap.new, upd_if, hl, if_true]
    · simp only [mix, Heap.new, upd_if, if_neg e]
theorem mix_self (F : List Nat) (h : Heap) : mix F h h = h := by
  refine Heap.ext' (fun j => ?_) (fun j => ?_) <;> simp only [mix] <;> split <;> rfl

def clF (F : List Nat) (h : Heap) : Prop := ∀ l, F.contains l = true → obF F (h.obj l) = true
theorem svF_leaves {F : List Nat} {x : SV} (h : svF F x = true) : x.leaves.all (inF F) = true := by
  cases x with
  | lf y => simpa [SV.leaves, svF] using h
  | ag cs => exact h
  | tup xs => rfl

theorem clF_del {F : List Nat} {h : Heap} (c : clF F h) (l : Nat) : clF F (h.del l) := by
  intro j hj
  simp only [Heap.del, upd_if]
  split
  · rfl
  · exact c j hj
theorem clF_put {F : List Nat} {h : Heap} (c : clF F h) (l : Nat) {o : Ob} (ho : obF F (some o) = true) : clF F (h.put l o) := by
  intro j hj
  simp only [Heap.put, upd_if]
  split
  · exact ho
  · exact c j hj

theorem frz_mix {F : List Nat} {h h0 : Heap} {x : Lf} (hx : inF F x = true) : frz (mix F h h0) x = ((frz h x).1, mix F (frz h x).2 h0) := by
  cases x with
  | own l =>
    simp only [inF] at hx
    simp only [frz, mix_obj hx]
    split
    · rw [mix_del hx]
    · rfl
  | _ => rfl
theorem frz_in {F : List Nat} {h : Heap} {x : Lf} (hx : inF F x = true) : inF F (frz h x).1 = true := by
  cases x with
  | own l => simp only [frz]; split <;> rfl
  | _ => exact hx
theorem clF_frz {F : List Nat} {h : Heap} (c : clF F h) (x : Lf) : clF F (frz h x).2 := by
  cases x with
  | own l => simp only [frz]; split <;> first | exact clF_del c l | exact c
  | _ => exact c
theorem frzAll_mix {F : List Nat} {h0 : Heap} : ∀ {ls : List Lf} {h : Heap}, ls.all (inF F) = true → frzAll (mix F h h0) ls = ((frzAll h ls).1, mix F (frzAll h ls).2 h0)
  | [], h, _ => rfl
  | x :: r, h, hl => by
    simp only [List.all_cons, Bool.and_eq_true] at hl
    simp only [frzAll, frz_mix hl.1, frzAll_mix hl.2]
theorem frzAll_in {F : List Nat} : ∀ {ls : List Lf} {h : Heap}, ls.all (inF F) = true → (frzAll h ls).1.all (inF F) = true
  | [], h, _ => rfl
  | x :: r, h, hl => by
    simp only [List.all_cons, Bool.and_eq_true] at hl
    simp only [frzAll, List.all_cons, frz_in hl.1, frzAll_in hl.2, Bool.and_self]
theorem clF_frzAll {F : List Nat} : ∀ {ls : List Lf} {h : Heap}, clF F h → clF F (frzAll h ls).2
  | [], h, c => c
  | x :: r, h, c => by
    simp only [frzAll]
    exact clF_frzAll (clF_frz c x)

theorem loadO_mix {tab : Tab} {t : Nat} {F : List Nat} {h h0 : Heap} {x : SV} (hx : svF F x = true) : loadO tab t (mix F h h0) x = loadO tab t h x := by
  unfold loadO
  split
  · simp only [svF, inF] at hx; rw [mix_obj hx]
  · rfl
  · simp only [svF, inF] at hx; rw [mix_obj hx]
  · rfl
  · rfl

theorem storeO_mix {tab : Tab} {t : Nat} {F : List Nat} {h h0 : Heap} {a x : SV} (ha : svF F a = true) (hx : svF F x = true) : storeO tab t (mix F h h0) a x = (storeO tab t h a x).map fun h => mix F h h0 := by
  unfold storeO
  simp only
  split
  · rfl
  · split
    · rename_i l off
      simp only [svF, inF] at ha
      rw [mix_obj ha]
      split
      · split
        · rw [mix_put ha]; rfl
        · rfl
      · rfl
    · rename_i l i off
      simp only [svF, inF] at ha
      simp only [frzAll_mix (svF_leaves hx), mix_obj ha]
      split
      · split
        · rfl
        · split
          · rw [mix_put ha]; rfl
          · rfl
      · rfl
    · rfl

theorem listOf_mix {τ : Ty} {F : List Nat} {h0 : Heap} : ∀ {xs : List SV} {h : Heap}, (∀ x ∈ xs, svF F x = true) → listOf τ xs (mix F h h0) = (listOf τ xs h).map fun q => (q.1, mix F q.2 h0)
  | [], h, _ => rfl
  | x :: r, h, hx => by
    simp only [listOf, frzAll_mix (svF_leaves (hx x (by simp)))]
    split
    · rfl
    · split
      · rw [listOf_mix (fun y hy => hx y (by simp [hy]))]
        cases listOf τ r (frzAll h x.leaves).2 <;> rfl
      · rfl

theorem capsO_mix {al : List SV} {F : List Nat} {h h0 : Heap} (c : clF F h) : ∀ {caps : List Cap} {ls : List Nat}, (∀ l ∈ ls, F.contains l = true) → capsO (mix F h h0) al caps ls = capsO h al caps ls
  | [], [], _ => rfl
  | [], _ :: _, _ => rfl
  | _ :: _, [], _ => rfl
  | cap :: r, l :: ls, hl => by
    have hl1 := hl l (by simp)
    have e : capO (mix F h h0) al l cap = capO h al l cap := by
      cases cap with
      | dat m => simp only [capO, mix_obj hl1]
      | ptr j =>
        simp only [capO, mix_obj hl1]
        split
        · rename_i ro l' ho
          have := c l hl1
          rw [ho] at this
          simp only [obF, List.all_cons, List.all_nil, Bool.and_true, inF] at this
          rw [mix_obj this]
        · rfl
    have e2 := capsO_mix (al := al) (h0 := h0) c (caps := r) (ls := ls) (fun l' h' => hl l' (by simp [h']))
    simp only [capsO, e, e2]
theorem phO_mix {F : List Nat} {h h0 : Heap} : ∀ {ins : List PK} {xs : List SV}, (∀ x ∈ xs, svF F x = true) → phO (mix F h h0) ins xs = phO h ins xs := by
  have one : ∀ x, svF F x = true → phL (mix F h h0) x = phL h x := by
    intro x hx
    unfold phL
    split
    · simp only [svF, inF] at hx; rw [mix_obj hx]
    · rfl
  intro ins
  induction ins with
  | nil => intro xs _; simp [phO]
  | cons p ps ih =>
    intro xs hx
    cases xs with
    | nil => unfold phO; split <;> simp_all
    | cons x xs =>
      have ih' := ih (xs := xs) (fun y hy => hx y (by simp [hy]))
      have hx1 := one x (hx x (by simp))
      unfold phO
      split
      · rename_i h1 h2
        simp only [List.cons.injEq] at h1 h2
        obtain ⟨rfl, rfl⟩ := h1
        obtain ⟨rfl, rfl⟩ := h2
        rw [hx1, ih']
      · rename_i h1 h2
        simp only [List.cons.injEq] at h1 h2
        obtain ⟨rfl, rfl⟩ := h1
        obtain ⟨rfl, rfl⟩ := h2
        exact ih'
      · rfl
theorem phO_in {F : List Nat} {h : Heap} (c : clF F h) : ∀ {ins : List PK} {xs : List SV}, (∀ x ∈ xs, svF F x = true) → ∀ x ∈ phO h ins xs, svF F x = true := by
  have one : ∀ x, svF F x = true → svF F (phL h x) = true := by
    intro x hx
    unfold phL
    split
    · split
      · rename_i ro y ho
        simp only [svF, inF] at hx
        have := c _ hx
        rw [ho] at this
        simpa [obF, svF] using this
      · rfl
    · rfl
  intro ins
  induction ins with
  | nil => intro xs _ x hx; simp [phO] at hx
  | cons p ps ih =>
    intro xs hx
    cases xs with
    | nil => intro x h'; unfold phO at h'; split at h' <;> simp_all
    | cons x xs =>
      have ih' := ih (xs := xs) (fun y hy => hx y (by simp [hy]))
      have hx1 := one x (hx x (by simp))
      intro y hy
      unfold phO at hy
      split at hy
      · rename_i h1 h2
        simp only [List.cons.injEq] at h1 h2
        obtain ⟨rfl, rfl⟩ := h1
        obtain ⟨rfl, rfl⟩ := h2
        rcases List.mem_cons.1 hy with rfl | hy
        · exact hx1
        · exact ih' y hy
      · rename_i h1 h2
        simp only [List.cons.injEq] at h1 h2
        obtain ⟨rfl, rfl⟩ := h1
        obtain ⟨rfl, rfl⟩ := h2
        exact ih' y hy
      · simp at hy
theorem argsO_mix {al : List SV} {F : List Nat} {h0 : Heap} : ∀ {ins : List PK} {xs : List SV} {h : Heap}, (∀ x ∈ xs, svF F x = true) → clF F h →
    argsO al (mix F h h0) ins xs = ((argsO al h ins xs).map fun q => (q.1, mix F q.2.1 h0, q.2.2)) ∧ ∀ q, argsO al h ins xs = some q → ∀ l ∈ q.2.2, F.contains l.2 = true
  | [], [], h, _, _ => ⟨rfl, fun q e l hl => by simp only [argsO, Option.some.injEq] at e; subst e; simp at hl⟩
  | [], _ :: _, h, _, _ => ⟨rfl, fun q e => by simp [argsO] at e⟩
  | .v t :: ps, [], h, _, _ => ⟨rfl, fun q e => by simp [argsO] at e⟩
  | .p ro t :: ps, [], h, _, _ => ⟨rfl, fun q e => by simp [argsO] at e⟩
  | .f n :: ps, [], h, _, _ => ⟨rfl, fun q e => by simp [argsO] at e⟩
  | .q how caps :: ps, [], h, _, _ => ⟨rfl, fun q e => by simp [argsO] at e⟩
  | .q how caps :: ps, x :: xs, h, hx, c => by
    obtain ⟨ih1, ih2⟩ := argsO_mix (al := al) (F := F) (h0 := h0) (ins := ps) (xs := xs) (h := h) (fun y hy => hx y (by simp [hy])) c
    simp only [argsO, ih1]
    cases hl : clLs how x with
    | none => exact ⟨rfl, fun q e => by cases e⟩
    | some l0 =>
      have hl0 : ∀ l ∈ l0, F.contains l = true := by
        have h1 := hx x (by simp)
        unfold clLs at hl
        split at hl
        · simp only [Option.some.injEq] at hl
          subst hl
          intro l hl
          simp only [List.mem_singleton] at hl
          subst hl
          exact h1
        · split at hl
          · simp only [Option.some.injEq] at hl
            subst hl
            simp only [svF, inF] at h1
            exact fun l hl => List.all_eq_true.1 h1 l hl
          · cases hl
        · cases hl
      simp only [capsO_mix c hl0]
      cases hc : capsO h al caps l0 with
      | none => exact ⟨rfl, fun q e => by cases e⟩
      | some cs =>
        cases hq : argsO al h ps xs with
        | none => exact ⟨rfl, fun q e => by cases e⟩
        | some q =>
          simp only [Option.map_some]
          split
          · exact ⟨rfl, fun q e => by cases e⟩
          · refine ⟨rfl, fun q' e => ?_⟩
            simp only [Option.some.injEq] at e
            subst e
            intro l' hl'
            rcases List.mem_append.1 hl' with hl' | hl'
            · obtain ⟨l, h2, rfl⟩ := List.mem_map.1 hl'
              exact hl0 l h2
            · exact ih2 q hq l' hl'
  | .f n :: ps, x :: xs, h, hx, c => by
    cases x with
    | lf y =>
      cases y with
      | fn m =>
        simp only [argsO]
        split
        · exact argsO_mix (fun y hy => hx y (by simp [hy])) c
        · exact ⟨rfl, fun q e => by cases e⟩
      | _ => exact ⟨rfl, fun q e => by simp [argsO] at e⟩
    | _ => exact ⟨rfl, fun q e => by simp [argsO] at e⟩
  | .v t :: ps, x :: xs, h, hx, c => by
    obtain ⟨ih1, ih2⟩ := argsO_mix (al := al) (F := F) (h0 := h0) (ins := ps) (xs := xs) (h := (frzAll h x.leaves).2) (fun y hy => hx y (by simp [hy])) (clF_frzAll c)
    simp only [argsO]
    rw [frzAll_mix (svF_leaves (hx x (by simp)))]
    split
    · simp only [ih1]
      cases hq : argsO al (frzAll h x.leaves).2 ps xs with
      | none => exact ⟨rfl, fun q e => by cases e⟩
      | some q =>
        refine ⟨rfl, fun q' e => ?_⟩
        simp only [Option.some.injEq] at e
        subst e
        exact ih2 q hq
    · exact ⟨rfl, fun q e => by cases e⟩
  | .p ro t :: ps, x :: xs, h, hx, c => by
    have h1 := hx x (by simp)
    cases x with
    | lf y =>
      cases y with
      | box l o =>
        cases o with
        | succ o => exact ⟨rfl, fun q e => by simp [argsO] at e⟩
        | zero =>
          simp only [svF, inF] at h1
          simp only [argsO, mix_obj h1]
          cases ho : h.obj l with
          | none => exact ⟨rfl, fun q e => by cases e⟩
          | some ob =>
            cases ob with
            | row _ _ _ => exact ⟨rfl, fun q e => by cases e⟩
            | box ro' cs =>
              have hcs : cs.all (inF F) = true := by have := c l h1; rw [ho] at this; exact this
              have hc1 : clF F ((frzAll h cs).2.put l (.box ro' (frzAll h cs).1)) := clF_put (clF_frzAll c) l (frzAll_in hcs)
              obtain ⟨ih1, ih2⟩ := argsO_mix (al := al) (F := F) (h0 := h0) (ins := ps) (xs := xs) (fun y hy => hx y (by simp [hy])) hc1
              simp only
              split
              · exact ⟨rfl, fun q e => by cases e⟩
              · simp only [frzAll_mix hcs, mix_put h1, ih1]
                cases hq : argsO al ((frzAll h cs).2.put l (.box ro' (frzAll h cs).1)) ps xs with
                | none => exact ⟨rfl, fun q e => by cases e⟩
                | some q =>
                  simp only [Option.map_some]
                  split
                  · exact ⟨rfl, fun q e => by cases e⟩
                  · refine ⟨rfl, fun q' e => ?_⟩
                    simp only [Option.some.injEq] at e
                    subst e
                    intro l' hl'
                    rcases List.mem_cons.1 hl' with rfl | hl'
                    · exact h1
                    · exact ih2 q hq l' hl'
      | _ => exact ⟨rfl, fun q e => by simp [argsO] at e⟩
    | _ => exact ⟨rfl, fun q e => by simp [argsO] at e⟩

theorem putStates_mix {F : List Nat} {h0 : Heap} : ∀ {ls : List Nat} {ts : List Ty} {cs : List Lf} {h : Heap}, (∀ l ∈ ls, F.contains l = true) → putStates (mix F h h0) ls ts cs = mix F (putStates h ls ts cs) h0
  | [], _, _, _, _ => rfl
  | _ :: _, [], _, _, _ => rfl
  | l :: ls, t :: ts, cs, h, hl => by
    simp only [putStates, mix_put (hl l (by simp))]
    exact putStates_mix (fun l' h' => hl l' (by simp [h']))
theorem outsO_mix {F : List Nat} {h0 : Heap} {dst : Nat} : ∀ {outs : List OK} {k : Nat} {cs : List Lf} {h : Heap}, (∀ j, j < outs.length → F.contains (dst + 1000 * (k + j)) = true) → outsO dst k outs cs (mix F h h0) = ((outsO dst k outs cs h).1, mix F (outsO dst k outs cs h).2 h0)
  | [], _, _, _, _ => rfl
  | .v t :: r, k, cs, h, hj => by
    have ih := outsO_mix (F := F) (h0 := h0) (dst := dst) (outs := r) (k := k + 1) (cs := cs.drop t.size) (h := h) (fun j h' => by have := hj (j + 1) (by simp; omega); rwa [show k + (j + 1) = k + 1 + j by omega] at this)
    simp only [outsO, ih]
  | .o e t :: r, k, cs, h, hj => by
    have h0' := hj 0 (by simp)
    simp only [Nat.add_zero] at h0'
    simp only [outsO]
    split
    · rename_i t' xs cs'
      have ih := outsO_mix (F := F) (h0 := h0) (dst := dst) (outs := r) (k := k + 1) (cs := cs') (h := h.new (dst + 1000 * k) (.row e t' xs)) (fun j h' => by have := hj (j + 1) (by simp; omega); rwa [show k + (j + 1) = k + 1 + j by omega] at this)
      simp only [mix_new h0', ih]
    · rfl

def Out.mapH (g : Heap → Heap) : Out → Out
  | .fail => .fail
  | .ok t sv h => .ok t sv (h.map g)
  | .call t q x f => .call t q x fun r => ((f r).1, (f r).2.map g)

theorem quietCall_mix {F : List Nat} {h h0 : Heap} {c : Con} {args : List SV} (hx : ∀ x ∈ args, svF F x = true) : quietCall (mix F h h0) c args = quietCall h c args := by
  unfold quietCall
  congr 1
  rw [Bool.eq_iff_iff]
  simp only [List.all_eq_true, Bool.and_eq_true]
  have key : ∀ x ∈ args, ∀ y ∈ x.leaves, ∀ l o, y = .box l o → (mix F h h0).obj l = h.obj l := by
    intro x hxm y hy l o e
    have := List.all_eq_true.1 (svF_leaves (hx x hxm)) y hy
    rw [e] at this
    exact mix_obj this
  constructor
  · intro H x hxm y hy
    obtain ⟨a, b⟩ := H x hxm y hy
    refine ⟨a, ?_⟩
    cases y with
    | box l o => simp only at b ⊢; rw [key x hxm _ hy l o rfl] at b; exact b
    | _ => exact b
  · intro H x hxm y hy
    obtain ⟨a, b⟩ := H x hxm y hy
    refine ⟨a, ?_⟩
    cases y with
    | box l o => simp only at b ⊢; rw [key x hxm _ hy l o rfl]; exact b
    | _ => exact b

theorem callO_mix {Γ : Ctx} {F : List Nat} {h h0 : Heap} {dst f : Nat} {args : List SV} (hx : ∀ x ∈ args, svF F x = true) (c : clF F h) (hd : ∀ con, Γ (keyOf f args) = some con → ∀ k, k < con.outs.length → F.contains (dst + 1000 * k) = true) :
    callO Γ (mix F h h0) dst f args = (callO Γ h dst f args).mapH fun h => mix F h h0 := by
  unfold callO
  split
  · rfl
  split
  · rfl
  · rename_i con hcon
    have eal : alO (mix F h h0) con.ins args = alO h con.ins args := by simp only [alO, phO_mix hx]
    have hal : ∀ x ∈ alO h con.ins args, svF F x = true := by
      intro x h1
      rcases List.mem_append.1 h1 with h1 | h1
      · exact phO_in c hx x h1
      · exact hx x h1
    obtain ⟨e1, e2⟩ := argsO_mix (al := alO h con.ins args) (F := F) (h0 := h0) (ins := con.ins) (xs := alO h con.ins args) (h := h) hal c
    rw [phO_mix hx, eal, e1]
    split
    · rfl
    cases hq : argsO (alO h con.ins args) h con.ins (alO h con.ins args) with
    | none => rfl
    | some q =>
      obtain ⟨cs, h1, ls⟩ := q
      simp only [Option.map_some]
      split
      · rfl
      · have hu : ((List.range con.outs.length).all fun k => !(mix F h1 h0).used (dst + 1000 * k)) = ((List.range con.outs.length).all fun k => !h1.used (dst + 1000 * k)) := by
          rw [Bool.eq_iff_iff]
          simp only [List.all_eq_true, List.mem_range]
          constructor <;> intro H k hk <;> have := H k hk <;> rw [mix_used (hd con hcon k hk)] at * <;> exact this
        rw [hu, quietCall_mix hal]
        split
        · rfl
        · simp only [Out.mapH]
          congr 1
          funext r
          have hls : ∀ l ∈ rwOf ls, F.contains l = true := by
            intro l hl
            obtain ⟨q, hq', rfl⟩ := List.mem_map.1 hl
            exact e2 _ hq q (List.mem_filter.1 hq').1
          rw [putStates_mix hls, outsO_mix (fun j hj => by have := hd con hcon j hj; simpa using this)]
          rfl

theorem lenO_mix {k : TK} {x : SV} {F : List Nat} {h h0 : Heap} (hx : svF F x = true) : lenO k x (mix F h h0) = lenO k x h := by
  unfold lenO
  split <;> first | rfl | (simp only [svF, inF] at hx; rw [mix_obj hx])
theorem seqOf_mix {τ : Ty} {x : SV} {F : List Nat} {h h0 : Heap} (hx : svF F x = true) : seqOf τ (mix F h h0) x = seqOf τ h x := by
  unfold seqOf
  split <;> first | rfl | (simp only [svF, inF] at hx; rw [mix_obj hx])
theorem ownSeq_mix {e : Nat} {τ : Ty} {x : SV} {F : List Nat} {h h0 : Heap} (hx : svF F x = true) : ownSeq e τ (mix F h h0) x = (ownSeq e τ h x).map fun q => (q.1, mix F q.2 h0) := by
  unfold ownSeq
  split
  · simp only [svF, inF] at hx
    rw [mix_obj hx, mix_del hx]
    split
    · split
      · split <;> rfl
      · rfl
    · rfl
  · rfl
  · rfl
theorem liveP_mix {x : SV} {F : List Nat} {h h0 : Heap} (hx : svF F x = true) : liveP (mix F h h0) x = liveP h x := by
  unfold liveP
  split <;> first | rfl | (simp only [svF, inF] at hx; rw [mix_obj hx])
theorem appendO_mix {tab : Tab} {F : List Nat} {h h0 : Heap} {dst T T2 : Nat} {s x : SV} (hs : svF F s = true) (hx : svF F x = true) (hd : F.contains dst = true) :
    appendO tab (mix F h h0) dst T T2 s x = (appendO tab h dst T T2 s x).mapH fun h => mix F h h0 := by
  unfold appendO
  rw [mix_used hd]
  split
  · rfl
  · split
    · rfl
    · split
      · rw [ownSeq_mix hs, seqOf_mix hx]
        rename_i e _
        cases ownSeq e (tab.at e).ty h s with
        | none => rfl
        | some q =>
          cases seqOf (tab.at e).ty h x with
          | none => rfl
          | some ys => simp only [Option.map_some, Out.mapH, mix_new hd]
      · rfl
theorem copyO_mix {tab : Tab} {F : List Nat} {h h0 : Heap} {T : Nat} {s x : SV} (hs : svF F s = true) (hx : svF F x = true) :
    copyO tab (mix F h h0) T s x = (copyO tab h T s x).mapH fun h => mix F h h0 := by
  unfold copyO
  split
  · split
    · rfl
    · split
      · rename_i l
        have hl : F.contains l = true := hs
        rw [mix_obj hl, seqOf_mix hs, seqOf_mix hx]
        split
        · simp only [Out.mapH, Option.map_some, mix_put hl]
        · rfl
      · rfl
  · rfl
theorem sliceO_mix {tab : Tab} {F : List Nat} {h h0 : Heap} {T : Nat} {x : SV} {lo hi : Option SV} (hx : svF F x = true) :
    sliceO tab T (mix F h h0) x lo hi = (sliceO tab T h x lo hi).mapH fun h => mix F h h0 := by
  unfold sliceO
  split
  · split
    · rfl
    · split <;> rfl
  · rename_i x _
    have hx' : inF F x = true := hx
    simp only [frz_mix hx']
    split
    · split
      · split
        · simp only [Out.mapH]
          congr 1
          cases x <;> rfl
        · rfl
      · rfl
    · rfl
  · rfl
theorem convO_mix {tab : Tab} {F : List Nat} {h h0 : Heap} {a b : Nat} {x : SV} (hx : svF F x = true) :
    convO tab a b (mix F h h0) x = (convO tab a b h x).mapH fun h => mix F h h0 := by
  unfold convO
  split
  · rfl
  · split
    · split <;> rfl
    · split
      · rfl
      · split <;> rfl
      · rfl
    · split
      · split
        · rw [seqOf_mix hx]
          split <;> rfl
        · rfl
      · rfl
end Go.Eng


set_option linter.unusedVariables false
set_option linter.unusedSimpArgs false
namespace Go.Eng

theorem arith_mapH {op : BinOp} {k : IntKind} {a b : Int} {g : Heap → Heap} : (arith op k a b).mapH g = arith op k a b := by cases op <;> rfl
theorem shiftO_mapH {op : BinOp} {k : IntKind} {a b : Int} {g : Heap → Heap} : (shiftO op k a b).mapH g = shiftO op k a b := by cases op <;> rfl
theorem binO_mapH {tab : Tab} {op : BinOp} {t : Nat} {a b : SV} {g : Heap → Heap} : (binO tab op t a b).mapH g = binO tab op t a b := by
  unfold binO
  split
  · exact shiftO_mapH
  · exact shiftO_mapH
  · split
    · exact arith_mapH
    · rfl
  · split <;> rfl
  · split <;> rfl
  · rfl
  · rfl
  · split <;> rfl
  · split <;> rfl
  · rfl

theorem opnds_mem {ρ : Operand → Option SV} : ∀ {l : List Operand} {vs : List SV}, opnds ρ l = some vs → ∀ v ∈ vs, ∃ x ∈ l, ρ x = some v
  | [], vs, h => by simp only [opnds, Option.some.injEq] at h; subst h; simp
  | x :: r, vs, h => by
    simp only [opnds] at h
    split at h
    · rename_i v vs' h1 h2
      simp only [Option.some.injEq] at h
      subst h
      intro u hu
      rcases List.mem_cons.1 hu with rfl | hu
      · exact ⟨x, by simp, h1⟩
      · obtain ⟨y, hy, e⟩ := opnds_mem h2 u hu
        exact ⟨y, by simp [hy], e⟩
    · cases h
theorem partsOf_mem {ρ : Operand → Option SV} : ∀ {l : List (Nat × Operand)} {vs : List (Nat × SV)}, partsOf ρ l = some vs → ∀ v ∈ vs, ∃ x ∈ l.map (·.2), ρ x = some v.2
  | [], vs, h => by simp only [partsOf, Option.some.injEq] at h; subst h; simp
  | (i, x) :: r, vs, h => by
    simp only [partsOf] at h
    split at h
    · rename_i v vs' h1 h2
      simp only [Option.some.injEq] at h
      subst h
      intro u hu
      rcases List.mem_cons.1 hu with rfl | hu
      · exact ⟨x, by simp, h1⟩
      · obtain ⟨y, hy, e⟩ := partsOf_mem h2 u hu
        exact ⟨y, by simp only [List.map_cons, List.mem_cons]; exact .inr hy, e⟩
    · cases h

theorem calleeOf_in {F : List Nat} {x : Option SV} {f : Nat} {cap : List SV} (h : calleeOf x = some (f, cap)) (hx : ∀ sv, x = some sv → svF F sv = true) : ∀ y ∈ cap, svF F y = true := by
  unfold calleeOf at h
  split at h
  · simp only [Option.some.injEq, Prod.mk.injEq] at h
    obtain ⟨rfl, rfl⟩ := h
    simp
  · rename_i f' ls
    simp only [Option.some.injEq, Prod.mk.injEq] at h
    obtain ⟨rfl, rfl⟩ := h
    have h1 := hx _ rfl
    simp only [svF, inF] at h1
    intro y hy
    obtain ⟨l, hl, rfl⟩ := List.mem_map.1 hy
    exact List.all_eq_true.1 h1 l hl
  · cases h
theorem leaves_in (F : List Nat) : ∀ (t : Ty) (d : Den t), (leaves t d).all (inF F) = true
  | .int _, _ => rfl
  | .bool, _ => rfl
  | .str, _ => rfl
  | .sl _, _ => rfl
  | .nil, _ => rfl
  | .ifc _ _, _ => rfl
  | .cons t r, d => by simp only [leaves, List.all_append, leaves_in F t, leaves_in F r, Bool.and_self]
theorem svD_in (F : List Nat) (t : Ty) (d : Den t) : svF F (svD t d) = true := by
  have h := leaves_in F t d
  unfold svD
  split
  · exact h
  · split
    · rename_i x e
      rw [e] at h
      simpa [svF] using h
    · rfl
theorem mkIfc_mix {tab : Tab} {T : Nat} {v : SV} {F : List Nat} {h h0 : Heap} (hx : svF F v = true) : mkIfc tab (mix F h h0) T v = (mkIfc tab h T v).mapH fun h => mix F h h0 := by
  unfold mkIfc
  split
  · rfl
  · rfl
  · rfl
  · split
    · rename_i hc
      have hall : v.leaves.all (inF F) = true := by
        cases v with
        | lf x => simpa [SV.leaves, svF] using hx
        | ag cs => exact hx
        | tup _ => rfl
      rw [frzAll_mix hall]
      simp only []
      split <;> rfl
    · rfl
theorem altO_mix {Γ : Ctx} {F : List Nat} {h h0 : Heap} {dst f : Nat} {args : List SV} {outs : List OK} (hx : ∀ x ∈ args, svF F x = true) (c : clF F h) (hd : ∀ k, k < 4 → F.contains (dst + 1000 * k) = true) :
    altO Γ (mix F h h0) dst f args outs = altO Γ h dst f args outs := by
  unfold altO
  split
  · rfl
  rename_i hfew
  split
  · rename_i con hcon
    have hd' : ∀ con, Γ (keyOf f args) = some con → ∀ k, k < con.outs.length → F.contains (dst + 1000 * k) = true := by
      intro con hc k hk
      refine hd k ?_
      unfold few at hfew
      rw [hc] at hfew
      simp only [Bool.not_eq_false, decide_eq_true_eq] at hfew
      omega
    rw [callO_mix hx c hd']
    obtain ⟨e1, _⟩ := argsO_mix (al := args) (F := F) (h0 := h0) (ins := con.ins) (xs := args) (h := h) hx c
    rw [e1]
    cases callO Γ h dst f args with
    | fail => rfl
    | ok t sv h => rfl
    | call t q x f =>
      cases q with
      | false => rfl
      | true =>
        simp only [Out.mapH]
        cases argsO args h con.ins args with
        | none => rfl
        | some q => obtain ⟨cs, h1, ls⟩ := q; rfl
  · rfl
theorem altsO_mix {tab : Tab} {Γ : Ctx} {F : List Nat} {h h0 : Heap} {dst : Nat} {name : String} {args : List SV} {outs : List OK} {k : Nat} (hx : ∀ x ∈ args, svF F x = true) (c : clF F h) (hd : ∀ k, k < 4 → F.contains (dst + 1000 * k) = true) :
    ∀ {i : Nat} {ids : List Nat} {p : Ty} {d : Den p}, altsO tab Γ (mix F h h0) dst name args outs k i ids p d = altsO tab Γ h dst name args outs k i ids p d
  | i, [], p, d => by simp only [altsO]
  | i, T :: ids, .cons t r, d => by
    simp only [altsO]
    split
    · rw [altO_mix (fun x hx' => by
        rcases List.mem_cons.1 hx' with rfl | h
        · exact svD_in F _ _
        · exact hx x h) c hd, altsO_mix hx c hd]
    · rfl
  | i, T :: ids, .int _, d => by simp only [altsO]
  | i, T :: ids, .bool, d => by simp only [altsO]
  | i, T :: ids, .str, d => by simp only [altsO]
  | i, T :: ids, .sl _, d => by simp only [altsO]
  | i, T :: ids, .nil, d => by simp only [altsO]
  | i, T :: ids, .ifc _ _, d => by simp only [altsO]
theorem invO_mix {tab : Tab} {Γ : Ctx} {F : List Nat} {h h0 : Heap} {dst : Nat} {name : String} {args : List SV} {v : SV} (hx : ∀ x ∈ args, svF F x = true) (c : clF F h) (hd : ∀ k, k < 4 → F.contains (dst + 1000 * k) = true) :
    invO tab Γ (mix F h h0) dst name args v = (invO tab Γ h dst name args v).mapH fun h => mix F h h0 := by
  cases v with
  | ag _ => rfl
  | tup _ => rfl
  | lf y =>
  cases y with
  | dyn T t d =>
    simp only [invO]
    split
    · split
      · rename_i f hf
        split
        · rfl
        · rename_i hfew
          refine callO_mix (fun x hx' => by
            rcases List.mem_cons.1 hx' with rfl | h
            · exact svD_in F _ _
            · exact hx x h) c ?_
          intro con hc k hk
          refine hd k ?_
          unfold few at hfew
          rw [hc] at hfew
          simp only [Bool.not_eq_false, decide_eq_true_eq] at hfew
          omega
      · rfl
    · rfl
  | ifc ids p k d =>
    simp only [invO]
    split
    · rfl
    · split
      · rfl
      · split
        · rfl
        · split
          · rfl
          · rw [altsO_mix hx c hd]
            split <;> rfl
  | _ => rfl
theorem opO_mix {tab : Tab} {Γ : Ctx} {dst : Option Nat} {ρx : Path → Operand → Option SV} {ρ : Operand → Option SV} {F : List Nat} {h h0 : Heap} {op : Op}
    (hρ : ∀ x ∈ op.operands.toList, ∀ sv, ρ x = some sv → svF F sv = true) (c : clF F h) (hd : dstF Γ F dst ρ op = true) :
    opO tab Γ dst ρx ρ (mix F h h0) op = (opO tab Γ dst ρx ρ h op).mapH fun h => mix F h h0 := by
  cases op with
  | move x => simp only [opO]; split <;> rfl
  | assign x => simp only [opO]; split <;> rfl
  | pick _ _ _ =>
    simp only [opO]
    split
    · unfold pickO
      split
      · rfl
      · split <;> rfl
    · rfl
  | alloc t =>
    simp only [dstF] at hd
    simp only [opO]
    split
    · rfl
    · rfl
    · simp only [Option.getD_some] at hd
      rw [mix_used hd]
      split
      · rfl
      · simp only [Out.mapH, Option.map_some, mix_new hd]
    · rfl
  | box t x =>
    simp only [dstF] at hd
    simp only [opO]
    split
    · simp only [Option.getD_some] at hd
      rw [mix_used hd]
      split
      · simp only [Out.mapH, Option.map_some, mix_new hd]
      · rfl
    · rfl
  | build t parts =>
    simp only [opO]
    split
    · split <;> rfl
    · split <;> rfl
    · rfl
  | buildSlice t n parts =>
    simp only [dstF] at hd
    simp only [opO]
    split
    · rename_i d e ps hk hp
      simp only [Option.getD_some] at hd
      rw [mix_used hd]
      have hps : ∀ x ∈ ps.map (·.2), svF F x = true := by
        intro x hx
        obtain ⟨q, hq, rfl⟩ := List.mem_map.1 hx
        obtain ⟨y, hy, e⟩ := partsOf_mem hp q hq
        exact hρ y (by simpa [Op.operands] using hy) _ e
      rw [listOf_mix hps]
      split
      · split
        · rfl
        · cases listOf (tab.at e).ty (ps.map (·.2)) h with
          | none => rfl
          | some q => simp only [Option.map_some, Out.mapH, mix_new hd]
      · rfl
    · rfl
  | load t a =>
    simp only [opO]
    split
    · rename_i v hv
      rw [loadO_mix (hρ a (by simp [Op.operands]) v hv)]
      split <;> rfl
    · rfl
  | store t a x =>
    simp only [opO]
    split
    · rename_i va vx h1 h2
      split
      · rfl
      · rw [storeO_mix (hρ a (by simp [Op.operands]) va h1) (hρ x (by simp [Op.operands]) vx h2)]
        cases storeO tab t h va vx <;> rfl
    · rfl
  | nilCheck x =>
    simp only [opO]
    split
    · rename_i v hv
      rw [liveP_mix (hρ x (by simp [Op.operands]) v hv)]
      split <;> rfl
    · rfl
  | binOp op xt x y yt =>
    simp only [opO]
    split
    · exact binO_mapH.symm
    · rfl
  | unOp op t x => simp only [opO]; split <;> rfl
  | convert a b x =>
    simp only [opO]
    split
    · rename_i v hv
      exact convO_mix (hρ x (by simp [Op.operands]) v hv)
    · rfl
  | makeSlice t l cc =>
    simp only [dstF] at hd
    simp only [opO]
    split
    · simp only [Option.getD_some] at hd
      rw [mix_used hd]
      split
      · rfl
      · simp only [Out.mapH, Option.map_some, mix_new hd]
    · rfl
  | slice t x lo hi mx =>
    cases mx with
    | some _ => simp only [opO]; rfl
    | none =>
      simp only [opO]
      split
      · rename_i v l u hv hl hu
        exact sliceO_mix (hρ x (by simp [Op.operands]) v hv)
      · rfl
  | fieldAddr t x f =>
    simp only [opO]
    split
    · rename_i off ft y h1 h2
      rw [liveP_mix (hρ x (by simp [Op.operands]) y h2)]
      split
      · rfl
      · split <;> rfl
    · rfl
  | indexAddr t x i =>
    simp only [opO]
    split
    · split <;> rfl
    · rename_i h1 h2 h3
      have := hρ x (by simp [Op.operands]) _ h2
      simp only [svF, inF] at this
      rw [mix_obj this]
      split
      · split <;> rfl
      · rfl
    · rfl
  | index t x i =>
    simp only [opO]
    split
    · rfl
    · split
      · split <;> rfl
      · rfl
    · rfl
  | field t x f =>
    simp only [opO]
    split
    · split <;> rfl
    · rfl
  | extract x i =>
    simp only [opO]
    split
    · split <;> rfl
    · rfl
  | call cl =>
    have hargs : ∀ {vs : List SV}, opnds ρ cl.args.toList = some vs → ∀ v ∈ vs, svF F v = true := by
      intro vs hv v hm
      obtain ⟨x, hx, e⟩ := opnds_mem hv v hm
      refine hρ x ?_ v e
      simp only [Op.operands, Call.operands]
      simp [hx]
    simp only [dstF] at hd
    simp only [opO]
    split
    · split
      · rename_i x h2
        rw [lenO_mix (hargs h2 _ (by simp))]
        split <;> rfl
      · rfl
    · rename_i hcal
      rw [hcal] at hd
      split
      · rename_i h2
        simp only [Option.getD_some] at hd
        exact appendO_mix (hargs h2 _ (by simp)) (hargs h2 _ (by simp)) hd
      · rfl
    · split
      · rename_i h2
        exact copyO_mix (hargs h2 _ (by simp)) (hargs h2 _ (by simp))
      · rfl
    · split
      · split <;> rfl
      · rfl
    · split
      · split <;> rfl
      · rfl
    · rename_i f hcal
      rw [hcal] at hd
      split
      · rename_i g cap args h1 h2
        simp only [h1, h2] at hd
        have hcap : ∀ x ∈ cap, svF F x = true := calleeOf_in h1 (hρ f (by simp [Op.operands, Call.operands, hcal]))
        refine callO_mix (fun x hx => (List.mem_append.1 hx).elim (hargs h2 x) (hcap x)) c ?_
        intro con hcon k hk
        rw [hcon] at hd
        exact List.all_eq_true.1 hd k (List.mem_range.2 hk)
      · rfl
    · rename_i r name hcal
      rw [hcal] at hd
      split
      · rename_i v args h1 h2
        exact invO_mix (fun x hx => hargs h2 x hx) c (fun k hk => List.all_eq_true.1 hd k (List.mem_range.2 hk))
      · rfl
    · rfl
  | makeInterface T x =>
    simp only [opO]
    split
    · rename_i v h1
      exact mkIfc_mix (hρ x (by simp [Op.operands]) _ h1)
    · rfl
  | typeAssert x xT T ok =>
    cases ok with
    | true =>
      simp only [opO]
      split
      · unfold assertO
        split <;> first | rfl | (unfold assertC; split <;> first | rfl | (split <;> first | rfl | (split <;> first | rfl | (split <;> rfl))))
      · rfl
    | false => rfl
  | makeFunc fn first captured =>
    cases fn with
    | func f =>
      simp only [opO]
      split
      · split <;> rfl
      · rfl
    | _ => rfl
  | _ => rfl
end Go.Eng


set_option linter.unusedVariables false
set_option linter.unusedSimpArgs false
namespace Go.Eng

theorem opnds_congr {ρ ρ' : Operand → Option SV} : ∀ {l : List Operand}, (∀ x ∈ l, ρ x = ρ' x) → opnds ρ l = opnds ρ' l
  | [], _ => rfl
  | x :: r, h => by simp only [opnds, h x (by simp), opnds_congr (l := r) (fun y hy => h y (List.mem_cons_of_mem _ hy))]
theorem partsOf_congr {ρ ρ' : Operand → Option SV} : ∀ {l : List (Nat × Operand)}, (∀ x ∈ l.map (·.2), ρ x = ρ' x) → partsOf ρ l = partsOf ρ' l
  | [], _ => rfl
  | (i, x) :: r, h => by
    simp only [partsOf, h x (by simp), partsOf_congr (l := r) (fun y hy => h y (by simp only [List.map_cons, List.mem_cons]; exact .inr hy))]

theorem opO_congr {tab : Tab} {Γ : Ctx} {dst : Option Nat} {ρx ρx' : Path → Operand → Option SV} {ρ ρ' : Operand → Option SV} {h : Heap} {op : Op}
    (hρ : ∀ x ∈ op.operands.toList, ρ x = ρ' x) (hx : ∀ p, ∀ x ∈ op.operands.toList, ρx p x = ρx' p x) : opO tab Γ dst ρx ρ h op = opO tab Γ dst ρx' ρ' h op := by
  cases op with
  | pick c a b => simp only [opO, hρ c (by simp [Op.operands]), hx _ a (by simp [Op.operands]), hx _ b (by simp [Op.operands])]
  | build t parts => simp only [opO, partsOf_congr (l := parts.toList) (fun x hx => hρ x (by simpa [Op.operands] using hx))]
  | buildSlice t n parts => simp only [opO, partsOf_congr (l := parts.toList) (fun x hx => hρ x (by simpa [Op.operands] using hx))]
  | slice t x lo hi mx =>
    cases mx with
    | some _ => rfl
    | none =>
      have h1 := hρ x (by simp [Op.operands])
      have h2 : optOp ρ lo = optOp ρ' lo := by
        cases lo with
        | none => rfl
        | some y => simp only [optOp, hρ y (by simp [Op.operands])]
      have h3 : optOp ρ hi = optOp ρ' hi := by
        cases hi with
        | none => rfl
        | some y => simp only [optOp, hρ y (by simp [Op.operands])]
      simp only [opO, h1, h2, h3]
  | call cl =>
    have ha : opnds ρ cl.args.toList = opnds ρ' cl.args.toList := opnds_congr (fun x hx => hρ x (by simp only [Op.operands, Call.operands]; simp [hx]))
    simp only [opO, ha]
    split
    · rfl
    · rfl
    · rfl
    · rfl
    · rfl
    · rename_i f hf
      have : ρ f = ρ' f := hρ f (by simp [Op.operands, Call.operands, hf])
      rw [this]
    · rename_i r name hf
      have : ρ r = ρ' r := hρ r (by simp [Op.operands, Call.operands, hf])
      rw [this]
    · rfl
  | store t a x => simp only [opO, hρ a (by simp [Op.operands]), hρ x (by simp [Op.operands])]
  | binOp op xt x y yt => simp only [opO, hρ x (by simp [Op.operands]), hρ y (by simp [Op.operands])]
  | makeSlice t l c => simp only [opO, hρ l (by simp [Op.operands]), hρ c (by simp [Op.operands])]
  | indexAddr t x i => simp only [opO, hρ x (by simp [Op.operands]), hρ i (by simp [Op.operands])]
  | index t x i => simp only [opO, hρ x (by simp [Op.operands]), hρ i (by simp [Op.operands])]
  | move x => simp only [opO, hρ x (by simp [Op.operands])]
  | assign x => simp only [opO, hρ x (by simp [Op.operands])]
  | box t x => simp only [opO, hρ x (by simp [Op.operands])]
  | load t x => simp only [opO, hρ x (by simp [Op.operands])]
  | nilCheck x => simp only [opO, hρ x (by simp [Op.operands])]
  | unOp op t x => simp only [opO, hρ x (by simp [Op.operands])]
  | convert a b x => simp only [opO, hρ x (by simp [Op.operands])]
  | fieldAddr t x f => simp only [opO, hρ x (by simp [Op.operands])]
  | field t x f => simp only [opO, hρ x (by simp [Op.operands])]
  | extract x f => simp only [opO, hρ x (by simp [Op.operands])]
  | makeInterface T x => simp only [opO, hρ x (by simp [Op.operands])]
  | typeAssert x xT T ok =>
    cases ok with
    | true => simp only [opO, hρ x (by simp [Op.operands])]
    | false => rfl
  | makeFunc fn first captured =>
    have ha : opnds ρ captured.toList = opnds ρ' captured.toList := opnds_congr (fun x hx => hρ x (by simp only [Op.operands]; simp [hx]))
    cases fn with
    | func f => simp only [opO, ha]
    | _ => rfl
  | _ => rfl

def outR (p : Path) (b : Bool) : Out → Option (SV × Option Heap)
  | .fail => match p with
    | [] => none
    | _ :: _ => if b then none else some (.lf .bad, none)
  | .ok t sv h => match p with
    | [] => if t.getD true then some (sv, h) else none
    | _ :: _ => match h with
      | none => if !b || t.getD true then some (sv, none) else none
      | some h => if b then (if t.getD true then some (sv, some h) else none) else some (.lf .bad, none)
  | .call t q x f => match p with
    | [] => x.map fun r => ((f r).1, match q with | true => none | false => (f r).2)
    | _ :: _ => match q with
      | true => (if b then x else some (dflt t)).map fun r => ((f r).1, none)
      | false => if b then x.map f else some (.lf .bad, none)
def putP (p : Path) (dst : Option Nat) (q : SV × Option Heap) (s : St) : St := match p with
  | [] => s.put dst q.1 q.2
  | _ :: _ => s.putH dst p q.1 q.2

theorem putG_H {s : St} {dst : Option Nat} {p : Path} {x : SV} : s.putG dst p x = s.putH dst p x none := by cases dst <;> rfl
theorem opS_eq {tab : Tab} {Γ : Ctx} {nt : Nat} {ops : Array Oper} {o : Oper} {s : St} : opS tab Γ nt ops o s = if dstOk nt s o.dst then (match guardPath ops s o.guard with
    | none => none
    | some p => (outR p (gb s p) (opO tab Γ o.dst (fun q => opnd s (p ++ q)) (opnd s p) s.heap o.op)).map fun q => putP p o.dst q s) else none := by
  unfold opS opK
  split
  · split
    · rename_i h; simp only [h]
    · rename_i h
      simp only [h, List.nil_append]
      cases opO tab Γ o.dst (opnd s) (opnd s []) s.heap o.op with
      | fail => rfl
      | ok t sv hh =>
        cases t with
        | none => rfl
        | some t => cases t <;> rfl
      | call t q x f => cases x <;> rfl
    · rename_i p hne h
      simp only [h]
      cases p with
      | nil => exact absurd rfl hne
      | cons x r =>
        cases opO tab Γ o.dst (fun q => opnd s (x :: r ++ q)) (opnd s (x :: r)) s.heap o.op with
        | fail =>
          simp only [outR]
          cases hb : gb s (x :: r) with
          | true => rfl
          | false =>
            simp only [Bool.false_eq_true, if_false, litF_id hb]
            rfl
        | ok t sv hh =>
          cases hh with
          | some hh =>
            simp only [outR]
            cases hb : gb s (x :: r) with
            | true =>
              simp only [if_true, litP_id hb]
              split <;> rfl
            | false =>
              simp only [Bool.false_eq_true, if_false, litF_id hb]
              rfl
          | none =>
            cases t with
            | none => simp only [outR, Option.getD_none, Bool.or_true, if_true, Option.map_some, putP, putG_H]
            | some t => simp only [outR, Option.getD_some]; split <;> simp only [Option.map_some, Option.map_none, putP, putG_H]
        | call t q x' f =>
          cases q with
          | false =>
            simp only [outR]
            cases hb : gb s (x :: r) with
            | true =>
              simp only [if_true, litP_id hb]
              cases x' <;> rfl
            | false =>
              simp only [Bool.false_eq_true, if_false, litF_id hb]
              rfl
          | true => simp only [outR]; cases (if gb s (x :: r) = true then x' else some (dflt t)) <;> simp only [Option.bind_none, Option.bind_some, Option.map_some, Option.map_none, putP, putG_H]
  · rfl

theorem outR_mapH {p : Path} {b : Bool} {out : Out} {g : Heap → Heap} : outR p b (out.mapH g) = (outR p b out).map fun q => (q.1, q.2.map g) := by
  cases out with
  | fail =>
    cases p with
    | nil => rfl
    | cons x r => simp only [Out.mapH, outR]; split <;> rfl
  | ok t sv h =>
    cases p with
    | nil => simp only [Out.mapH, outR]; split <;> rfl
    | cons x r =>
      cases h with
      | none => simp only [Out.mapH, outR, Option.map_none]; split <;> rfl
      | some _ =>
        simp only [Out.mapH, outR, Option.map_some]
        split
        · split <;> rfl
        · rfl
  | call t q x f =>
    cases p with
    | nil => cases x <;> cases q <;> rfl
    | cons y r =>
      cases q with
      | false =>
        simp only [Out.mapH, outR]
        split
        · cases x <;> rfl
        · rfl
      | true => simp only [Out.mapH, outR]; cases (if b = true then x else some (dflt t)) <;> rfl

def putE (p : Path) (dst : Option Nat) (sv : SV) (e : Nat → SV) : Nat → SV := match dst with
  | none => e
  | some d => upd e d (match p with | [] => sv | _ => .lf .bad)
def putGn (p : Path) (dst : Option Nat) (sv : SV) (e : Nat → Option (Path × SV)) : Nat → Option (Path × SV) := match dst, p with
  | some d, _ :: _ => upd e d (some (p, sv))
  | _, _ => e
def putD (dst : Option Nat) (e : Nat → Bool) : Nat → Bool := match dst with
  | none => e
  | some d => upd e d true
theorem putP_eq {p : Path} {b : Bool} {out : Out} {q : SV × Option Heap} {dst : Option Nat} {s : St} (h : outR p b out = some q) : putP p dst q s = ⟨putE p dst q.1 s.env, putGn p dst q.1 s.gen, putD dst s.done, q.2.getD s.heap⟩ := by
  cases p with
  | nil => cases dst <;> rfl
  | cons x r => cases dst <;> rfl
theorem putE_comm {p p' : Path} {d d' : Option Nat} {sv sv' : SV} {e : Nat → SV} (h : ∀ x, d = some x → d' ≠ some x) : putE p d sv (putE p' d' sv' e) = putE p' d' sv' (putE p d sv e) := by
  cases d with
  | none => rfl
  | some x =>
    cases d' with
    | none => rfl
    | some y =>
      have hne : x ≠ y := fun e => h x rfl (by rw [e])
      funext j
      simp only [putE, upd_if]
      by_cases e1 : j = x
      · subst e1; simp [hne]
      · simp [e1]
theorem putGn_comm {p p' : Path} {d d' : Option Nat} {sv sv' : SV} {e : Nat → Option (Path × SV)} (h : ∀ x, d = some x → d' ≠ some x) : putGn p d sv (putGn p' d' sv' e) = putGn p' d' sv' (putGn p d sv e) := by
  cases d with
  | none => rfl
  | some x =>
    cases d' with
    | none => rfl
    | some y =>
      have hne : x ≠ y := fun e => h x rfl (by rw [e])
      cases p with
      | nil => rfl
      | cons _ _ =>
        cases p' with
        | nil => rfl
        | cons _ _ =>
          funext j
          simp only [putGn, upd_if]
          by_cases e1 : j = x
          · subst e1; simp [hne]
          · simp [e1]
theorem putD_comm {d d' : Option Nat} {e : Nat → Bool} (h : ∀ x, d = some x → d' ≠ some x) : putD d (putD d' e) = putD d' (putD d e) := by
  cases d with
  | none => rfl
  | some x =>
    cases d' with
    | none => rfl
    | some y =>
      funext j
      simp only [putD, upd_if]
      by_cases e1 : j = x <;> by_cases e2 : j = y <;> simp [e1, e2]
end Go.Eng


set_option linter.unusedVariables false
set_option linter.unusedSimpArgs false
namespace Go.Eng

structure StepA (tab : Tab) (Γ : Ctx) (nt : Nat) (ops : Array Oper) (A : An) (s s' : St) : Prop where
  dst : dstOk nt s A.o.dst = true
  path : guardPath ops s A.o.guard = some A.p
  ok : ∀ x ∈ A.o.op.operands.toList, ∀ sv, opnd s A.p x = some sv → svF A.F sv = true
  cl : clF A.F s.heap
  mkd : dstF Γ A.F A.o.dst (opnd s A.p) A.o.op = true
  run : ∃ q, outR A.p (gb s A.p) (opO tab Γ A.o.dst (fun q => opnd s (A.p ++ q)) (opnd s A.p) s.heap A.o.op) = some q ∧ (A.c = false → q.2 = none) ∧ s' = putP A.p A.o.dst q s

theorem StepA.opS {tab : Tab} {Γ : Ctx} {nt : Nat} {ops : Array Oper} {A : An} {s s' : St} (h : StepA tab Γ nt ops A s s') : Eng.opS tab Γ nt ops A.o s = some s' := by
  obtain ⟨q, hq, _, rfl⟩ := h.run
  rw [opS_eq, if_pos h.dst, h.path]
  simp only [hq, Option.map_some]

/-- two operations that may stand in whatever order -/
structure Indep (ops : Array Oper) (A B : An) : Prop where
  ab : A.o.apart ops B.o = true
  pa : ∀ d, A.o.dst = some d → d ∉ B.p.map (·.1)
  pb : ∀ d, B.o.dst = some d → d ∉ A.p.map (·.1)
  heap : (A.c = false ∧ B.c = false) ∨ ∀ l, ¬ (A.F.contains l = true ∧ B.F.contains l = true)

theorem opnd_put {s : St} {p q : Path} {d : Option Nat} {sv : SV} {h : Heap} {x : Operand} (hx : ∀ t, d = some t → x ≠ .tmp t) : opnd ⟨putE p d sv s.env, putGn p d sv s.gen, putD d s.done, h⟩ q x = opnd s q x := by
  cases x with
  | tmp i =>
    cases d with
    | none => rfl
    | some t =>
      have hne : i ≠ t := fun e => hx t rfl (by rw [e])
      cases p with
      | nil => simp only [opnd, putE, putGn, upd_if, if_neg hne]
      | cons _ _ => simp only [opnd, putE, putGn, upd_if, if_neg hne]
  | _ => rfl
theorem slotBool_put {s : St} {p : Path} {d : Option Nat} {sv : SV} {h : Heap} {i : Nat} (hx : ∀ t, d = some t → i ≠ t) : slotBool ⟨putE p d sv s.env, putGn p d sv s.gen, putD d s.done, h⟩ i = slotBool s i := by
  cases d with
  | none => rfl
  | some t =>
    have hne : i ≠ t := hx t rfl
    cases p with
    | nil => simp only [slotBool, putE, putGn, upd_if, if_neg hne]
    | cons _ _ => simp only [slotBool, putE, putGn, upd_if, if_neg hne]
theorem guardPath_put {ops : Array Oper} {s : St} {p : Path} {d : Option Nat} {sv : SV} {h : Heap} {o : Oper} (hx : ∀ t, d = some t → t ∉ o.looksAt ops) : guardPath ops ⟨putE p d sv s.env, putGn p d sv s.gen, putD d s.done, h⟩ o.guard = guardPath ops s o.guard := by
  unfold guardPath
  cases hg : o.guard with
  | none => rfl
  | some q =>
    obtain ⟨j, want⟩ := q
    simp only
    cases hj : (ops[j]?).bind (·.dst) with
    | none => rfl
    | some t =>
      have hne : ∀ t', d = some t' → t ≠ t' := by
        intro t' e e2
        refine hx t' e ?_
        unfold Oper.looksAt
        simp [hg, hj, e2]
      have h1 : (putGn p d sv s.gen) t = s.gen t := by
        cases d with
        | none => rfl
        | some t' => cases p <;> simp [putGn, upd_if, hne t' rfl]
      have h2 : (putD d s.done) t = s.done t := by
        cases d with
        | none => rfl
        | some t' => simp [putD, upd_if, hne t' rfl]
      simp only [slotBool_put (p := p) (sv := sv) (h := h) hne, h1, h2]
theorem gb_put {s : St} {p q : Path} {d : Option Nat} {sv : SV} {h : Heap} (hx : ∀ t, d = some t → t ∉ q.map (·.1)) : gb ⟨putE p d sv s.env, putGn p d sv s.gen, putD d s.done, h⟩ q = gb s q := by
  refine gb_congr (fun x hm => slotBool_put (fun t e e2 => hx t e ?_))
  exact List.mem_map.2 ⟨x, hm, e2⟩
theorem looks_op {ops : Array Oper} {o : Oper} {t : Nat} (h : Operand.tmp t ∈ o.op.operands.toList) : t ∈ o.looksAt ops :=
  List.mem_append_left _ (List.mem_filterMap.2 ⟨.tmp t, h, rfl⟩)

/-- the operation out of another state that reads the same where it looks -/
theorem out_put {tab : Tab} {Γ : Ctx} {ops : Array Oper} {s : St} {p : Path} {d : Option Nat} {sv : SV} {h : Heap} {A : An} (hx : ∀ t, d = some t → t ∉ A.o.looksAt ops) (h' : Heap) :
    opO tab Γ A.o.dst (fun q => opnd ⟨putE p d sv s.env, putGn p d sv s.gen, putD d s.done, h⟩ (A.p ++ q)) (opnd ⟨putE p d sv s.env, putGn p d sv s.gen, putD d s.done, h⟩ A.p) h' A.o.op = opO tab Γ A.o.dst (fun q => opnd s (A.p ++ q)) (opnd s A.p) h' A.o.op :=
  opO_congr (fun x hm => opnd_put (fun t e e2 => hx t e (looks_op (e2 ▸ hm)))) (fun q x hm => opnd_put (fun t e e2 => hx t e (looks_op (e2 ▸ hm))))

theorem dstF_put {Γ : Ctx} {ops : Array Oper} {s : St} {p : Path} {d : Option Nat} {sv : SV} {h : Heap} {A : An} (hx : ∀ t, d = some t → t ∉ A.o.looksAt ops) :
    dstF Γ A.F A.o.dst (opnd ⟨putE p d sv s.env, putGn p d sv s.gen, putD d s.done, h⟩ A.p) A.o.op = dstF Γ A.F A.o.dst (opnd s A.p) A.o.op := by
  cases hop : A.o.op with
  | call cl =>
    simp only [dstF]
    cases hc : cl.callee with
    | value f =>
      simp only
      have : Operand.tmp = Operand.tmp := rfl
      have hf : opnd ⟨putE p d sv s.env, putGn p d sv s.gen, putD d s.done, h⟩ A.p f = opnd s A.p f := by
        refine opnd_put (fun t e e2 => hx t e (looks_op ?_))
        rw [hop, e2.symm]
        simp [Op.operands, Call.operands, hc]
      have ha : opnds (opnd ⟨putE p d sv s.env, putGn p d sv s.gen, putD d s.done, h⟩ A.p) cl.args.toList = opnds (opnd s A.p) cl.args.toList := by
        refine opnds_congr (fun x hm => opnd_put (fun t e e2 => hx t e (looks_op ?_)))
        rw [hop, e2.symm]
        simp only [Op.operands, Call.operands]
        simp [hm]
      rw [hf, ha]
    | _ => rfl
  | _ => rfl

theorem StepA.put {tab : Tab} {Γ : Ctx} {nt : Nat} {ops : Array Oper} {A : An} {s s' : St} (h : StepA tab Γ nt ops A s s') : ∃ q, outR A.p (gb s A.p) (opO tab Γ A.o.dst (fun q => opnd s (A.p ++ q)) (opnd s A.p) s.heap A.o.op) = some q ∧ (A.c = false → q.2 = none) ∧
    s' = ⟨putE A.p A.o.dst q.1 s.env, putGn A.p A.o.dst q.1 s.gen, putD A.o.dst s.done, q.2.getD s.heap⟩ := by
  obtain ⟨q, h1, h2, h3⟩ := h.run
  exact ⟨q, h1, h2, h3.trans (putP_eq h1)⟩

theorem frame_heap {tab : Tab} {Γ : Ctx} {nt : Nat} {ops : Array Oper} {A : An} {s s' : St} (h : StepA tab Γ nt ops A s s') {q : SV × Option Heap} (hq : outR A.p (gb s A.p) (opO tab Γ A.o.dst (fun q => opnd s (A.p ++ q)) (opnd s A.p) s.heap A.o.op) = some q) :
    q.2.getD s.heap = mix A.F (q.2.getD s.heap) s.heap := by
  have hm := opO_mix (tab := tab) (Γ := Γ) (dst := A.o.dst) (ρx := fun q => opnd s (A.p ++ q)) (h0 := s.heap) h.ok h.cl h.mkd
  rw [mix_self] at hm
  have h2 := hq
  rw [hm, outR_mapH, hq] at h2
  simp only [Option.map_some, Option.some.injEq] at h2
  have h3 : q.2.map (fun h => mix A.F h s.heap) = q.2 := congrArg Prod.snd h2
  cases hq2 : q.2 with
  | none => simp only [Option.getD_none, mix_self]
  | some h' =>
    rw [hq2] at h3
    simp only [Option.map_some, Option.some.injEq] at h3
    simp only [Option.getD_some, h3]

theorem clF_agree {F : List Nat} {h h' : Heap} (e : h' = mix F h h') (c : clF F h') : clF F h := by
  intro l hl
  have := c l hl
  rw [e, mix_obj hl] at this
  exact this

theorem swapA {tab : Tab} {Γ : Ctx} {nt : Nat} {ops : Array Oper} {A B : An} (I : Indep ops A B) {s s1 s2 : St} (hA : StepA tab Γ nt ops A s s1) (hB : StepA tab Γ nt ops B s1 s2) :
    ∃ s1', StepA tab Γ nt ops B s s1' ∧ StepA tab Γ nt ops A s1' s2 := by
  obtain ⟨ap1, ap2, ap3⟩ := Oper.apart_spec I.ab
  obtain ⟨qA, eA, cA, rfl⟩ := hA.put
  obtain ⟨qB, eB, cB, rfl⟩ := hB.put
  have hk := frame_heap hA eA
  -- B at the first state
  have hok : ∀ x ∈ B.o.op.operands.toList, opnd ⟨putE A.p A.o.dst qA.1 s.env, putGn A.p A.o.dst qA.1 s.gen, putD A.o.dst s.done, qA.2.getD s.heap⟩ B.p x = opnd s B.p x := fun x hm => opnd_put (fun t e e2 => ap1 t e (looks_op (e2 ▸ hm)))
  have bok : ∀ x ∈ B.o.op.operands.toList, ∀ sv, opnd s B.p x = some sv → svF B.F sv = true := fun x hm sv hs => hB.ok x hm sv ((hok x hm).trans hs)
  have bmk : dstF Γ B.F B.o.dst (opnd s B.p) B.o.op = true := by rw [← dstF_put (ops := ops) (p := A.p) (d := A.o.dst) (sv := qA.1) (h := qA.2.getD s.heap) ap1]; exact hB.mkd
  have bpath : guardPath ops s B.o.guard = some B.p := by rw [← guardPath_put (p := A.p) (d := A.o.dst) (sv := qA.1) (h := qA.2.getD s.heap) ap1]; exact hB.path
  have bdst : dstOk nt s B.o.dst = true := by
    have := hB.dst
    cases hd : B.o.dst with
    | none => rfl
    | some d =>
      rw [hd] at this
      simp only [dstOk, Bool.and_eq_true, decide_eq_true_eq, Bool.not_eq_true'] at this ⊢
      refine ⟨this.1, ?_⟩
      have h2 := this.2
      cases hda : A.o.dst with
      | none => rw [hda] at h2; exact h2
      | some d' =>
        rw [hda] at h2
        simp only [putD, upd_if] at h2
        split at h2
        · cases h2
        · exact h2
  rw [out_put ap1, gb_put I.pa] at eB
  have adst : ∀ (sv : SV) (h : Heap) (p : Path) (e : Nat → SV) (g : Nat → Option (Path × SV)), dstOk nt ⟨e, g, putD B.o.dst s.done, h⟩ A.o.dst = true := by
    intro sv h p e g
    have := hA.dst
    cases hd : A.o.dst with
    | none => rfl
    | some d =>
      rw [hd] at this
      simp only [dstOk, Bool.and_eq_true, decide_eq_true_eq, Bool.not_eq_true'] at this ⊢
      refine ⟨this.1, ?_⟩
      cases hdb : B.o.dst with
      | none => exact this.2
      | some d' =>
        have hne : d ≠ d' := fun e => ap2 d hd (by rw [hdb, e])
        simp only [putD, upd_if, if_neg hne]
        exact this.2
  have apath : ∀ (sv : SV) (h : Heap), guardPath ops ⟨putE B.p B.o.dst sv s.env, putGn B.p B.o.dst sv s.gen, putD B.o.dst s.done, h⟩ A.o.guard = some A.p := fun sv h => by rw [guardPath_put ap3]; exact hA.path
  have aok : ∀ (sv : SV) (h : Heap), ∀ x ∈ A.o.op.operands.toList, ∀ sv', opnd ⟨putE B.p B.o.dst sv s.env, putGn B.p B.o.dst sv s.gen, putD B.o.dst s.done, h⟩ A.p x = some sv' → svF A.F sv' = true := fun sv h x hm sv' hs =>
    hA.ok x hm sv' ((opnd_put (fun t e e2 => ap3 t e (looks_op (e2 ▸ hm)))).symm.trans hs)
  have amk : ∀ (sv : SV) (h : Heap), dstF Γ A.F A.o.dst (opnd ⟨putE B.p B.o.dst sv s.env, putGn B.p B.o.dst sv s.gen, putD B.o.dst s.done, h⟩ A.p) A.o.op = true := fun sv h => by rw [dstF_put ap3]; exact hA.mkd
  have ap2' : ∀ x, A.o.dst = some x → B.o.dst ≠ some x := ap2
  rcases I.heap with ⟨ca, cb⟩ | hdis
  · have ha := cA ca
    have hb := cB cb
    rw [ha] at eB hB
    simp only [Option.getD_none] at eB
    refine ⟨⟨putE B.p B.o.dst qB.1 s.env, putGn B.p B.o.dst qB.1 s.gen, putD B.o.dst s.done, s.heap⟩, ⟨bdst, bpath, bok, ?_, bmk, qB, eB, cB, ?_⟩, ⟨adst qB.1 _ [] _ _, apath _ _, aok _ _, hA.cl, amk _ _, qA, ?_, cA, ?_⟩⟩
    · have := hB.cl; exact this
    · rw [putP_eq eB, hb]; rfl
    · rw [out_put ap3, gb_put I.pb]; exact eA
    · rw [putP_eq eA, ha, hb]
      simp only [Option.getD_none]
      rw [putE_comm ap2', putGn_comm ap2', putD_comm ap2']
  · -- apart in the heap
    have hBA : qA.2.getD s.heap = mix B.F s.heap (qA.2.getD s.heap) := by
      refine Heap.ext' (fun l => ?_) (fun l => ?_)
      · by_cases hl : B.F.contains l = true
        · rw [mix_obj hl]
          have hla : ¬ A.F.contains l = true := fun h => hdis l ⟨h, hl⟩
          rw [hk]
          simp only [mix, if_neg hla]
        · simp only [mix, if_neg hl]
      · by_cases hl : B.F.contains l = true
        · rw [mix_used hl]
          have hla : ¬ A.F.contains l = true := fun h => hdis l ⟨h, hl⟩
          rw [hk]
          simp only [mix, if_neg hla]
        · simp only [mix, if_neg hl]
    have bcl : clF B.F s.heap := clF_agree hBA hB.cl
    have hmB := opO_mix (tab := tab) (Γ := Γ) (dst := B.o.dst) (ρx := fun q => opnd s (B.p ++ q)) (h0 := qA.2.getD s.heap) bok bcl bmk
    rw [← hBA] at hmB
    rw [hmB, outR_mapH] at eB
    simp only [Option.map_eq_some_iff] at eB
    obtain ⟨qB', eB', rfl⟩ := eB
    have cB' : B.c = false → qB'.2 = none := by
      intro h
      have := cB h
      simpa using this
    have hSB : StepA tab Γ nt ops B s ⟨putE B.p B.o.dst qB'.1 s.env, putGn B.p B.o.dst qB'.1 s.gen, putD B.o.dst s.done, qB'.2.getD s.heap⟩ := ⟨bdst, bpath, bok, bcl, bmk, qB', eB', cB', (putP_eq eB').symm⟩
    have hkB := frame_heap hSB eB'
    have hAB : qB'.2.getD s.heap = mix A.F s.heap (qB'.2.getD s.heap) := by
      refine Heap.ext' (fun l => ?_) (fun l => ?_)
      · by_cases hl : A.F.contains l = true
        · rw [mix_obj hl]
          have hla : ¬ B.F.contains l = true := fun h => hdis l ⟨hl, h⟩
          rw [hkB]
          simp only [mix, if_neg hla]
        · simp only [mix, if_neg hl]
      · by_cases hl : A.F.contains l = true
        · rw [mix_used hl]
          have hla : ¬ B.F.contains l = true := fun h => hdis l ⟨hl, h⟩
          rw [hkB]
          simp only [mix, if_neg hla]
        · simp only [mix, if_neg hl]
    have acl : clF A.F (qB'.2.getD s.heap) := by
      intro l hl
      rw [hAB, mix_obj hl]
      exact hA.cl l hl
    have hmA := opO_mix (tab := tab) (Γ := Γ) (dst := A.o.dst) (ρx := fun q => opnd s (A.p ++ q)) (h0 := qB'.2.getD s.heap) hA.ok hA.cl hA.mkd
    rw [← hAB] at hmA
    have eA' : outR A.p (gb s A.p) (opO tab Γ A.o.dst (fun q => opnd s (A.p ++ q)) (opnd s A.p) (qB'.2.getD s.heap) A.o.op) = some (qA.1, qA.2.map fun h => mix A.F h (qB'.2.getD s.heap)) := by
      rw [hmA, outR_mapH, eA]; rfl
    refine ⟨_, hSB, ⟨adst qB'.1 _ [] _ _, apath _ _, aok _ _, acl, amk _ _, (qA.1, qA.2.map fun h => mix A.F h (qB'.2.getD s.heap)), ?_, ?_, ?_⟩⟩
    · rw [out_put ap3, gb_put I.pb]; exact eA'
    · intro h
      simp only [cA h, Option.map_none]
    · rw [putP_eq eA']
      simp only
      rw [putE_comm ap2', putGn_comm ap2', putD_comm ap2']
      congr 1
      have e1 : (qB'.2.map fun h => mix B.F h (qA.2.getD s.heap)).getD (qA.2.getD s.heap) = mix B.F (qB'.2.getD s.heap) (qA.2.getD s.heap) := by
        cases hq : qB'.2 with
        | none => simp only [Option.map_none, Option.getD_none]; exact hBA
        | some h => rfl
      have e2 : (qA.2.map fun h => mix A.F h (qB'.2.getD s.heap)).getD (qB'.2.getD s.heap) = mix A.F (qA.2.getD s.heap) (qB'.2.getD s.heap) := by
        cases hq : qA.2 with
        | none => simp only [Option.map_none, Option.getD_none]; exact hAB
        | some h => rfl
      rw [e1, e2]
      generalize hx : qA.2.getD s.heap = X at *
      generalize hy : qB'.2.getD s.heap = Y at *
      have x1 : ∀ l, A.F.contains l = false → X.obj l = s.heap.obj l ∧ X.used l = s.heap.used l := by
        intro l hl
        rw [hk]
        simp only [mix, hl, Bool.false_eq_true, if_false, and_self]
      have y1 : ∀ l, B.F.contains l = false → Y.obj l = s.heap.obj l ∧ Y.used l = s.heap.used l := by
        intro l hl
        rw [hkB]
        simp only [mix, hl, Bool.false_eq_true, if_false, and_self]
      refine Heap.ext' (fun l => ?_) (fun l => ?_)
      · cases ha : A.F.contains l with
        | true =>
          have hb : B.F.contains l = false := by
            cases hb : B.F.contains l with
            | false => rfl
            | true => exact absurd ⟨ha, hb⟩ (hdis l)
          simp only [mix, ha, hb, Bool.false_eq_true, if_false, if_true]
        | false =>
          cases hb : B.F.contains l with
          | true => simp only [mix, ha, hb, Bool.false_eq_true, if_false, if_true]
          | false =>
            simp only [mix, ha, hb, Bool.false_eq_true, if_false]
            rw [(x1 l ha).1, (y1 l hb).1]
      · cases ha : A.F.contains l with
        | true =>
          have hb : B.F.contains l = false := by
            cases hb : B.F.contains l with
            | false => rfl
            | true => exact absurd ⟨ha, hb⟩ (hdis l)
          simp only [mix, ha, hb, Bool.false_eq_true, if_false, if_true]
        | false =>
          cases hb : B.F.contains l with
          | true => simp only [mix, ha, hb, Bool.false_eq_true, if_false, if_true]
          | false =>
            simp only [mix, ha, hb, Bool.false_eq_true, if_false]
            rw [(x1 l ha).2, (y1 l hb).2]
end Go.Eng


set_option linter.unusedVariables false
set_option linter.unusedSimpArgs false
namespace Go.Eng

theorem addNew_mem {a b : List Nat} {x : Nat} : x ∈ addNew a b → x ∈ a ∨ x ∈ b := by
  induction a generalizing b with
  | nil => intro h; exact .inr h
  | cons y r ih =>
    intro h
    simp only [addNew] at h
    split at h
    · rcases ih h with h | h
      · exact .inl (by simp [h])
      · exact .inr h
    · rcases ih h with h | h
      · exact .inl (by simp [h])
      · rcases List.mem_cons.1 h with rfl | h
        · exact .inl (by simp)
        · exact .inr h

/-- what stands in the table of ancestors is listed before -/
def GoodT (ops : List Oper) (T : List (List Nat)) : Prop := ∀ i j, j ∈ T.getD i [] → ∀ L : Nat → Bool, (∀ k o, ops[k]? = some o → L k = true → ∀ d ∈ depsOf o, L d = true) → (∀ o, ops[i]? = some o → ∀ d ∈ depsOf o, L d = true) → L j = true
theorem ancT_good {ops : List Oper} : ∀ {r pre : List Oper} {acc : List (List Nat)}, ops = pre ++ r → acc.length = pre.length → GoodT ops acc → (∀ k ∈ ops, ∀ d ∈ depsOf k, d < ops.length) → GoodT ops (ancT r acc)
  | [], pre, acc, he, hl, hg, _ => hg
  | o :: r, pre, acc, he, hl, hg, hlow => by
    simp only [ancT]
    refine ancT_good (pre := pre ++ [o]) (by simp [he]) (by simp [hl]) ?_ hlow
    intro i j hj L hL hi
    by_cases h1 : i < acc.length
    · refine hg i j ?_ L hL hi
      simpa [List.getD, List.getElem?_append_left h1] using hj
    · by_cases h2 : i = acc.length
      · subst h2
        have ho : ops[acc.length]? = some o := by rw [he, hl]; simp
        have hd := hi o ho
        have hj' : j ∈ (depsOf o).foldl (fun l k => addNew (acc.getD k []) l) (depsOf o) := by simpa [List.getD] using hj
        have key : ∀ (ds l : List Nat), (∀ x ∈ l, L x = true) → (∀ k ∈ ds, L k = true) → ∀ x ∈ ds.foldl (fun l k => addNew (acc.getD k []) l) l, L x = true := by
          intro ds
          induction ds with
          | nil => intro l hl _ x hx; exact hl x hx
          | cons k ds ih =>
            intro l hl hds x hx
            refine ih (addNew (acc.getD k []) l) ?_ (fun k' hk' => hds k' (by simp [hk'])) x hx
            intro y hy
            rcases addNew_mem hy with h | h
            · exact hg k y h L hL (fun o' ho' d hd' => hL k o' ho' (hds k (by simp)) d hd')
            · exact hl y h
        exact key _ _ hd hd j hj'
      · have : (acc ++ [(depsOf o).foldl (fun l k => addNew (acc.getD k []) l) (depsOf o)]).getD i [] = [] := by
          simp only [List.getD]
          rw [List.getElem?_eq_none (by simp; omega)]
          rfl
        rw [this] at hj
        cases hj

theorem edgesLow_spec : ∀ {l : List Oper} {i : Nat}, edgesLow i l = true → ∀ j o, l[j]? = some o → ∀ d ∈ depsOf o, d < i + j
  | [], i, _, j, o, ho => by simp at ho
  | x :: r, i, h, j, o, ho => by
    simp only [edgesLow, Bool.and_eq_true, List.all_eq_true, decide_eq_true_eq] at h
    cases j with
    | zero =>
      simp only [List.getElem?_cons_zero, Option.some.injEq] at ho
      subst ho
      simpa using h.1
    | succ j =>
      intro d hd
      have := edgesLow_spec h.2 j o (by simpa using ho) d hd
      omega

def RunA (tab : Tab) (Γ : Ctx) (nt : Nat) (ops : Array Oper) : List An → St → St → Prop
  | [], s, s' => s' = s
  | A :: r, s, s' => ∃ s1, StepA tab Γ nt ops A s s1 ∧ RunA tab Γ nt ops r s1 s'
theorem RunA.front {tab : Tab} {Γ : Ctx} {nt : Nat} {ops : Array Oper} {B : An} {R2 : List An} : ∀ {R1 : List An} {s s' : St}, (∀ A ∈ R1, Indep ops A B) → RunA tab Γ nt ops (R1 ++ B :: R2) s s' → ∃ s1, StepA tab Γ nt ops B s s1 ∧ RunA tab Γ nt ops (R1 ++ R2) s1 s'
  | [], s, s', _, h => h
  | A :: r, s, s', hI, h => by
    obtain ⟨s1, hA, hr⟩ := h
    obtain ⟨s2, hB, hr2⟩ := RunA.front (fun C hC => hI C (by simp [hC])) hr
    obtain ⟨s1', h1, h2⟩ := swapA (hI A (by simp)) hA hB
    exact ⟨s1', h1, s2, h2, hr2⟩

theorem indepB_spec {ops : Array Oper} {A B : An} (h : indepB ops A B = true) : Indep ops A B := by
  simp only [indepB, Bool.and_eq_true, Bool.or_eq_true, Bool.not_eq_true'] at h
  obtain ⟨⟨⟨h1, h2⟩, h3⟩, h4⟩ := h
  have off : ∀ (x : Option Nat) (p : Path), offPath x p = true → ∀ d, x = some d → d ∉ p.map (·.1) := by
    intro x p h d e hm
    subst e
    simp only [offPath, List.all_eq_true, bne_iff_ne] at h
    obtain ⟨q, hq, rfl⟩ := List.mem_map.1 hm
    exact h q hq rfl
  refine ⟨h1, off _ _ h2, off _ _ h3, ?_⟩
  rcases h4 with h4 | h4
  · exact .inl h4
  · refine .inr ?_
    rintro l ⟨ha, hb⟩
    have := List.all_eq_true.1 h4 l (by simpa using ha)
    rw [hb] at this
    cases this

theorem okA_spec {tab : Tab} {Γ : Ctx} {nt : Nat} {ops : Array Oper} {s s1 : St} {A : An} (hp : guardPath ops s A.o.guard = some A.p) (hok : okA Γ s A = true) (hs : Eng.opS tab Γ nt ops A.o s = some s1)
    (hc : A.c = outC A.p (opO tab Γ A.o.dst (fun q => opnd s (A.p ++ q)) (opnd s A.p) s.heap A.o.op)) : StepA tab Γ nt ops A s s1 := by
  simp only [okA, Bool.and_eq_true, List.all_eq_true] at hok
  obtain ⟨⟨h1, h2⟩, h3⟩ := hok
  rw [opS_eq] at hs
  split at hs
  · rename_i hd
    rw [hp] at hs
    simp only [Option.map_eq_some_iff] at hs
    obtain ⟨q, hq, rfl⟩ := hs
    refine ⟨hd, hp, ?_, ?_, h3, q, hq, ?_, rfl⟩
    · intro x hx sv hsv
      have := h1 x hx
      rw [hsv] at this
      exact this
    · intro l hl
      exact h2 l (by simpa using hl)
    · intro hcf
      rw [hcf] at hc
      generalize opO tab Γ A.o.dst (fun q => opnd s (A.p ++ q)) (opnd s A.p) s.heap A.o.op = out at hc hq
      generalize A.p = p at hc hq
      generalize gb s p = b at hq
      cases out with
      | fail => cases hc
      | ok t sv h =>
        cases h with
        | none =>
          cases p with
          | nil => simp only [outR] at hq; split at hq; · cases hq; rfl
                   · cases hq
          | cons x r => simp only [outR] at hq; split at hq; · cases hq; rfl
                        · cases hq
        | some h => cases hc
      | call t qq x f =>
        cases p with
        | nil =>
          simp only [outC, Bool.false_eq, Bool.not_eq_false'] at hc
          subst hc
          simp only [outR, Option.map_eq_some_iff] at hq
          obtain ⟨r, _, rfl⟩ := hq
          rfl
        | cons y r =>
          cases qq with
          | false => cases hc
          | true =>
            simp only [outR, Option.map_eq_some_iff] at hq
            obtain ⟨r', _, rfl⟩ := hq
            rfl
  · cases hs

theorem opsKD_run {R : Type} {tab : Tab} {Γ : Ctx} {nt : Nat} {ops : Array Oper} {T : List (List Nat)} {K : St → Option R} {r : R} : ∀ {l : List Oper} {i : Nat} {acc : List An} {s : St}, opsKD tab Γ nt ops T i l acc K s = some r →
    ∃ As s', As.map (·.o) = l ∧ (∀ k A, As[k]? = some A → A.i = i + k) ∧ RunA tab Γ nt ops As s s' ∧ K s' = some r ∧ (∀ B ∈ acc, ∀ A ∈ As, (T.getD A.i []).contains B.i = true ∨ Indep ops B A) ∧ As.Pairwise (fun B A => (T.getD A.i []).contains B.i = true ∨ Indep ops B A)
  | [], i, acc, s, h => ⟨[], s, rfl, fun k A h => by simp at h, rfl, h, fun B _ A hA => by simp at hA, List.Pairwise.nil⟩
  | o :: l, i, acc, s, h => by
    simp only [opsKD] at h
    split at h
    · cases h
    · rename_i p hp
      split at h
      · rename_i hc
        simp only [Bool.and_eq_true] at hc
        obtain ⟨hok, hacc⟩ := hc
        rw [opK_bind] at h
        cases hs : Eng.opS tab Γ nt ops o s with
        | none => rw [hs] at h; cases h
        | some s1 =>
          rw [hs] at h
          simp only [Option.bind_some] at h
          obtain ⟨As, s', e1, e2, e3, e4, e5, e6⟩ := opsKD_run h
          refine ⟨⟨i, o, p, foot Γ s p o, outC p (opO tab Γ o.dst (fun q => opnd s (p ++ q)) (opnd s p) s.heap o.op)⟩ :: As, s', by simp [e1], ?_, ⟨s1, okA_spec hp hok hs rfl, e3⟩, e4, ?_, ?_⟩
          · intro k A hk
            cases k with
            | zero =>
              simp only [List.getElem?_cons_zero, Option.some.injEq] at hk
              subst hk
              rfl
            | succ k =>
              have := e2 k A (by simpa using hk)
              omega
          · intro B hB A hA
            rcases List.mem_cons.1 hA with rfl | hA
            · have := List.all_eq_true.1 hacc B hB
              simp only [Bool.or_eq_true] at this
              rcases this with h | h
              · exact .inl h
              · exact .inr (indepB_spec h)
            · exact e5 B (by simp [hB]) A hA
          · refine List.Pairwise.cons ?_ e6
            intro A hA
            exact e5 _ (by simp) A hA
      · cases h

section
variable {P : Program} {tab : Tab} {B : Bd tab}

theorem inv_drawn {nt : Nat} {s : St} {a : Act} {w w' : World} (hg : w.grownBy w' none) (hi : InvE B nt s a w) : InvE B nt s a w' := by
  obtain ⟨ι, N, h⟩ := hi
  obtain ⟨e, r⟩ := step_world (c := ⟨ι, s.heap, w, N⟩) h.heap hg
  refine ⟨ι, _, h.nt, h.defers, r, fun i => (h.env i).ext e, fun i p sv hp => ?_⟩
  obtain ⟨a1, a2, a3, a4⟩ := h.gen i p sv hp
  exact ⟨a1, a2, fun hb => (a3 hb).ext e, a4⟩

theorem depsOf_ready {ops : Array Oper} {listed : Array Bool} {i : Nat} (h : i ∈ Region.ready .any ops listed) {o : Oper} (ho : ops[i]? = some o) : i < ops.size ∧ listed.getD i true = false ∧ ∀ d ∈ depsOf o, listed.getD d false = true := by
  simp only [Region.ready, List.mem_filter, List.mem_range, Bool.and_eq_true, Bool.not_eq_true', ho, Option.map_some, Option.getD_some] at h
  refine ⟨h.1, h.2.1, ?_⟩
  intro d hd
  simp only [depsOf, List.mem_filterMap] at hd
  obtain ⟨e, he, hd⟩ := hd
  split at hd
  · rename_i hb
    simp only [Option.some.injEq] at hd
    subst hd
    have h2 := h.2.2
    rw [Array.all_eq_true'] at h2
    have := h2 e (by simpa using he)
    simp only [hb, Bool.not_true, Bool.false_or] at this
    exact this
  · cases hd
theorem ready_of {ops : Array Oper} {listed : Array Bool} {i : Nat} {o : Oper} (ho : ops[i]? = some o) (hl : listed.getD i true = false) (hd : ∀ d ∈ depsOf o, listed.getD d false = true) : i ∈ Region.ready .any ops listed := by
  simp only [Region.ready, List.mem_filter, List.mem_range, Bool.and_eq_true, Bool.not_eq_true', ho, Option.map_some, Option.getD_some]
  refine ⟨(Array.getElem?_eq_some_iff.1 ho).1, hl, ?_⟩
  rw [Array.all_eq_true']
  intro e he
  cases hb : Region.binds .any e with
  | false => rfl
  | true =>
    simp only [Bool.not_true, Bool.false_or]
    refine hd _ ?_
    simp only [depsOf, List.mem_filterMap]
    exact ⟨e, by simpa using he, by simp [hb]⟩

theorem wpAny_runs (tk : TabOk P tab) {Γ : Ctx} (hΓ : ∀ f con, Γ f = some con → Sound P tab (f % 10000) con) {nt : Nat} {ops : Array Oper} {T : List (List Nat)} (hT : GoodT ops.toList T) (hlow : edgesLow 0 ops.toList = true) {Q : Exit → Act → World → Prop} {s' : St}
    (hQ : ∀ a' w', InvE B nt s' a' w' → Q .normal a' w') : ∀ (fuel : Nat) (listed : Array Bool) (As : List An) (s : St) (a : Act) (w : World), listed.size = ops.size → As.length ≤ fuel →
    (∀ A ∈ As, ops[A.i]? = some A.o ∧ listed.getD A.i true = false) → (∀ k, k < ops.size → listed.getD k true = false → ∃ A ∈ As, A.i = k) → As.Pairwise (fun B A => B.i < A.i) → As.Pairwise (fun B A => (T.getD A.i []).contains B.i = true ∨ Indep ops B A) →
    (∀ k o, ops[k]? = some o → listed.getD k false = true → ∀ d ∈ depsOf o, listed.getD d false = true) → RunA tab Γ nt ops As s s' → InvE B nt s a w → wpAny P .any ops Q fuel listed a w := by
  have dual : ∀ (listed : Array Bool) (k : Nat), listed.size = ops.size → k < ops.size → (listed.getD k true = listed.getD k false) := by
    intro listed k hs hk
    simp [Array.getD, hs, hk]
  intro fuel
  induction fuel with
  | zero =>
    intro listed As s a w hsz hlen hA hall hsort hpw hdown hrun hi
    have : As = [] := List.eq_nil_of_length_eq_zero (by omega)
    subst this
    have hs : s' = s := hrun
    subst hs
    refine ⟨?_, hQ a w hi⟩
    refine List.eq_nil_iff_forall_not_mem.2 (fun i hi' => ?_)
    have hlt : i < ops.size := by simp only [Region.ready, List.mem_filter, List.mem_range] at hi'; exact hi'.1
    obtain ⟨_, h2, _⟩ := depsOf_ready hi' (show ops[i]? = some ops[i] by simp [hlt])
    obtain ⟨A, hA', _⟩ := hall i hlt h2
    simp at hA'
  | succ fuel ih =>
    intro listed As s a w hsz hlen hA hall hsort hpw hdown hrun hi
    refine ⟨?_, ?_⟩
    · intro hno
      cases As with
      | nil =>
        have hs : s' = s := hrun
        subst hs
        exact hQ a w hi
      | cons A r =>
        exfalso
        obtain ⟨ho, hl⟩ := hA A (by simp)
        have : A.i ∈ Region.ready .any ops listed := by
          refine ready_of ho hl ?_
          intro d hd
          have hdl : d < A.i := by
            have := edgesLow_spec hlow A.i A.o (by simpa using ho) d hd
            omega
          have hAi : A.i < ops.size := (Array.getElem?_eq_some_iff.1 ho).1
          cases hq : listed.getD d false with
          | true => rfl
          | false =>
            obtain ⟨C, hC, hCi⟩ := hall d (by omega) (by rw [dual listed d hsz (by omega)]; exact hq)
            rcases List.mem_cons.1 hC with rfl | hC
            · omega
            · have := List.rel_of_pairwise_cons hsort hC
              omega
        rw [hno] at this
        cases this
    · intro i hir
      have hlt : i < ops.size := by simp only [Region.ready, List.mem_filter, List.mem_range] at hir; exact hir.1
      obtain ⟨_, hli, hdeps⟩ := depsOf_ready hir (show ops[i]? = some ops[i] by simp [hlt])
      obtain ⟨A, hAm, hAi⟩ := hall i hlt hli
      subst hAi
      obtain ⟨ho, _⟩ := hA A hAm
      have hoA : ops[A.i] = A.o := by
        have := ho
        rw [Array.getElem?_eq_getElem hlt] at this
        exact Option.some.inj this
      rw [hoA] at hdeps
      obtain ⟨R1, R2, rfl⟩ := List.append_of_mem hAm
      have hI : ∀ C ∈ R1, Indep ops C A := by
        intro C hC
        have h1 := (List.pairwise_append.1 hpw).2.2 C hC A (by simp)
        rcases h1 with h1 | h1
        · exfalso
          have hcl : listed.getD C.i false = true := by
            refine hT A.i C.i (by simpa using h1) (fun k => listed.getD k false) (fun k o hk hL d hd => hdown k o (by simpa using hk) hL d hd) ?_
            intro o hko d hd
            have : o = A.o := by
              have h2 : ops[A.i]? = some o := by simpa using hko
              rw [ho] at h2
              exact (Option.some.inj h2).symm
            subst this
            exact hdeps d hd
          obtain ⟨hco, hcl2⟩ := hA C (by simp [hC])
          rw [dual listed C.i hsz (Array.getElem?_eq_some_iff.1 hco).1, hcl] at hcl2
          cases hcl2
        · exact h1
      obtain ⟨s1, hst, hrun'⟩ := hrun.front hI
      have hset : ∀ k, k ≠ A.i → ∀ b, (listed.setIfInBounds A.i true).getD k b = listed.getD k b := by
        intro k hk b
        exact Go.getD_set_ne b (Ne.symm hk)
      have hsetA : ∀ b, (listed.setIfInBounds A.i true).getD A.i b = true := by
        intro b
        simp [Array.getD, hsz, hlt]
      have hsub : (R1 ++ R2).Sublist (R1 ++ A :: R2) := List.Sublist.append (List.Sublist.refl _) (List.sublist_cons_self A R2)
      have hne : ∀ C ∈ R1 ++ R2, C.i ≠ A.i := by
        intro C hC
        rcases List.mem_append.1 hC with h | h
        · have := (List.pairwise_append.1 hsort).2.2 C h A (by simp)
          omega
        · have := List.rel_of_pairwise_cons (List.pairwise_append.1 hsort).2.1 h
          omega
      have next : ∀ a' w', InvE B nt s1 a' w' → wpAny P .any ops Q fuel (listed.setIfInBounds A.i true) a' w' := by
        intro a' w' hi'
        refine ih _ (R1 ++ R2) s1 a' w' (by simp [hsz]) ?_ ?_ ?_ (hsort.sublist hsub) (hpw.sublist hsub) ?_ hrun' hi'
        · simp only [List.length_append, List.length_cons] at hlen ⊢
          omega
        · intro C hC
          obtain ⟨h1, h2⟩ := hA C (hsub.subset hC)
          exact ⟨h1, by rw [hset _ (hne C hC)]; exact h2⟩
        · intro k hk hl
          by_cases hkA : k = A.i
          · subst hkA
            rw [hsetA] at hl
            cases hl
          · rw [hset k hkA] at hl
            obtain ⟨C, hC, hCi⟩ := hall k hk hl
            refine ⟨C, ?_, hCi⟩
            rcases List.mem_append.1 hC with h | h
            · simp [h]
            · rcases List.mem_cons.1 h with rfl | h
              · exact absurd hCi.symm hkA
              · simp [h]
        · intro k o hk hl d hd
          have mono : ∀ d, listed.getD d false = true → (listed.setIfInBounds A.i true).getD d false = true := by
            intro d hd
            by_cases e : d = A.i
            · subst e; exact hsetA _
            · rw [hset d e]; exact hd
          by_cases hkA : k = A.i
          · subst hkA
            have : o = A.o := by rw [ho] at hk; exact (Option.some.inj hk).symm
            subst this
            exact mono d (hdeps d hd)
          · rw [hset k hkA] at hl
            exact mono d (hdown k o hk hl d hd)
      unfold wpOp
      simp only [ho]
      have := opS_sound (B := B) tk hΓ hst.opS hi (Q := Q) (next := wpAny P .any ops Q fuel (listed.setIfInBounds A.i true)) next
      by_cases hw : Region.wanted A.o (yielded ops a.tmps) = true
      · simp only [hw, if_true] at this ⊢
        exact .inl this
      · simp only [hw, if_false, Bool.false_eq_true] at this ⊢
        exact this

theorem region_any (tk : TabOk P tab) {Γ : Ctx} (hΓ : ∀ f con, Γ f = some con → Sound P tab (f % 10000) con) (hm : P.follows .mixedOrders = true) {R : Type} {nt id : Nat} {ops : Array Oper} {K : St → Option R} {s : St} {r : R} {a : Act} {w : World} {Q : Exit → Act → World → Prop}
    (hlow : edgesLow 0 ops.toList = true) (h : opsKD tab Γ nt ops (ancT ops.toList []) 0 ops.toList [] K s = some r) (hi : InvE B nt s a w) (hQ : ∀ s' a' w', K s' = some r → InvE B nt s' a' w' → Q .normal a' w') : (Code.region id ops true).wp P Q a w := by
  obtain ⟨As, s', e1, e2, e3, e4, _, e6⟩ := opsKD_run h
  have hlenA : As.length = ops.size := by have := congrArg List.length e1; simpa using this
  have hoA : ∀ (k : Nat) (A : An), As[k]? = some A → ops[k]? = some A.o := by
    intro k A hk
    have : (As.map (·.o))[k]? = some A.o := by simp [hk]
    rw [e1] at this
    simpa using this
  refine wp_region_any hm ?_
  refine wpAny_runs tk hΓ (ops := ops) (ancT_good (ops := ops.toList) (pre := []) rfl rfl ?_ ?_) hlow (fun a' w' hi' => hQ s' a' w' e4 hi') ops.size _ As s a _ (by simp) (by omega) ?_ ?_ ?_ e6 ?_ e3 (inv_drawn (w := w) ⟨rfl, rfl, rfl, Nat.le_refl _, fun _ _ _ => rfl⟩ hi)
  · intro i j hj
    simp [List.getD] at hj
  · intro o ho d hd
    obtain ⟨j, hj⟩ := List.mem_iff_getElem?.1 ho
    have := edgesLow_spec hlow j o hj d hd
    have hjl := (List.getElem?_eq_some_iff.1 hj).1
    omega
  · intro A hA
    obtain ⟨k, hk⟩ := List.mem_iff_getElem?.1 hA
    have hAi := e2 k A hk
    have ho := hoA k A hk
    have : A.i = k := by omega
    refine ⟨by rw [this]; exact ho, ?_⟩
    have hlt : A.i < ops.size := by rw [this]; exact (Array.getElem?_eq_some_iff.1 ho).1
    simp [Array.getD, hlt]
  · intro k hk _
    have hk' : k < As.length := by rw [hlenA]; exact hk
    refine ⟨As[k], List.getElem_mem hk', ?_⟩
    have := e2 k As[k] (by simp [hk'])
    omega
  · rw [List.pairwise_iff_getElem]
    intro i j hi' hj' hij
    have h1 := e2 i As[i] (by simp [hi'])
    have h2 := e2 j As[j] (by simp [hj'])
    omega
  · intro k o hk hl
    exfalso
    have hlt := (Array.getElem?_eq_some_iff.1 hk).1
    simp [Array.getD, hlt] at hl
end
end Go.Eng


