/- Soundness of the evaluator at whole functions, and the reading of arguments. -/
import Derived.Test.YtpoikihkllfmbaaDoorEngC
import Derived.Lib.SliceRun
import Derived.ChangeArms
import Derived.WideShapes
import Derived.OpenShut
set_option linter.unusedVariables false
set_option linter.unusedSimpArgs false
namespace Go.Eng
section
variable {P : Program} {tab : Tab} {B : Bd tab}

def exOf : Ex → Exit
  | .normal => .normal
  | .exit i => .exit i
  | .ret => .ret

/-- a loop whose rounds are counted -/
theorem wp_loop_fuel {c : Code} {Q : Exit → Act → World → Prop} (I : Nat → Act → World → Prop) (h0 : ∀ a w, ¬ I 0 a w) (round : ∀ m a w, I (m + 1) a w → c.wp P (Exit.then (I m) Q) a w) {m : Nat} {a : Act} {w : World} (h : I m a w) : (Code.loop c).wp P Q a w := by
  intro b k cs
  have key : ∀ m a w, I m a w → ∃ e a' w', Q e a' w' ∧ Arrives P (lone (b.at a (.code c :: .inLoop c :: k)) cs w) b k cs e a' w' := by
    intro m
    induction m with
    | zero => intro a w h; exact (h0 a w h).elim
    | succ m ih =>
      intro a w h
      obtain ⟨e, a₁, w₁, hq, harr⟩ := round m a w h b (.inLoop c :: k) cs
      cases e with
      | normal =>
        obtain ⟨e₂, a₂, w₂, hq₂, harr₂⟩ := ih a₁ w₁ hq
        exact ⟨e₂, a₂, w₂, hq₂, .of_steps (Steps.trans harr (.one step_inLoop)) harr₂⟩
      | exit id => exact ⟨_, a₁, w₁, hq, .pass (x := .inLoop c) rfl (fun _ _ => .inl (by simp)) harr⟩
      | goto l => exact ⟨_, a₁, w₁, hq, .pass (x := .inLoop c) rfl (fun _ _ => .inl (by simp)) harr⟩
      | ret => exact ⟨_, a₁, w₁, hq, .pass (x := .inLoop c) rfl (fun _ _ => .inl (by simp)) harr⟩
      | panic ch => exact ⟨_, a₁, w₁, hq, .pass (x := .inLoop c) rfl (fun _ _ => .inl (by simp)) harr⟩
      | outgrown => exact ⟨_, a₁, w₁, hq, .pass (x := .inLoop c) rfl (fun _ _ => .inl (by simp)) harr⟩
  obtain ⟨e, a', w', hq, harr⟩ := key m a w h
  exact ⟨e, a', w', hq, .of_steps (.one step_loop) harr⟩

theorem range_ops (ops : Array Oper) : (List.range ops.size).map (fun i => ops.getD i default) = ops.toList := by
  apply List.ext_getElem?
  intro i
  by_cases h : i < ops.size
  · simp [h, Array.getD]
  · simp [h]

theorem fzB_sound {ι : Nat → Value} {h : Heap} {w : World} {N : Nat → Prop} (hr : HR B ⟨ι, h, w, N⟩) (l : Nat) : ∃ N1, Ext ⟨ι, h, w, N⟩ ⟨ι, fzB h l, w, N1⟩ ∧ HR B ⟨ι, fzB h l, w, N1⟩ := by
  unfold fzB
  split
  · rename_i ro cs ho
    cases hf : frzAll h cs with
    | mk cs1 h2 =>
      obtain ⟨hu0, g, hι, hW, us, T, hg, hsz, hls⟩ := hr.obj l _ ho
      obtain ⟨N1, a1, b1, d1, e1, len1⟩ := frzAll_sound hr hf hls
      have ho2 : h2.obj l = some (.box ro cs) := by have := frzAll_box cs h l ro cs ho; rw [hf] at this; exact this
      obtain ⟨ext2, hr2⟩ := step_mod (c := ⟨ι, h2, w, N1⟩) d1 l (.box ro cs) (.box ro cs1) ho2 trivial none (by simp) (w' := w) ⟨rfl, rfl, rfl, Nat.le_refl _, fun _ _ _ => rfl⟩
        (fun ext => ⟨g, hι, hW, us, T, hg, by rw [len1]; exact hsz, e1.ext ext⟩)
      exact ⟨N1, b1.trans ext2, hr2⟩
  · exact ⟨N, Ext.refl _, hr⟩
theorem inv_fzs {nt : Nat} {e : Nat → SV} {a : Act} {w : World} : ∀ (ls : List Nat) {h : Heap}, InvE B nt (mkSt e h) a w → InvE B nt (mkSt e (fzs ls h)) a w
  | [], h, hi => hi
  | l :: r, h, ⟨ι, N, hi⟩ => by
    obtain ⟨N1, ext, hr⟩ := fzB_sound hi.heap l
    exact inv_fzs r ⟨ι, N1, hi.nt, hi.defers, hr, fun i => (hi.env i).ext ext, fun i p sv hg => by simp [mkSt] at hg⟩

def PostK {R : Type} (B : Bd tab) (nt : Nat) (K : Ex → St → Option R) (r : R) : Exit → Act → World → Prop := fun x a w => ∃ e s, x = exOf e ∧ K e s = some r ∧ InvE B nt s a w

theorem codeK_sound (tk : TabOk P tab) {Γ : Ctx} (hΓ : ∀ f con, Γ f = some con → Sound P tab (f % 10000) con) (hm : P.follows .mixedOrders = true) {nt : Nat} {an : Anns} {n : Nat} : ∀ (c : Code) {R : Type} {K : Ex → St → Option R} {s : St} {r : R} {a : Act} {w : World},
    codeK tab Γ nt an n c R K s = some r → InvE B nt s a w → c.wp P (PostK B nt K r) a w := by
  intro c
  induction c with
  | skip =>
    intro R K s r a w h hi
    exact wp_skip ⟨.normal, s, rfl, h, hi⟩
  | region id ops draw =>
    intro R K s r a w h hi
    cases draw with
    | false =>
      simp only [codeK] at h
      rw [opsK_bind] at h
      cases hs : opsS tab Γ nt ops ops.toList s with
      | none => rw [hs] at h; cases h
      | some s1 =>
        rw [hs] at h
        simp only [Option.bind_some] at h
        have fin : ∀ a' w', InvE B nt s1 a' w' → PostK B nt K r .normal a' w' := fun a' w' hi' => ⟨.normal, _, rfl, h, inv_fzs _ (inv_clear hi')⟩
        exact wp_region (opsS_sound tk hΓ (fun i hi' => by simpa using hi') (by rw [range_ops]; exact hs) hi fin)
    | true =>
      simp only [codeK] at h
      split at h
      · rename_i hlow
        exact region_any tk hΓ hm hlow h hi (fun s' a' w' hk hi' => ⟨.normal, _, rfl, hk, inv_fzs _ (inv_clear hi')⟩)
      · cases h
  | seq x y ihx ihy =>
    intro R K s r a w h hi
    simp only [codeK] at h
    refine wp_seq (wp_mono (ihx h hi) ?_)
    rintro e a' w' ⟨e', s', rfl, hk, hi'⟩
    cases e' with
    | normal => exact ihy hk hi'
    | exit i => exact ⟨.exit i, s', rfl, hk, hi'⟩
    | ret => exact ⟨.ret, s', rfl, hk, hi'⟩
  | cond c x y ihx ihy =>
    intro R K s r a w h hi
    simp only [codeK] at h
    split at h
    · rename_i t ht
      obtain ⟨ι, N, hi0⟩ := hi
      have hc : a.eval c = .bool t := opnd_sound hi0 (p := []) rfl ht
      have hi : InvE B nt s a w := ⟨ι, N, hi0⟩
      refine wp_cond hc ?_
      split at h
      · cases t with
        | true => simp only [if_true] at h ⊢; exact ihx h hi
        | false => simp only [Bool.false_eq_true, if_false] at h ⊢; exact ihy h hi
      · rename_i A hj
        rw [Option.bind_eq_some_iff] at h
        obtain ⟨d, hd, hk⟩ := h
        have fin : ∀ (e : Exit) (a' : Act) (w' : World), PostK B nt (fun e s' => match e with | .normal => pack A s' | _ => none) d e a' w' → PostK B nt K r e a' w' := by
          rintro e a' w' ⟨e', s', rfl, hp, hi'⟩
          cases e' with
          | normal => exact ⟨.normal, _, rfl, hk, pack_sound hp hi'⟩
          | exit i => cases hp
          | ret => cases hp
        cases t with
        | true => simp only [if_true] at hd ⊢; exact wp_mono (ihx hd hi) fin
        | false => simp only [Bool.false_eq_true, if_false] at hd ⊢; exact wp_mono (ihy hd hi) fin
      · rename_i A hj
        rw [Option.bind_eq_some_iff] at h
        obtain ⟨d, hd, hk⟩ := h
        have fin : ∀ (e : Exit) (a' : Act) (w' : World), PostK B nt (fun e s' => match e with | .normal => (pack A s').map .inl | e => (K e s').map .inr) d e a' w' → PostK B nt K r e a' w' := by
          rintro e a' w' ⟨e', s', rfl, hp, hi'⟩
          cases e' with
          | normal =>
            simp only [Option.map_eq_some_iff] at hp
            obtain ⟨d', hp, rfl⟩ := hp
            exact ⟨.normal, _, rfl, hk, pack_sound hp hi'⟩
          | exit i =>
            simp only [Option.map_eq_some_iff] at hp
            obtain ⟨r', hp, rfl⟩ := hp
            simp only [Option.some.injEq] at hk
            subst hk
            exact ⟨.exit i, s', rfl, hp, hi'⟩
          | ret =>
            simp only [Option.map_eq_some_iff] at hp
            obtain ⟨r', hp, rfl⟩ := hp
            simp only [Option.some.injEq] at hk
            subst hk
            exact ⟨.ret, s', rfl, hp, hi'⟩
        cases t with
        | true => simp only [if_true] at hd ⊢; exact wp_mono (ihx hd hi) fin
        | false => simp only [Bool.false_eq_true, if_false] at hd ⊢; exact wp_mono (ihy hd hi) fin
    · cases h
  | block id x ih =>
    intro R K s r a w h hi
    simp only [codeK] at h
    refine wp_block (wp_mono (ih h hi) ?_)
    rintro e a' w' ⟨e', s', rfl, hk, hi'⟩
    cases e' with
    | normal => exact ⟨.normal, s', rfl, hk, hi'⟩
    | exit i =>
      simp only at hk
      simp only [exOf, Exit.inBlock]
      split
      · rename_i e
        rw [if_pos e] at hk
        exact ⟨.normal, s', rfl, hk, hi'⟩
      · rename_i e
        rw [if_neg e] at hk
        exact ⟨.exit i, s', rfl, hk, hi'⟩
    | ret => exact ⟨.ret, s', rfl, hk, hi'⟩
  | loop x ih =>
    intro R K s r a w h hi
    simp only [codeK] at h
    split at h
    · cases h
    · rename_i A hA
      split at h
      · cases h
      · rename_i d hd
        refine wp_loop_fuel (fun m a w => ∃ d, iter (fun J d => codeK tab Γ nt an n x R (fun e s' => match e with
          | .normal => match pack A s' with | some d' => J d' | none => none
          | .exit i => K (.exit i) s'
          | .ret => K .ret s') (unpack A d)) m d = some r ∧ InvE B nt (unpack A d) a w) ?_ ?_ ⟨d, h, pack_sound hd hi⟩
        · rintro a w ⟨d, h, _⟩
          cases h
        · rintro m a w ⟨d, h, hi'⟩
          simp only [iter] at h
          refine wp_mono (ih h hi') ?_
          rintro e a' w' ⟨e', s', rfl, hk, hi2⟩
          cases e' with
          | normal =>
            simp only at hk
            split at hk
            · rename_i d' hd'
              exact ⟨d', hk, pack_sound hd' hi2⟩
            · cases hk
          | exit i => exact ⟨.exit i, s', rfl, hk, hi2⟩
          | ret => exact ⟨.ret, s', rfl, hk, hi2⟩
  | exit id =>
    intro R K s r a w h hi
    exact wp_exit ⟨.exit id, s, rfl, h, hi⟩
  | ret =>
    intro R K s r a w h hi
    exact wp_ret ⟨.ret, s, rfl, h, hi⟩
  | rangeFunc _ _ _ _ _ _ => intro R K s r a w h; simp [codeK] at h
  | scope _ _ => intro R K s r a w h; simp [codeK] at h
  | label _ => intro R K s r a w h; simp [codeK] at h
  | goto _ => intro R K s r a w h; simp [codeK] at h
  | refuse _ => intro R K s r a w h; simp [codeK] at h
end
end Go.Eng


set_option linter.unusedVariables false
set_option linter.unusedSimpArgs false
namespace Go.Eng
section
variable {P : Program} {tab : Tab} {B : Bd tab}

/-! ### the beginning -/
theorem mask_ls {c : Cx} : ∀ {m : List (Option Ty)} {d : Den (maskTy m)} {rest : List Lf} {g : Nat → Option Value}, MaskR c.w c.N m d g → LsR c (maskE m (leaves (maskTy m) d ++ rest)) g ∧ (maskE m (leaves (maskTy m) d ++ rest)).length = m.length
  | [], _, _, _, _ => ⟨LsR.nil _ _, rfl⟩
  | none :: m, d, rest, g, h => by
    obtain ⟨a, b⟩ := mask_ls (rest := rest) h.2
    refine ⟨LsR.cons.2 ⟨?_, a⟩, ?_⟩
    · obtain ⟨v, hv⟩ := Option.isSome_iff_exists.1 h.1
      exact ⟨v, hv, trivial⟩
    · simp only [maskE, List.length_cons]
      exact congrArg (· + 1) b
  | some t :: m, d, rest, g, h => by
    obtain ⟨⟨v, e, ht, hr⟩, h2⟩ := h
    obtain ⟨a, b⟩ := mask_ls (rest := rest) h2
    have hl := leaves_length t d.1
    have hlv : leaves (maskTy (some t :: m)) d = leaves t d.1 ++ leaves (maskTy m) d.2 := rfl
    rw [hlv]
    have hd : (leaves t d.1 ++ leaves (maskTy m) d.2 ++ rest).drop t.size = leaves (maskTy m) d.2 ++ rest := by rw [← hl]; simp
    rw [ht] at hl
    obtain ⟨x, hx⟩ := List.length_eq_one_iff.1 hl
    have hls := rd_leaves (c := c) hr
    simp only [maskE, hd]
    refine ⟨LsR.cons.2 ⟨?_, a⟩, by simp only [List.length_cons]; exact congrArg (· + 1) b⟩
    rw [hx] at hls ⊢
    obtain ⟨⟨u, hu, hlr⟩, _⟩ := LsR.cons.1 hls
    simp only [if_true, Option.some.injEq] at hu
    subst hu
    exact ⟨v, e, hlr⟩

theorem capsE_sound {w : World} {N : Nat → Prop} {al : List Value} : ∀ {caps : List Cap} {gs : List Nat} {d : Den (capsTy caps)} {rest : List Lf} {p : Nat} {h h' : Heap} {ι : Nat → Value}, CapsR w N al caps gs d → HR B ⟨ι, h, w, N⟩ → gs.Nodup →
    (∀ l o g, h.obj l = some o → blk (ι l) = some g → g ∉ gs) → (∀ j ro cs, h.obj (1000 + j) = some (.box ro cs) → ∃ g, ι (1000 + j) = .pointer (some ⟨g, 0, none⟩) ∧ al[j]? = some (.pointer (some ⟨g, 0, none⟩))) →
    capsE p caps (leaves (capsTy caps) d ++ rest) h = some h' →
    ∃ ι', HR B ⟨ι', h', w, N⟩ ∧ Ext ⟨ι, h, w, N⟩ ⟨ι', h', w, N⟩ ∧ (∀ (k g : Nat), gs[k]? = some g → h'.used (p + k) = true ∧ ι' (p + k) = ptrOf g) ∧ (∀ l, 1000 ≤ l → h'.obj l = h.obj l ∧ h'.used l = h.used l ∧ ι' l = ι l) ∧
      (∀ l o g, h'.obj l = some o → blk (ι' l) = some g → g ∈ gs ∨ (∃ o, h.obj l = some o) ∧ blk (ι l) = some g) ∧ gs.length = caps.length
  | [], [], d, rest, p, h, h', ι, hC, hr, hnd, hb, hJ, he => by
    simp only [capsE, Option.some.injEq] at he
    subst he
    exact ⟨ι, hr, Ext.refl _, fun k g h => by simp at h, fun l _ => ⟨rfl, rfl, rfl⟩, fun l o g h1 h2 => .inr ⟨⟨o, h1⟩, h2⟩, rfl⟩
  | [], _ :: _, d, rest, p, h, h', ι, hC, hr, hnd, hb, hJ, he => hC.elim
  | .ptr j :: r, [], d, rest, p, h, h', ι, hC, hr, hnd, hb, hJ, he => hC.elim
  | .dat j :: r, [], d, rest, p, h, h', ι, hC, hr, hnd, hb, hJ, he => hC.elim
  | cap :: r, g :: gs, d, rest, p, h, h', ι, hC, hr, hnd, hb, hJ, he => by
    simp only [capsE] at he
    split at he
    · cases he
    rename_i hp
    simp only [not_or, Bool.not_eq_true, Nat.not_le] at hp
    simp only [List.nodup_cons] at hnd
    have hg0 : N g ∧ ∃ us T, w.heap[g]? = some (.cells us T (0, 0)) ∧ (∀ ι' : Nat → Value, (∀ l, l ≠ p → ι' l = ι l) → Ext ⟨ι, h, w, N⟩ ⟨ι', h.new p (.box true (capE h (leaves (capsTy (cap :: r)) d ++ rest) cap)), w, N⟩ →
        us.size = (capE h (leaves (capsTy (cap :: r)) d ++ rest) cap).length ∧ LsR ⟨ι', h.new p (.box true (capE h (leaves (capsTy (cap :: r)) d ++ rest) cap)), w, N⟩ (capE h (leaves (capsTy (cap :: r)) d ++ rest) cap) (fun j => us[j]?)) := by
      cases cap with
      | ptr j =>
        obtain ⟨hN, ⟨u, T, hh, hal, h1⟩, hC2⟩ := hC
        refine ⟨hN, #[u], T, hh, fun ι' hι' ext => ⟨rfl, ?_⟩⟩
        simp only [capE]
        refine LsR.cons.2 ⟨⟨u, rfl, ?_⟩, LsR.nil _ _⟩
        split
        · rename_i hu
          simp only [LR]
          refine ⟨ext.used _ hu, h1, fun ro cs ho => ?_⟩
          have hne : 1000 + j ≠ p := by omega
          simp only [Heap.new, upd, if_neg hne] at ho
          obtain ⟨g', e1, e2⟩ := hJ j ro cs ho
          rw [hι' _ hne]
          rw [hal] at e2
          exact ⟨g', e1, Option.some.inj e2⟩
        · trivial
      | dat m =>
        obtain ⟨hN, ⟨us, T, hh, hsz, hm⟩, hC2⟩ := hC
        refine ⟨hN, us, T, hh, fun ι' hι' ext => ?_⟩
        have hlv : leaves (capsTy (.dat m :: r)) d ++ rest = leaves (maskTy m) d.1 ++ (leaves (capsTy r) d.2 ++ rest) := by
          rw [show leaves (capsTy (.dat m :: r)) d = leaves (maskTy m) d.1 ++ leaves (capsTy r) d.2 from rfl, List.append_assoc]
        rw [hlv]
        obtain ⟨a, b⟩ := mask_ls (c := ⟨ι', h.new p (.box true (capE h (leaves (maskTy m) d.1 ++ (leaves (capsTy r) d.2 ++ rest)) (.dat m))), w, N⟩) (rest := leaves (capsTy r) d.2 ++ rest) hm
        exact ⟨by simp only [capE]; rw [b, hsz], a⟩
    obtain ⟨hN, us, T, hh, hcell⟩ := hg0
    obtain ⟨e2, r2⟩ := step_add (c := ⟨ι, h, w, N⟩) hr p hp.1 (ptrOf g)
      (fun g' hg' => by
        simp only [ptrOf, blk, Option.some.injEq] at hg'
        subst hg'
        exact ⟨hN, fun l o ho hbl => hb l o g ho hbl (by simp)⟩) (.box true (capE h (leaves (capsTy (cap :: r)) d ++ rest) cap))
      (fun ext => by
        obtain ⟨c1, c2⟩ := hcell _ (fun l hl => by simp [upd, hl]) ext
        exact ⟨g, by simp [upd, ptrOf], fun h => by simp at h, us, T, hh, c1, c2⟩)
      (fun ro cs v' ho hq => by rw [B.lo p hp.2] at hq; cases hq)
    have hC2 : ∃ d2 : Den (capsTy r), CapsR w N al r gs d2 ∧ (leaves (capsTy (cap :: r)) d ++ rest).drop cap.size = leaves (capsTy r) d2 ++ rest := by
      cases cap with
      | ptr j => exact ⟨d, hC.2.2, rfl⟩
      | dat m =>
        refine ⟨d.2, hC.2.2, ?_⟩
        have hl := leaves_length (maskTy m) d.1
        rw [show leaves (capsTy (.dat m :: r)) d = leaves (maskTy m) d.1 ++ leaves (capsTy r) d.2 from rfl, List.append_assoc]
        simp only [Cap.size]
        rw [← hl]
        simp
    obtain ⟨d2, hC2, hdrop⟩ := hC2
    rw [hdrop] at he
    obtain ⟨ι', a1, a2, a3, a4, a5, a6⟩ := capsE_sound (caps := r) (gs := gs) (p := p + 1) hC2 r2 hnd.2 (by
      intro l o g' ho hbl
      by_cases el : l = p
      · subst el
        simp only [upd, if_true, ptrOf, blk, Option.some.injEq] at hbl
        subst hbl
        exact hnd.1
      · simp only [Heap.new, upd, if_neg el] at ho hbl
        have := hb l o g' ho hbl
        simp only [List.mem_cons, not_or] at this
        exact this.2) (by
      intro j ro cs ho
      have hne : 1000 + j ≠ p := by omega
      simp only [Heap.new, upd, if_neg hne] at ho ⊢
      exact hJ j ro cs ho) he
    refine ⟨ι', a1, e2.trans a2, ?_, ?_, ?_, by simp [a6]⟩
    · intro k g' hk
      cases k with
      | zero =>
        simp at hk
        subst hk
        have hu : (h.new p (.box true (capE h (leaves (capsTy (cap :: r)) d ++ rest) cap))).used p = true := by simp [Heap.new, upd]
        exact ⟨a2.used p hu, by rw [Nat.add_zero]; exact (a2.place p hu).trans (by simp [upd])⟩
      | succ k =>
        have := a3 k g' (by simpa using hk)
        rw [show p + (k + 1) = p + 1 + k by omega]
        exact this
    · intro l hl
      obtain ⟨b1, b2, b3⟩ := a4 l hl
      have hne : l ≠ p := by omega
      rw [b1, b2, b3]
      simp [Heap.new, upd, hne]
    · intro l o g' ho hbl
      rcases a5 l o g' ho hbl with h1 | ⟨⟨o1, h1⟩, h2⟩
      · exact .inl (by simp [h1])
      · by_cases el : l = p
        · subst el
          simp only [upd, if_true, ptrOf, blk, Option.some.injEq] at h2
          exact .inl (by simp [h2])
        · simp only [Heap.new, upd, if_neg el] at h1 h2
          exact .inr ⟨⟨o1, h1⟩, h2⟩

theorem start_sound {w : World} {N : Nat → Prop} {al : List Value} {V : Nat → Value} : ∀ {ins : List PK} {vals : List Value} {d : Den (chain (ins.map PK.ty))} {bs : List (Bool × Nat)} {i : Nat} {e : Nat → SV} {h : Heap} {ι : Nat → Value},
    ArgsR w N al ins vals d bs → (bs.map (·.2)).Nodup → HR B ⟨ι, h, w, N⟩ → (∀ l, 1000 + i ≤ l → h.used l = false) →
    (∀ l o g, h.obj l = some o → blk (ι l) = some g → g ∉ bs.map (·.2)) → (∀ b, (false, b) ∈ bs → B.W b) → (∀ j v, vals[j]? = some v → V (i + j) = v) →
    (∀ j v v', vals[j]? = some v → B.pin (1000 + (i + j)) = some v' → v = v') →
    (∀ j v, vals[j]? = some v → al[i + j]? = some v) → (∀ j ro cs, h.obj (1000 + j) = some (.box ro cs) → ∃ g, ι (1000 + j) = .pointer (some ⟨g, 0, none⟩) ∧ al[j]? = some (.pointer (some ⟨g, 0, none⟩))) → (∀ k, SVR ⟨ι, h, w, N⟩ (e k) (V k)) →
    ∃ ι', HR B ⟨ι', (startE i ins (leaves _ d) e h).2, w, N⟩ ∧ ∀ k, SVR ⟨ι', (startE i ins (leaves _ d) e h).2, w, N⟩ ((startE i ins (leaves _ d) e h).1 k) (V k)
  | [], vals, d, bs, i, e, h, ι, hA, hnd, hr, hu, hb, hW, hV, hp, hal, hJ, he => ⟨ι, hr, he⟩
  | .v t :: r, [], d, bs, i, e, h, ι, hA, hnd, hr, hu, hb, hW, hV, hp, hal, hJ, he => by simp [ArgsR] at hA
  | .p ro t :: r, [], d, bs, i, e, h, ι, hA, hnd, hr, hu, hb, hW, hV, hp, hal, hJ, he => by simp [ArgsR] at hA
  | .v t :: r, v :: vs, d, bs, i, e, h, ι, hA, hnd, hr, hu, hb, hW, hV, hp, hal, hJ, he => by
    simp only [ArgsR] at hA
    obtain ⟨h1, h2⟩ := hA
    have hl : leaves (chain ((PK.v t :: r).map PK.ty)) d = leaves t d.1 ++ leaves (chain (r.map PK.ty)) d.2 := rfl
    have hlen := leaves_length t d.1
    have hdrop : (leaves t d.1 ++ leaves (chain (r.map PK.ty)) d.2).drop t.size = leaves (chain (r.map PK.ty)) d.2 := by rw [← hlen]; simp
    have htake : (leaves t d.1 ++ leaves (chain (r.map PK.ty)) d.2).take t.size = leaves t d.1 := by rw [← hlen]; simp
    rw [hl]
    simp only [startE, hdrop, htake]
    refine start_sound (ins := r) (vals := vs) (bs := bs) h2 hnd hr (fun l hl' => hu l (by omega)) hb hW (fun j u hj => by rw [← hV (j + 1) u (by simpa using hj)]; congr 1; omega)
      (fun j u v' hj hq => hp (j + 1) u v' (by simpa using hj) (by rw [← hq]; congr 2; omega)) (fun j u hj => by rw [← hal (j + 1) u (by simpa using hj)]; congr 1; omega) hJ ?_
    intro k
    by_cases hk : k = i
    · subst hk
      simp only [upd, if_true]
      have hvk : V k = v := hV 0 v rfl
      rw [hvk]
      have hs := rdv_sv (c := ⟨ι, h, w, N⟩) h1
      cases ht : t.isAgg with
      | true =>
        rw [ht] at hs
        exact hs
      | false =>
        rw [ht] at hs
        obtain ⟨x, hx, hxv⟩ := hs
        rw [hx]
        exact hxv
    · simp only [upd, if_neg hk]
      exact he k
  | .p ro t :: r, v :: vs, d, [], i, e, h, ι, hA, hnd, hr, hu, hb, hW, hV, hp, hal, hJ, he => by simp [ArgsR] at hA
  | .f n :: r, [], d, bs, i, e, h, ι, hA, hnd, hr, hu, hb, hW, hV, hp, hal, hJ, he => by simp [ArgsR] at hA
  | .f n :: r, v :: vs, d, bs, i, e, h, ι, hA, hnd, hr, hu, hb, hW, hV, hp, hal, hJ, he => by
    simp only [ArgsR] at hA
    obtain ⟨rfl, h2⟩ := hA
    have hl : leaves (chain ((PK.f n :: r).map PK.ty)) d = leaves (chain (r.map PK.ty)) d.2 := rfl
    rw [hl]
    simp only [startE]
    refine start_sound (ins := r) (vals := vs) (bs := bs) h2 hnd hr (fun l hl' => hu l (by omega)) hb hW (fun j u hj => by rw [← hV (j + 1) u (by simpa using hj)]; congr 1; omega)
      (fun j u v' hj hq => hp (j + 1) u v' (by simpa using hj) (by rw [← hq]; congr 2; omega)) (fun j u hj => by rw [← hal (j + 1) u (by simpa using hj)]; congr 1; omega) hJ ?_
    intro k
    by_cases hk : k = i
    · subst hk
      simp only [upd, if_true]
      exact hV 0 _ rfl
    · simp only [upd, if_neg hk]
      exact he k
  | .q how caps :: r, [], d, bs, i, e, h, ι, hA, hnd, hr, hu, hb, hW, hV, hp, hal, hJ, he => by simp [ArgsR] at hA
  | .q how caps :: r, v :: vs, d, bs, i, e, h, ι, hA, hnd, hr, hu, hb, hW, hV, hp, hal, hJ, he => by
    simp only [ArgsR] at hA
    obtain ⟨gs, bs', rfl, hq, hC, h2⟩ := hA
    have hl : leaves (chain ((PK.q how caps :: r).map PK.ty)) d = leaves (capsTy caps) d.1 ++ leaves (chain (r.map PK.ty)) d.2 := rfl
    have hlen := leaves_length (capsTy caps) d.1
    have hdrop : (leaves (capsTy caps) d.1 ++ leaves (chain (r.map PK.ty)) d.2).drop (capsTy caps).size = leaves (chain (r.map PK.ty)) d.2 := by rw [← hlen]; simp
    rw [hl]
    have hmap : (gs.map (fun g => (true, g)) ++ bs').map (·.2) = gs ++ bs'.map (·.2) := by simp [List.map_map, Function.comp_def]
    rw [hmap] at hnd hb
    obtain ⟨n1, n2, n3⟩ := List.nodup_append.1 hnd
    simp only [startE, hdrop]
    split
    · refine start_sound (ins := r) (vals := vs) (bs := bs') h2 n2 hr (fun l hl' => hu l (by omega)) (fun l o g ho hbl hm => hb l o g ho hbl (by simp only [List.mem_append]; exact .inr hm)) (fun b hb' => hW b (by simp [hb']))
        (fun j u hj => by rw [← hV (j + 1) u (by simpa using hj)]; congr 1; omega) (fun j u v' hj hq => hp (j + 1) u v' (by simpa using hj) (by rw [← hq]; congr 2; omega)) (fun j u hj => by rw [← hal (j + 1) u (by simpa using hj)]; congr 1; omega) hJ ?_
      intro k
      by_cases hk : k = i
      · subst hk
        simp only [upd, if_true]
        trivial
      · simp only [upd, if_neg hk]
        exact he k
    · rename_i h' hcap
      obtain ⟨ι', r2, ext, p1, p2, p3, p4⟩ := capsE_sound hC hr n1 (fun l o g ho hbl hm => hb l o g ho hbl (by simp only [List.mem_append]; exact .inl hm)) hJ hcap
      refine start_sound (ins := r) (vals := vs) (bs := bs') (h := h') (ι := ι') h2 n2 r2 (fun l hl' => by rw [(p2 l (by omega)).2.1]; exact hu l (by omega)) ?_ (fun b hb' => hW b (by simp [hb']))
        (fun j u hj => by rw [← hV (j + 1) u (by simpa using hj)]; congr 1; omega) (fun j u v' hj hq => hp (j + 1) u v' (by simpa using hj) (by rw [← hq]; congr 2; omega)) (fun j u hj => by rw [← hal (j + 1) u (by simpa using hj)]; congr 1; omega) ?_ ?_
      · intro l o g ho hbl hm
        rcases p3 l o g ho hbl with h3 | ⟨⟨o1, h3⟩, h4⟩
        · exact n3 g h3 g hm rfl
        · exact hb l o1 g h3 h4 (by simp only [List.mem_append]; exact .inr hm)
      · intro j ro cs ho
        obtain ⟨q1, q2, q3⟩ := p2 (1000 + j) (by omega)
        rw [q1] at ho
        rw [q3]
        exact hJ j ro cs ho
      · intro k
        by_cases hk : k = i
        · subst hk
          simp only [upd, if_true]
          rw [show V k = v from hV 0 v rfl]
          cases how with
          | none =>
            obtain ⟨g, rfl, rfl⟩ := hq
            obtain ⟨q1, q2⟩ := p1 0 g rfl
            exact ⟨q1, rfl, fun ro cs ho => ⟨g, q2, rfl⟩⟩
          | some f =>
            simp only [QV] at hq
            subst hq
            refine ⟨gs.map ptrOf, rfl, by simp [p4], fun a l u ha hu' => ?_⟩
            simp only [List.getElem?_map, Option.map_eq_some_iff] at ha hu'
            obtain ⟨b, hb1, rfl⟩ := ha
            obtain ⟨g, hg1, rfl⟩ := hu'
            have hb2 : b = a := by
              have h5 := List.getElem?_eq_some_iff.1 hb1
              obtain ⟨h6, h7⟩ := h5
              simpa using h7.symm
            subst hb2
            obtain ⟨q1, q2⟩ := p1 b g hg1
            exact ⟨q1, rfl, fun ro cs ho => ⟨g, q2, rfl⟩⟩
        · have := (he k).ext ext
          simp only [upd, if_neg hk]
          exact this
  | .p ro t :: r, v :: vs, d, (ro', g) :: bs, i, e, h, ι, hA, hnd, hr, hu, hb, hW, hV, hp, hal, hJ, he => by
    simp only [ArgsR] at hA
    obtain ⟨rfl, rfl, hN, ⟨us, T, hg, hsz, hrd⟩, h2⟩ := hA
    have hl : leaves (chain ((PK.p ro' t :: r).map PK.ty)) d = leaves t d.1 ++ leaves (chain (r.map PK.ty)) d.2 := rfl
    have hlen := leaves_length t d.1
    have hdrop : (leaves t d.1 ++ leaves (chain (r.map PK.ty)) d.2).drop t.size = leaves (chain (r.map PK.ty)) d.2 := by rw [← hlen]; simp
    have htake : (leaves t d.1 ++ leaves (chain (r.map PK.ty)) d.2).take t.size = leaves t d.1 := by rw [← hlen]; simp
    rw [hl]
    simp only [startE, hdrop, htake]
    simp only [List.map_cons, List.nodup_cons] at hnd
    obtain ⟨e2, r2⟩ := step_add (c := ⟨ι, h, w, N⟩) hr (1000 + i) (hu _ (Nat.le_refl _)) (.pointer (some ⟨g, 0, none⟩))
      (fun g' hg' => by
        simp only [blk, Option.some.injEq] at hg'
        subst hg'
        exact ⟨hN, fun l o ho hbl => hb l o g ho hbl (by simp)⟩) (.box ro' (leaves t d.1))
      (fun ext => ⟨g, by simp [upd], fun hro => hW g (by simp [hro]), us, T, hg, by rw [hsz, hlen], rd_leaves (c := ⟨_, _, w, N⟩) hrd⟩)
      (fun ro cs v' ho hq => hp 0 _ v' rfl (by simpa using hq))
    refine start_sound (ins := r) (vals := vs) (bs := bs) (h := h.new (1000 + i) (.box ro' (leaves t d.1))) (ι := upd ι (1000 + i) (.pointer (some ⟨g, 0, none⟩))) h2 hnd.2 r2 ?_ ?_ (fun b hb' => hW b (by simp [hb'])) (fun j u hj => by rw [← hV (j + 1) u (by simpa using hj)]; congr 1; omega)
      (fun j u v' hj hq => hp (j + 1) u v' (by simpa using hj) (by rw [← hq]; congr 2; omega)) (fun j u hj => by rw [← hal (j + 1) u (by simpa using hj)]; congr 1; omega) ?_ ?_
    · intro l hl'
      have : l ≠ 1000 + i := by omega
      simp only [Heap.new, upd, if_neg this]
      exact hu l (by omega)
    · intro l o g' ho hbl
      by_cases el : l = 1000 + i
      · subst el
        simp only [upd, if_true, blk, Option.some.injEq] at hbl
        subst hbl
        exact hnd.1
      · simp only [Heap.new, upd, if_neg el] at ho hbl
        have := hb l o g' ho hbl
        simp only [List.map_cons, List.mem_cons, not_or] at this
        exact this.2
    · intro j ro cs ho
      by_cases ej : j = i
      · subst ej
        exact ⟨g, by simp [upd], hal 0 _ rfl⟩
      · have hne : 1000 + j ≠ 1000 + i := by omega
        simp only [Heap.new, upd, if_neg hne] at ho ⊢
        exact hJ j ro cs ho
    · intro k
      by_cases hk : k = i
      · subst hk
        simp only [upd, if_true]
        have hvk : V k = .pointer (some ⟨g, 0, none⟩) := hV 0 _ rfl
        rw [hvk]
        simp only [SVR, LR]
        exact ⟨by simp [Heap.new, upd], rfl, fun ro cs ho => ⟨g, by simp [upd], rfl⟩⟩
      · have := (he k).ext e2
        simp only [upd, if_neg hk] at this ⊢
        exact this

/-! ### the results -/
theorem loadO_addr {c : Cx} {t : Nat} {sv x : SV} {va : Value} (tk : TabOk P tab) (hr : HR B c) (h : loadO tab t c.h sv = some x) (ha : SVR c sv va) :
    ∃ a v, va = .pointer (some a) ∧ (loadVar t a).run P c.w = .ok v c.w ∧ SVR c x v := by
  obtain ⟨v, e, hv⟩ := loadO_sound tk hr h ha
  have key : ∃ g o, va = .pointer (some ⟨g, o, none⟩) := by
    unfold loadO at h
    split at h
    · split at h
      · rename_i ho
        simp only [SVR, LR] at ha
        obtain ⟨g, _, rfl⟩ := ha.2.2 _ _ ho
        exact ⟨_, _, rfl⟩
      · cases h
    · simp only [SVR, LR] at ha
      obtain ⟨b, o, rfl, _⟩ := ha
      exact ⟨_, _, rfl⟩
    · split at h
      · rename_i ho
        simp only [SVR, LR] at ha
        obtain ⟨_, g, n, cap, _, rfl⟩ := ha.2.2 _ _ _ ho
        exact ⟨_, _, rfl⟩
      · cases h
    · simp only [SVR, LR] at ha
      exact ⟨_, _, ha⟩
    · cases h
  obtain ⟨g, o, rfl⟩ := key
  refine ⟨_, v, rfl, ?_, hv⟩
  simpa [Instr.loadAt, Instr.sureAddr] using e

def resF (tmps : Array Value) : ResultVar → Sem Value
  | .tmp t => pure (tmps.getD t undef)
  | .cell a t => do loadVar t (← asAddr (tmps.getD a undef))

theorem resSV_sound {c : Cx} {s : St} {a : Act} (tk : TabOk P tab) (hr : HR B c) (hc : c.h = s.heap) (he : ∀ i, SVR c (s.env i) (a.tmps.getD i undef)) {v : ResultVar} {x : SV} (h : resSV tab s v = some x) :
    ∃ u, (resF a.tmps v).run P c.w = .ok u c.w ∧ SVR c x u := by
  cases v with
  | tmp i =>
    simp only [resSV, Option.some.injEq] at h
    subst h
    exact ⟨_, by simp [resF], he i⟩
  | cell i T =>
    simp only [resSV] at h
    rw [← hc] at h
    obtain ⟨ad, v, hva, hrun, hv⟩ := loadO_addr tk hr h (he i)
    refine ⟨v, ?_, hv⟩
    simp [resF, hva, asAddr, hrun]

theorem resF_list (tmps : Array Value) (w : World) : ∀ (rs : List ResultVar) (vals : List Value), rs.length = vals.length → (∀ (i : Nat) (r : ResultVar) (v : Value), rs[i]? = some r → vals[i]? = some v → (resF tmps r).run P w = .ok v w) →
    (rs.mapM (resF tmps)).run P w = .ok vals w
  | [], [], _, _ => by simp
  | [], _ :: _, h, _ => by simp at h
  | _ :: _, [], h, _ => by simp at h
  | r :: rs, v :: vals, hl, h => by
    have h0 := h 0 r v rfl rfl
    have ih := resF_list tmps w rs vals (by simpa using hl) (fun i r v hr hv => h (i + 1) r v (by simpa using hr) (by simpa using hv))
    simp [List.mapM_cons, h0, ih]

theorem results_list (fn : Func) (tmps : Array Value) (w : World) (vals : List Value) (hl : fn.results.toList.length = vals.length)
    (h : ∀ (i : Nat) (r : ResultVar) (v : Value), fn.results.toList[i]? = some r → vals[i]? = some v → (resF tmps r).run P w = .ok v w) (outs : List OK) (ho : outs.length = vals.length) :
    (results fn tmps).run P w = .ok (retV outs vals) w := by
  have h1 := resF_list (P := P) tmps w fn.results.toList vals hl h
  have h2 : results fn tmps = (do let vs ← fn.results.mapM (resF tmps); pure (if h : vs.size = 1 then vs[0] else .tuple vs)) := rfl
  have h3 : (results fn tmps).run P w = .ok (if h : vals.length = 1 then vals[0] else .tuple vals.toArray) w := by
    rw [h2, Array.mapM_eq_mapM_toList]
    simp [h1]
  rw [h3]
  clear h1 h2 h3 h hl
  match outs, vals, ho with
  | [_], [v], _ => simp [retV]
  | [], [], _ => simp [retV]
  | _ :: _ :: _, _ :: _ :: _, _ => simp [retV]
end
end Go.Eng


set_option linter.unusedVariables false
set_option linter.unusedSimpArgs false
namespace Go.Eng
section
variable {P : Program} {tab : Tab} {B : Bd tab}

/-- a result's leaf: a row of one's own -/
def RowL (Bz : Nat) (c : Cx) (e : Nat) (t : Ty) (y : Lf) (v : Value) : Prop :=
  0 < t.size ∧ ((y = .nilsl ∧ v = .slice none 0 0) ∨ ∃ t', ∃ xs : List (Den t'), y = .sl t' xs ∧ RowR Bz c.w c.N e t' xs v)
def OutsL (Bz : Nat) (c : Cx) : List OK → List Value → List Lf → List Nat → Prop
  | [], [], cs, gs => cs = [] ∧ gs = []
  | .v t :: r, v :: vs, cs, gs => ∃ c1 c2, cs = c1 ++ c2 ∧ VL c t c1 v ∧ OutsL Bz c r vs c2 gs
  | .o e t :: r, v :: vs, cs, gs => ∃ y c2 g2, cs = y :: c2 ∧ gs = (blk v).toList ++ g2 ∧ RowL Bz c e t y v ∧ OutsL Bz c r vs c2 g2
  | _, _, _, _ => False
theorem RowR.keeps {Bz e : Nat} {w w' : World} {N N' : Nat → Prop} {t : Ty} {xs : List (Den t)} {v : Value} (h : RowR Bz w N e t xs v) (k : Keeps w N w' N') (hw : w' = w) : RowR Bz w' N' e t xs v := by
  subst hw
  obtain ⟨hp, us, ho, hr⟩ := h
  exact ⟨hp, us, ho, fun i hi => (hr i hi).keeps k⟩
theorem OutsL.ext {Bz : Nat} {c c' : Cx} (k : Ext c c') (hw : c'.w = c.w) : ∀ {outs : List OK} {vals : List Value} {cs : List Lf} {gs : List Nat}, OutsL Bz c outs vals cs gs → OutsL Bz c' outs vals cs gs
  | [], [], _, _, h => h
  | [], _ :: _, _, _, h => h.elim
  | .v t :: r, [], _, _, h => h.elim
  | .o e t :: r, [], _, _, h => h.elim
  | .v t :: r, v :: vs, cs, gs, h => by
    obtain ⟨c1, c2, e, h1, h2⟩ := h
    exact ⟨c1, c2, e, h1.ext k, h2.ext k hw⟩
  | .o e t :: r, v :: vs, cs, gs, h => by
    obtain ⟨y, c2, g2, e1, e2, ⟨hp, h1⟩, h2⟩ := h
    refine ⟨y, c2, g2, e1, e2, ⟨hp, ?_⟩, h2.ext k hw⟩
    rcases h1 with h1 | ⟨t', xs, e3, h1⟩
    · exact .inl h1
    · exact .inr ⟨t', xs, e3, h1.keeps k.keeps hw⟩

theorem vl_rdv {c : Cx} {t : Ty} {cs : List Lf} {v : Value} {d : Den t} (h : VL c t cs v) (hd : ofL t cs = some (d, [])) : RdV c.w c.N t d v := by
  have ha : ofAll t cs = some d := by simp [ofAll, hd]
  obtain ⟨hl, h2⟩ := h
  unfold RdV
  split
  · rename_i ht
    simp only [ht, if_true] at h2
    obtain ⟨us, e, hs, hr⟩ := h2
    exact ⟨us, e, hs, (ofAll_rd ha hr).1⟩
  · rename_i ht
    simp only [ht] at h2
    exact (ofAll_rd ha h2).1

theorem ofL_cons {t u : Ty} {l : List Lf} {d : Den (.cons t u)} {r : List Lf} (h : ofL (.cons t u) l = some (d, r)) : ∃ l1, ofL t l = some (d.1, l1) ∧ ofL u l1 = some (d.2, r) := by
  simp only [ofL] at h
  split at h
  · rename_i d1 l1 h1
    split at h
    · rename_i d2 l2 h2
      simp only [Option.some.injEq, Prod.mk.injEq] at h
      obtain ⟨rfl, rfl⟩ := h
      exact ⟨l1, h1, h2⟩
    · cases h
  · cases h

theorem outs_of {Bz : Nat} {c : Cx} : ∀ {outs : List OK} {rest : List Ty} {vals : List Value} {cs l2 : List Lf} {gs : List Nat} {d : Den (chain (outs.map OK.ty ++ rest))} {r : List Lf}, OutsL Bz c outs vals cs gs →
    ofL (chain (outs.map OK.ty ++ rest)) (cs ++ l2) = some (d, r) → ∃ d', OutsR Bz c.w c.N outs rest vals d gs d' ∧ ofL (chain rest) l2 = some (d', r)
  | [], rest, [], cs, l2, gs, d, r, h, hd => by
    obtain ⟨rfl, rfl⟩ := h
    exact ⟨d, rfl, hd⟩
  | [], rest, _ :: _, cs, l2, gs, d, r, h, hd => h.elim
  | .v t :: q, rest, [], cs, l2, gs, d, r, h, hd => h.elim
  | .o e t :: q, rest, [], cs, l2, gs, d, r, h, hd => h.elim
  | .v t :: q, rest, v :: vs, cs, l2, gs, d, r, h, hd => by
    obtain ⟨c1, c2, rfl, hv, h2⟩ := h
    obtain ⟨l1, h1, h3⟩ := ofL_cons (t := t) (u := chain (q.map OK.ty ++ rest)) hd
    obtain ⟨a1, a2, a3⟩ := ofL_more h1
    have hl := hv.1
    have e1 : (c1 ++ c2 ++ l2).take t.size = c1 := by rw [← hl]; simp
    have e2 : (c1 ++ c2 ++ l2).drop t.size = c2 ++ l2 := by rw [← hl]; simp
    rw [e1] at a3
    rw [e2] at a1
    subst a1
    have := a3 []
    rw [List.append_nil] at this
    obtain ⟨d', h4, h5⟩ := outs_of h2 h3
    exact ⟨d', ⟨vl_rdv hv this, h4⟩, h5⟩
  | .o e t :: q, rest, v :: vs, cs, l2, gs, d, r, h, hd => by
    obtain ⟨y, c2, g2, rfl, rfl, ⟨hp, hv⟩, h2⟩ := h
    obtain ⟨l1, h1, h3⟩ := ofL_cons (t := .sl t) (u := chain (q.map OK.ty ++ rest)) hd
    rcases d with ⟨xs, d2⟩
    simp only [List.cons_append, ofL] at h1
    split at h1
    · rename_i xs' hs
      simp only [Option.some.injEq, Prod.mk.injEq] at h1
      obtain ⟨rfl, rfl⟩ := h1
      obtain ⟨d', h4, h5⟩ := outs_of h2 h3
      refine ⟨d', ⟨?_, g2, rfl, h4⟩, h5⟩
      rcases hv with ⟨rfl, rfl⟩ | ⟨t', zs, rfl, hR⟩
      · have hs : [] = xs := Option.some.inj hs
        subst hs
        exact ⟨hp, [], ⟨by simp, .inl ⟨rfl, rfl⟩⟩, fun i hi => by simp at hi⟩
      · simp only [slOf] at hs
        split at hs
        · rename_i et
          subst et
          have hs : zs = xs := Option.some.inj hs
          subst hs
          exact hR
        · cases hs
    · cases h1

def StatesL (c : Cx) : List PK → List (Bool × Nat) → List Lf → Prop
  | [], [], zs => zs = []
  | .v _ :: r, bs, zs => StatesL c r bs zs
  | .f _ :: r, bs, zs => StatesL c r bs zs
  | .q _ caps :: r, bs, zs => StatesL c r (bs.drop caps.length) zs
  | .p true _ :: r, _ :: bs, zs => StatesL c r bs zs
  | .p false t :: r, (_, g) :: bs, zs => ∃ z1 z2, zs = z1 ++ z2 ∧ z1.length = t.size ∧ (∃ vs T, c.w.heap[g]? = some (.cells vs T (0, 0)) ∧ vs.size = t.size ∧ LsR c z1 (fun j => vs[j]?)) ∧ StatesL c r bs z2
  | _, _, _ => False
theorem states_of {c : Cx} : ∀ {ins : List PK} {bs : List (Bool × Nat)} {zs : List Lf} {d : Den (chain (statesOf ins))}, StatesL c ins bs zs → ofL (chain (statesOf ins)) zs = some (d, []) → StatesR c.w c.N ins bs d
  | [], [], zs, d, h, hd => trivial
  | [], _ :: _, zs, d, h, hd => h.elim
  | .v _ :: r, bs, zs, d, h, hd => by simp only [StatesL, StatesR] at *; exact states_of h hd
  | .f _ :: r, bs, zs, d, h, hd => by simp only [StatesL, StatesR] at *; exact states_of h hd
  | .q _ _ :: r, bs, zs, d, h, hd => by simp only [StatesL, StatesR] at *; exact states_of h hd
  | .p true _ :: r, [], zs, d, h, hd => h.elim
  | .p true _ :: r, _ :: bs, zs, d, h, hd => by simp only [StatesL, StatesR] at *; exact states_of h hd
  | .p false t :: r, [], zs, d, h, hd => h.elim
  | .p false t :: r, (_, g) :: bs, zs, d, h, hd => by
    obtain ⟨z1, z2, rfl, hl, ⟨vs, T, hg, hs, hr⟩, h2⟩ := h
    obtain ⟨l1, h1, h3⟩ := ofL_cons (t := t) (u := chain (statesOf r)) hd
    obtain ⟨a1, a2, a3⟩ := ofL_more h1
    have e1 : (z1 ++ z2).take t.size = z1 := by rw [← hl]; simp
    have e2 : (z1 ++ z2).drop t.size = z2 := by rw [← hl]; simp
    rw [e1] at a3
    rw [e2] at a1
    subst a1
    have := a3 []
    rw [List.append_nil] at this
    exact ⟨⟨vs, T, hg, hs, (ofAll_rd (by simp [ofAll, this]) hr).1⟩, states_of h2 h3⟩
end
end Go.Eng


set_option linter.unusedVariables false
set_option linter.unusedSimpArgs false
namespace Go.Eng
section
variable {P : Program} {tab : Tab} {B : Bd tab}

theorem vl_of_sv {c c1 : Cx} {t : Ty} {x : SV} {ys : List Lf} {v : Value} (hk : kindOk t x = true) (hv : SVR c x v) (hlen : x.leaves.length = t.size) (hy : ∀ g, LsR c x.leaves g → LsR c1 ys g) (hyl : ys.length = x.leaves.length) : VL c1 t ys v := by
  refine ⟨hyl.trans hlen, ?_⟩
  cases x with
  | lf y =>
    simp only [kindOk, Bool.not_eq_true'] at hk
    simp only [hk, if_false, Bool.false_eq_true]
    exact hy _ (LsR.cons.2 ⟨⟨v, by simp, hv⟩, LsR.nil _ _⟩)
  | ag cs =>
    simp only [kindOk] at hk
    simp only [hk, if_true]
    obtain ⟨vs, rfl, hs, hr⟩ := hv
    exact ⟨vs, rfl, hs.trans hlen, hy _ hr⟩
  | tup _ => simp [kindOk] at hk

/-- blocks that went out with results -/
def Gone (c : Cx) (gs : List Nat) : Prop := ∀ g ∈ gs, c.N g ∧ ∀ l o, c.h.obj l = some o → blk (c.ι l) ≠ some g

/-- the leaves, frozen -/
theorem frzAll_keys : ∀ (ls ys : List Lf) (c : Cx) (h1 : Heap), HR B c → frzAll c.h ls = (ys, h1) → (∃ g, LsR c ls g) →
    ∃ N', (∀ b, N' b → c.N b) ∧ Ext c ⟨c.ι, h1, c.w, N'⟩ ∧ HR B ⟨c.ι, h1, c.w, N'⟩ ∧ (∀ g, LsR c ls g → LsR ⟨c.ι, h1, c.w, N'⟩ ys g) ∧ ys.length = ls.length ∧ (∀ l o, h1.obj l = some o → c.h.obj l = some o) ∧
      (∀ b, c.N b → (∀ l o, c.h.obj l = some o → blk (c.ι l) ≠ some b) → N' b) := by
  intro ls
  induction ls with
  | nil =>
    intro ys c h1 hr h _
    simp only [frzAll, Prod.mk.injEq] at h
    obtain ⟨rfl, rfl⟩ := h
    exact ⟨c.N, fun _ h => h, Ext.refl c, hr, fun _ _ => LsR.nil _ _, rfl, fun _ _ h => h, fun b hb _ => hb⟩
  | cons x r ih =>
    intro ys c h1 hr h hex
    cases hf : frz c.h x with
    | mk y h2 =>
      cases hg : frzAll h2 r with
      | mk zs h3 =>
        simp only [frzAll, hf, hg, Prod.mk.injEq] at h
        obtain ⟨rfl, rfl⟩ := h
        obtain ⟨g0, hg0⟩ := hex
        obtain ⟨⟨v0, e0, hv0⟩, hr0⟩ := LsR.cons.1 hg0
        obtain ⟨N1, a1, lets, b1, d1, f1⟩ := frz_sound2 hr hf hv0
        have s1 : ∀ l o, h2.obj l = some o → c.h.obj l = some o := fun l o ho => frz_sub c.h x l o (by rw [hf]; exact ho)
        obtain ⟨N2, a2, b2, d2, f2, len, s2, n2⟩ := ih zs ⟨c.ι, h2, c.w, N1⟩ h3 d1 hg ⟨_, hr0.ext b1⟩
        refine ⟨N2, fun b h => a1 b (a2 b h), b1.trans b2, d2, ?_, by simp [len], fun l o ho => s1 l o (s2 l o ho), ?_⟩
        · intro g hg'
          obtain ⟨⟨v, e, hv⟩, hrest⟩ := LsR.cons.1 hg'
          obtain ⟨N1', _, _, b1', _, f1'⟩ := frz_sound2 hr hf hv
          refine LsR.cons.2 ⟨⟨v, e, ?_⟩, f2 _ (hrest.ext b1)⟩
          -- the leaf y at v, in the context of N1
          have hy : LR ⟨c.ι, h2, c.w, N1⟩ y v := by
            cases x with
            | own l =>
              have hvv : (∃ e t xs, c.h.obj l = some (.row e t xs)) ∨ (¬ ∃ e t xs, c.h.obj l = some (.row e t xs)) := Classical.em _
              rcases hvv with ⟨e', t', xs', ho⟩ | hno
              · have e1 := (show _ from hv0 : LR c (.own l) v0).2.2 _ _ _ ho
                have e2 := (show _ from hv : LR c (.own l) v).2.2 _ _ _ ho
                rw [e2, ← e1]
                exact f1
              · have : y = .bad := by
                  simp only [frz] at hf
                  split at hf
                  · rename_i ho; exact absurd ⟨_, _, _, ho⟩ hno
                  · simp only [Prod.mk.injEq] at hf; exact hf.1.symm
                subst this
                trivial
            | _ =>
              simp only [frz, Prod.mk.injEq] at hf
              obtain ⟨rfl, rfl⟩ := hf
              exact hv.ext b1
          exact hy.ext b2
        · intro b hb hno
          refine n2 b ?_ (fun l o ho => hno l o (s1 l o ho))
          rcases lets b hb with h | ⟨l, o, ho, hbl⟩
          · exact h
          · exact absurd hbl (hno l o ho)

theorem resE_sound (tk : TabOk P tab) {c0 : Cx} {s : St} {a : Act} (hr0 : HR B c0) (hc0 : c0.h = s.heap) (he : ∀ i, SVR c0 (s.env i) (a.tmps.getD i undef)) :
    ∀ {vs : List ResultVar} {outs : List OK} {c : Cx} {cs : List Lf} {h1 : Heap}, HR B c → Ext c0 c → c.w = c0.w → resE tab s vs outs c.h = some (cs, h1) →
    ∃ N1 vals gs, Ext c ⟨c.ι, h1, c.w, N1⟩ ∧ HR B ⟨c.ι, h1, c.w, N1⟩ ∧ (∀ b, N1 b → c.N b) ∧ (∀ l o, h1.obj l = some o → c.h.obj l = some o) ∧ vs.length = vals.length ∧ outs.length = vals.length ∧
      (∀ (i : Nat) (r : ResultVar) (v : Value), vs[i]? = some r → vals[i]? = some v → (resF a.tmps r).run P c0.w = .ok v c0.w) ∧
      OutsL B.w0.heap.size ⟨c.ι, h1, c.w, N1⟩ outs vals cs gs ∧ gs.Nodup ∧ Gone ⟨c.ι, h1, c.w, N1⟩ gs ∧ (∀ g ∈ gs, ∃ l o, c.h.obj l = some o ∧ blk (c.ι l) = some g) ∧ (∀ b, c.N b → (∀ l o, c.h.obj l = some o → blk (c.ι l) ≠ some b) → N1 b)
  | [], [], c, cs, h1, hr, k, hw, h => by
    simp only [resE, Option.some.injEq, Prod.mk.injEq] at h
    obtain ⟨rfl, rfl⟩ := h
    exact ⟨c.N, [], [], Ext.refl c, hr, fun _ h => h, fun _ _ h => h, rfl, rfl, fun i r v hi => by simp at hi, ⟨rfl, rfl⟩, List.nodup_nil, fun g hg => by simp at hg, fun g hg => by simp at hg, fun b hb _ => hb⟩
  | [], _ :: _, c, cs, h1, hr, k, hw, h => by simp [resE] at h
  | v :: vs, [], c, cs, h1, hr, k, hw, h => by simp [resE] at h
  | v :: vs, .v t :: ts, c, cs, h1, hr, k, hw, h => by
    simp only [resE] at h
    split at h
    · rename_i x hx
      split at h
      · rename_i hk
        cases hf : frzAll c.h x.leaves with
        | mk ys h2 =>
          simp only [hf] at h
          split at h
          · rename_i r h3 hrest
            simp only [Option.some.injEq, Prod.mk.injEq] at h
            obtain ⟨rfl, rfl⟩ := h
            obtain ⟨u, hrun, hu⟩ := resSV_sound tk hr0 hc0 he hx
            have hu' := hu.ext k
            have hex : ∃ g, LsR c x.leaves g := by
              cases x with
              | lf y => exact ⟨_, (LsR.cons (g := fun _ => some u)).2 ⟨⟨u, rfl, hu'⟩, LsR.nil _ _⟩⟩
              | ag cs => obtain ⟨us, _, _, hl⟩ := hu'; exact ⟨_, hl⟩
              | tup _ => exact ⟨fun _ => none, LsR.nil _ _⟩
            obtain ⟨N2, a2, b2, d2, f2, len2, s2, n2⟩ := frzAll_keys x.leaves ys c h2 hr hf hex
            obtain ⟨N3, vals, gs, b3, d3, a3, s3, l3, l3', hrun3, o3, nd3, g3, w3, n3⟩ := resE_sound tk hr0 hc0 he (c := ⟨c.ι, h2, c.w, N2⟩) d2 (k.trans b2) hw hrest
            refine ⟨N3, u :: vals, gs, b2.trans b3, d3, fun b h => a2 b (a3 b h), fun l o ho => s2 l o (s3 l o ho), by simp [l3], by simp [l3'], ?_, ⟨ys, r, rfl, ?_, o3⟩, nd3, g3, fun g hg => let ⟨l, o, ho, hb⟩ := w3 g hg; ⟨l, o, s2 l o ho, hb⟩, ?_⟩
            · intro i r' v' hr' hv'
              cases i with
              | zero =>
                simp only [List.getElem?_cons_zero, Option.some.injEq] at hr' hv'
                subst hr'; subst hv'
                exact hrun
              | succ i => exact hrun3 i r' v' (by simpa using hr') (by simpa using hv')
            · exact (vl_of_sv hk.1 hu' hk.2 f2 len2).ext b3
            · intro b hb hno
              exact n3 b (n2 b hb hno) (fun l o ho => hno l o (s2 l o ho))
          · cases h
      · cases h
    · cases h
  | v :: vs, .o e t :: ts, c, cs, h1, hr, k, hw, h => by
    simp only [resE] at h
    split at h
    · cases h
    rename_i hp
    split at h
    · rename_i x hx
      split at h
      · rename_i y h2 hf
        split at h
        · rename_i r h3 hrest
          simp only [Option.some.injEq, Prod.mk.injEq] at h
          obtain ⟨rfl, rfl⟩ := h
          obtain ⟨u, hrun, hu⟩ := resSV_sound tk hr0 hc0 he hx
          have hu' : LR c x u := hu.ext k
          obtain ⟨us, s2, hrow⟩ := takeRow_sound hr hf hu'
          obtain ⟨b2, d2⟩ := step_forget hr h2 (fun l h => by rw [us]; exact h) s2 c.N (fun _ h => h) (fun l o g ho hb => hr.own l o g (s2 l o ho) hb) hr.base
          obtain ⟨N3, vals, gs, b3, d3, a3, s3, l3, l3', hrun3, o3, nd3, g3, w3, n3⟩ := resE_sound tk hr0 hc0 he (c := ⟨c.ι, h2, c.w, c.N⟩) d2 (k.trans b2) hw hrest
          have hgone : ∀ g, blk u = some g → N3 g ∧ (∀ l o, h3.obj l = some o → blk (c.ι l) ≠ some g) ∧ g ∉ gs := by
            intro g hg
            rcases hrow with ⟨_, rfl⟩ | ⟨t', xs, _, _, hb⟩
            · simp [blk] at hg
            · obtain ⟨hN, hno⟩ := hb g hg
              refine ⟨n3 g hN hno, fun l o ho => hno l o (s3 l o ho), ?_⟩
              intro hgs
              obtain ⟨l, o, ho, hbl⟩ := w3 g hgs
              exact hno l o ho hbl
          refine ⟨N3, u :: vals, (blk u).toList ++ gs, b2.trans b3, d3, a3, fun l o ho => s2 l o (s3 l o ho), by simp [l3], by simp [l3'], ?_, ⟨y, r, gs, rfl, rfl, ⟨by omega, ?_⟩, o3⟩, ?_, ?_, ?_, ?_⟩
          · intro i r' v' hr' hv'
            cases i with
            | zero =>
              simp only [List.getElem?_cons_zero, Option.some.injEq] at hr' hv'
              subst hr'; subst hv'
              exact hrun
            | succ i => exact hrun3 i r' v' (by simpa using hr') (by simpa using hv')
          · rcases hrow with ⟨e1, e2⟩ | ⟨t', xs, e1, hR, _⟩
            · exact .inl ⟨e1, e2⟩
            · exact .inr ⟨t', xs, e1, hR.keeps (b2.trans b3).keeps rfl⟩
          · cases hb : blk u with
            | none => simpa using nd3
            | some g =>
              simp only [Option.toList_some, List.cons_append, List.nil_append, List.nodup_cons]
              exact ⟨(hgone g hb).2.2, nd3⟩
          · intro g hg
            rcases List.mem_append.1 hg with h | h
            · simp only [Option.mem_toList] at h
              exact ⟨(hgone g h).1, (hgone g h).2.1⟩
            · exact g3 g h
          · intro g hg
            rcases List.mem_append.1 hg with h | h
            · simp only [Option.mem_toList] at h
              unfold takeRow at hf
              split at hf
              · rename_i lx
                split at hf
                · rename_i e' t' xs' hox
                  have e1 := (show LR c (.own lx) u from hu').2.2 _ _ _ hox
                  exact ⟨lx, _, hox, by rw [← e1]; exact h⟩
                · cases hf
              · have e1 : u = .slice none 0 0 := hu'
                subst e1
                simp [blk] at h
              · cases hf
            · obtain ⟨l, o, ho, hb⟩ := w3 g h
              exact ⟨l, o, s2 l o ho, hb⟩
          · intro b hb hno
            exact n3 b hb (fun l o ho => hno l o (s2 l o ho))
        · cases h
      · cases h
    · cases h
end
end Go.Eng


set_option linter.unusedVariables false
set_option linter.unusedSimpArgs false
namespace Go.Eng
section
variable {P : Program} {tab : Tab} {B : Bd tab}

theorem StatesL.ext {c c' : Cx} (k : Ext c c') (hw : c'.w = c.w) : ∀ {ins : List PK} {bs : List (Bool × Nat)} {zs : List Lf}, StatesL c ins bs zs → StatesL c' ins bs zs
  | [], [], _, h => h
  | [], _ :: _, _, h => h.elim
  | .v _ :: r, bs, zs, h => by simp only [StatesL] at *; exact h.ext k hw
  | .f _ :: r, bs, zs, h => by simp only [StatesL] at *; exact h.ext k hw
  | .q _ _ :: r, bs, zs, h => by simp only [StatesL] at *; exact h.ext k hw
  | .p true _ :: r, [], zs, h => h.elim
  | .p true _ :: r, _ :: bs, zs, h => by simp only [StatesL] at *; exact h.ext k hw
  | .p false t :: r, [], zs, h => h.elim
  | .p false t :: r, (_, g) :: bs, zs, h => by
    obtain ⟨z1, z2, e, hl, ⟨vs, T, hg, hs, hr⟩, h2⟩ := h
    exact ⟨z1, z2, e, hl, ⟨vs, T, by rw [hw]; exact hg, hs, hr.ext k⟩, h2.ext k hw⟩

theorem capsR_len {w : World} {N : Nat → Prop} {al : List Value} : ∀ {caps : List Cap} {gs : List Nat} {d : Den (capsTy caps)}, CapsR w N al caps gs d → caps.length = gs.length
  | [], [], _, _ => rfl
  | [], _ :: _, _, h => h.elim
  | .ptr j :: r, [], _, h => h.elim
  | .dat j :: r, [], _, h => h.elim
  | .ptr j :: r, _ :: _, _, h => by simp [capsR_len h.2.2]
  | .dat j :: r, _ :: _, _, h => by simp [capsR_len h.2.2]
theorem statesE_sound {w0 : World} {N0 : Nat → Prop} {al : List Value} : ∀ {ins : List PK} {vals : List Value} {d : Den (chain (ins.map PK.ty))} {bs : List (Bool × Nat)} {i : Nat} {c : Cx} {zs : List Lf}, ArgsR w0 N0 al ins vals d bs → HR B c →
    (∀ j v, vals[j]? = some v → B.pin (1000 + (i + j)) = some v) → statesE c.h i ins = some zs →
    ∃ h1 N1, Ext c ⟨c.ι, h1, c.w, N1⟩ ∧ HR B ⟨c.ι, h1, c.w, N1⟩ ∧ StatesL ⟨c.ι, h1, c.w, N1⟩ ins bs zs ∧ (∀ b, c.N b → (∀ l o, c.h.obj l = some o → blk (c.ι l) ≠ some b) → N1 b)
  | [], [], d, [], i, c, zs, hA, hr, hp, h => by
    simp only [statesE, Option.some.injEq] at h
    exact ⟨c.h, c.N, Ext.refl c, hr, h.symm, fun b hb _ => hb⟩
  | [], [], d, _ :: _, i, c, zs, hA, hr, hp, h => hA.elim
  | [], _ :: _, d, bs, i, c, zs, hA, hr, hp, h => hA.elim
  | .v t :: r, [], d, bs, i, c, zs, hA, hr, hp, h => hA.elim
  | .p ro t :: r, [], d, bs, i, c, zs, hA, hr, hp, h => hA.elim
  | .p ro t :: r, v :: vs, d, [], i, c, zs, hA, hr, hp, h => hA.elim
  | .f n :: r, [], d, bs, i, c, zs, hA, hr, hp, h => hA.elim
  | .q how caps :: r, [], d, bs, i, c, zs, hA, hr, hp, h => hA.elim
  | .q how caps :: r, v :: vs, d, bs, i, c, zs, hA, hr, hp, h => by
    simp only [ArgsR] at hA
    obtain ⟨gs, bs', rfl, hq, hC, h2⟩ := hA
    simp only [statesE] at h
    obtain ⟨h1, N1, a, b, e, f⟩ := statesE_sound (i := i + 1) h2 hr (fun j v hj => by rw [← hp (j + 1) v (by simpa using hj)]; congr 2; omega) h
    refine ⟨h1, N1, a, b, ?_, f⟩
    simp only [StatesL]
    have : caps.length = (gs.map (fun g => (true, g))).length := by simpa using capsR_len hC
    rw [this]
    simpa using e
  | .f n :: r, v :: vs, d, bs, i, c, zs, hA, hr, hp, h => by
    simp only [ArgsR] at hA
    simp only [statesE] at h
    obtain ⟨h1, N1, a, b, e, f⟩ := statesE_sound (i := i + 1) hA.2 hr (fun j v hj => by rw [← hp (j + 1) v (by simpa using hj)]; congr 2; omega) h
    exact ⟨h1, N1, a, b, by simp only [StatesL]; exact e, f⟩
  | .v t :: r, v :: vs, d, bs, i, c, zs, hA, hr, hp, h => by
    simp only [ArgsR] at hA
    simp only [statesE] at h
    obtain ⟨h1, N1, a, b, e, f⟩ := statesE_sound (i := i + 1) hA.2 hr (fun j v hj => by rw [← hp (j + 1) v (by simpa using hj)]; congr 2; omega) h
    exact ⟨h1, N1, a, b, by simp only [StatesL]; exact e, f⟩
  | .p true t :: r, v :: vs, d, (ro', g) :: bs, i, c, zs, hA, hr, hp, h => by
    simp only [ArgsR] at hA
    simp only [statesE] at h
    obtain ⟨h1, N1, a, b, e, f⟩ := statesE_sound (i := i + 1) hA.2.2.2.2 hr (fun j v hj => by rw [← hp (j + 1) v (by simpa using hj)]; congr 2; omega) h
    exact ⟨h1, N1, a, b, by simp only [StatesL]; exact e, f⟩
  | .p false t :: r, v :: vs, d, (ro', g) :: bs, i, c, zs, hA, hr, hp, h => by
    simp only [ArgsR] at hA
    simp only [statesE] at h
    split at h
    · rename_i ro2 cs ho
      split at h
      · cases h
      rename_i hlen
      cases hf : frzAll (c.h.del (1000 + i)) cs with
      | mk ys h2 =>
        simp only [hf] at h
        split at h
        · rename_i zs2 hrest
          simp only [Option.some.injEq] at h
          subst h
          obtain ⟨_, g', hι, hW, us, T, hg, hsz, hls⟩ := hr.obj _ _ ho
          have hpin := hr.pin _ _ _ _ ho (hp 0 v rfl)
          rw [hpin, hA.2.1] at hι
          simp only [Value.pointer.injEq, Option.some.injEq, Addr.mk.injEq] at hι
          obtain ⟨rfl, _⟩ := hι
          obtain ⟨b1, d1⟩ := step_forget hr (c.h.del (1000 + i)) (fun _ h => h) (fun l' o h => (del_obj h).2) c.N (fun _ h => h) (fun l' o g ho hb => hr.own l' o g (del_obj ho).2 hb) hr.base
          obtain ⟨N2, a2, b2, d2, f2, len2, s2, n2⟩ := frzAll_keys cs ys ⟨c.ι, c.h.del (1000 + i), c.w, c.N⟩ h2 d1 hf ⟨_, hls.ext b1⟩
          obtain ⟨h3, N3, b3, d3, e3, f3⟩ := statesE_sound (i := i + 1) (c := ⟨c.ι, h2, c.w, N2⟩) hA.2.2.2.2 d2 (fun j v hj => by rw [← hp (j + 1) v (by simpa using hj)]; congr 2; omega) hrest
          refine ⟨h3, N3, (b1.trans b2).trans b3, d3, ⟨ys, zs2, rfl, by rw [len2]; omega, ⟨us, T, hg, by rw [hsz]; omega, (f2 _ (hls.ext b1)).ext b3⟩, e3⟩, ?_⟩
          intro b hb hno
          exact f3 b (n2 b hb (fun l o ho => hno l o (del_obj ho).2)) (fun l o ho => hno l o (del_obj (s2 l o ho)).2)
        · cases h
    · cases h

theorem args_len {w : World} {N : Nat → Prop} {al : List Value} : ∀ {ins : List PK} {vals : List Value} {d : Den (chain (ins.map PK.ty))} {bs : List (Bool × Nat)}, ArgsR w N al ins vals d bs → vals.length = ins.length
  | [], [], _, [], _ => rfl
  | [], [], _, _ :: _, h => h.elim
  | [], _ :: _, _, _, h => h.elim
  | .v _ :: _, [], _, _, h => h.elim
  | .p _ _ :: _, [], _, _, h => h.elim
  | .p _ _ :: _, _ :: _, _, [], h => h.elim
  | .v t :: r, v :: vs, d, bs, h => by simp [args_len h.2]
  | .f _ :: _, [], _, _, h => h.elim
  | .f _ :: r, v :: vs, d, bs, h => by simp [args_len h.2]
  | .q _ _ :: _, [], _, _, h => h.elim
  | .q _ _ :: r, v :: vs, d, bs, h => by
    obtain ⟨gs, bs', _, _, _, h2⟩ := h
    simp [args_len h2]
  | .p ro t :: r, v :: vs, d, (_, _) :: bs, h => by simp [args_len h.2.2.2.2]

theorem args_N {w : World} {N : Nat → Prop} {al : List Value} : ∀ {ins : List PK} {vs : List Value} {d : Den (chain (ins.map PK.ty))} {bs : List (Bool × Nat)}, ArgsR w N al ins vs d bs → ∀ g, (false, g) ∈ bs → N g
  | [], [], _, [], _, g, h => by simp at h
  | [], _ :: _, _, _, h, _, _ => h.elim
  | [], [], _, _ :: _, h, _, _ => h.elim
  | .v _ :: _, [], _, _, h, _, _ => h.elim
  | .p _ _ :: _, [], _, _, h, _, _ => h.elim
  | .p _ _ :: _, _ :: _, _, [], h, _, _ => h.elim
  | .v t :: r, v :: vs, d, bs, h, g, hg => args_N h.2 g hg
  | .f _ :: _, [], _, _, h, _, _ => h.elim
  | .f _ :: r, v :: vs, d, bs, h, g, hg => args_N h.2 g hg
  | .q _ _ :: _, [], _, _, h, _, _ => h.elim
  | .q _ _ :: r, v :: vs, d, bs, h, g, hg => by
    obtain ⟨gs, bs', e, _, _, h2⟩ := h
    rw [e] at hg
    rcases List.mem_append.1 hg with hg | hg
    · simp at hg
    · exact args_N h2 g hg
  | .p ro t :: r, v :: vs, d, (ro', g') :: bs, h, g, hg => by
    obtain ⟨rfl, _, hn, _, h2⟩ := h
    rcases List.mem_cons.1 hg with e | hg
    · simp only [Prod.mk.injEq] at e
      rw [e.2]; exact hn
    · exact args_N h2 g hg

def startS (ins : List PK) (d : Den (chain (ins.map PK.ty))) : St := match startE 0 ins (leaves _ d) (fun _ => .lf .bad) emptyH with | (e, h) => mkSt (fun k => e (k + nph ins)) h
def endK (tab : Tab) (fn : Func) (ins : List PK) (outs : List OK) (e : Ex) (s : St) : Option (Den (chain (outs.map OK.ty ++ statesOf ins))) := match e with
    | .exit _ => none
    | _ => retK tab ins outs fn.results.toList _ s
theorem fn_sound_of (tk : TabOk P tab) {f : Nat} {fn : Func} {body : Code} (hf : P.funcs[f]? = some fn) (hname : fn.name ≠ "runtime.NumGoroutine")
    (hb : fn.body = some body) {ins : List PK} {outs : List OK} (hargs : ins.length ≤ fn.ntmps) (hres : fn.results.size = outs.length) {F : Den (chain (ins.map PK.ty)) → Option (Den (chain (outs.map OK.ty ++ statesOf ins)))}
    (H : ∀ (B : Bd tab) d r a w, F d = some r → InvE B fn.ntmps (startS ins d) a w → body.wp P (PostK B fn.ntmps (endK tab fn ins outs) r) a w) : Sound P tab f ⟨ins, outs, F⟩ := by
  refine ⟨⟨fn, hf, hname, by simp [hb]⟩, ?_⟩
  intro w N args ph d bs hph hA hnd hgi r hr
  have hph : ph.length = nph ins := hph
  let B : Bd tab := ⟨w, fun b => w.heap.size ≤ b ∨ (false, b) ∈ bs, N, fun b h => .inl h, fun l => if l < 1000 then none else (ph ++ args.toList)[l - 1000]?, fun l h => by simp [h], hgi, fun g hg => by
    cases hq : (tab.at g).gl with
    | none => exact absurd hq hg
    | some x =>
      obtain ⟨τ, dd⟩ := x
      obtain ⟨_, h1, h2, _⟩ := hgi g τ dd hq
      rintro (h | h)
      · omega
      · exact h2 (args_N hA g h)⟩
  have hlen := args_len hA
  have hr0 : HR B ⟨fun _ => undef, emptyH, w, N⟩ := ⟨fun l o ho => by simp [emptyH] at ho, fun l o g ho => by simp [emptyH] at ho, fun l l' o o' g ho => by simp [emptyH] at ho, ⟨rfl, rfl, rfl, Nat.le_refl _, fun _ _ _ => rfl⟩,
    fun b _ h => h, fun b _ h => h, fun l ro cs v ho => by simp [emptyH] at ho⟩
  have hpin : ∀ j v, (ph ++ args.toList)[j]? = some v → B.pin (1000 + (0 + j)) = some v := by
    intro j v hj
    have h1 : ¬ (1000 + (0 + j) < 1000) := by omega
    have h2 : 1000 + (0 + j) - 1000 = j := by omega
    simp only [B, if_neg h1, h2, hj]
  let tm : Array Value := args ++ Array.replicate (fn.ntmps - args.size) undef
  obtain ⟨ι, hr1, he1⟩ := start_sound (B := B) (al := ph ++ args.toList) (V := fun k => if k < ph.length then ph.getD k undef else tm.getD (k - ph.length) undef) (i := 0) (e := fun _ => .lf .bad) (h := emptyH) (ι := fun _ => undef) hA hnd hr0 (fun l _ => rfl)
    (fun l o g ho => by simp [emptyH] at ho) (fun b hb => .inr hb)
    (by
      intro j v hj
      simp only [Nat.zero_add]
      by_cases hjl : j < ph.length
      · rw [List.getElem?_append_left hjl] at hj
        rw [if_pos hjl, List.getD_eq_getElem?_getD, hj]
        rfl
      · rw [List.getElem?_append_right (by omega)] at hj
        rw [if_neg hjl]
        have hj' : j - ph.length < args.size := by have := (List.getElem?_eq_some_iff.1 hj).1; simpa using this
        have e : args[j - ph.length]? = some v := by simpa using hj
        simp only [tm, Array.getD_eq_getD_getElem?]
        rw [Array.getElem?_append_left hj', e]
        rfl)
    (by
      intro j v v' hj hq
      rw [hpin j v hj] at hq
      exact Option.some.inj hq) (fun j v hj => by rw [Nat.zero_add]; exact hj) (fun j ro cs ho => by simp [emptyH] at ho) (fun k => trivial)
  refine calls_of_wp hf hb ?_
  have hinv : InvE B fn.ntmps (startS ins d) { tmps := args ++ Array.replicate (fn.ntmps - args.size) undef, defers := [] } w := by
    refine ⟨ι, N, ?_, rfl, hr1, ?_, fun i p sv hg => by simp [startS, mkSt] at hg⟩
    · simp only [Array.size_append, Array.size_replicate]
      have : args.size + nph ins = ins.length := by
        have e : (ph ++ args.toList).length = ins.length := hlen
        rw [List.length_append, hph] at e
        simp only [Array.length_toList] at e
        omega
      omega
    · intro k
      have h1 := he1 (k + nph ins)
      rw [if_neg (show ¬ k + nph ins < ph.length by omega), show k + nph ins - ph.length = k by omega] at h1
      exact h1
  refine wp_mono (H B d r _ _ hr hinv) ?_
  rintro e a w' ⟨e', s, rfl, hk, ι', N', hi⟩
  have fin : retK tab ins outs fn.results.toList (chain (outs.map OK.ty ++ statesOf ins)) s = some r → a.defers = [] ∧ ∃ v, (results fn a.tmps).run P w' = .ok v w' ∧ (∃ vals gs d' N', Ending.returned v = .returned (retV outs vals) ∧ PostR ⟨ins, outs, F⟩ w N bs r vals gs d' N' w') := by
    intro hk
    unfold retK at hk
    split at hk
    · rename_i cs h1 hres1
      split at hk
      · rename_i zs hst
        obtain ⟨N1, vals, gs, b1, d1, a1, s1, l1, l1', hrun, o1, nd1, g1, _, _⟩ := resE_sound tk hi.heap rfl hi.env hi.heap (Ext.refl _) rfl hres1
        obtain ⟨h2, N2, b2, d2, st2, n2⟩ := statesE_sound (i := 0) (c := ⟨ι', h1, w', N1⟩) hA d1 hpin hst
        have hof : ofL (chain (outs.map OK.ty ++ statesOf ins)) (cs ++ zs) = some (r, []) := by
          unfold ofAll at hk
          split at hk
          · rename_i d' h'
            simp only [Option.some.injEq] at hk
            subst hk
            exact h'
          · cases hk
        obtain ⟨d', hout, hrest⟩ := outs_of (o1.ext b2 rfl) hof
        have hstates := states_of st2 hrest
        refine ⟨hi.defers, _, results_list fn a.tmps w' vals (by simpa using l1) hrun outs l1', vals, gs, d', N2, rfl, ?_⟩
        have kp := d2.keep
        exact { os := kp.os, tape := kp.tape, output := kp.output, size := kp.size,
                block := fun b hb hn => kp.block b hb (by rintro (h | h); exact absurd hb (Nat.not_lt.2 h); exact hn h),
                up := fun b hb hn => d2.base b hb hn, down := fun b hb hn => d2.low b hb hn,
                outs := hout, nodup := nd1, gsN := fun g hg => n2 g (g1 g hg).1 (g1 g hg).2, states := hstates }
      · cases hk
    · cases hk
  cases e' with
  | normal => exact fin hk
  | exit i => cases hk
  | ret => exact fin hk

theorem fn_sound (tk : TabOk P tab) {Γ : Ctx} (hΓ : ∀ f con, Γ f = some con → Sound P tab (f % 10000) con) (hm : P.follows .mixedOrders = true) {f : Nat} {fn : Func} {body : Code} (hf : P.funcs[f]? = some fn) (hname : fn.name ≠ "runtime.NumGoroutine")
    (hb : fn.body = some body) {an : Anns} {n : Nat} {ins : List PK} {outs : List OK} (hargs : ins.length ≤ fn.ntmps) (hres : fn.results.size = outs.length) : Sound P tab f ⟨ins, outs, fnK tab Γ an n fn body ins outs⟩ :=
  fn_sound_of tk hf hname hb hargs hres (fun B d r a w hr hi => codeK_sound tk hΓ hm body hr hi)

theorem Sound.of {f : Nat} {ins : List PK} {outs : List OK} {F G : Den (chain (ins.map PK.ty)) → Option (Den (chain (outs.map OK.ty ++ statesOf ins)))} (h : Sound P tab f ⟨ins, outs, F⟩) (hg : ∀ d r, G d = some r → F d = some r) : Sound P tab f ⟨ins, outs, G⟩ := by
  refine ⟨h.1, ?_⟩
  intro w N args ph d bs hph hA hnd hgi r hr
  refine (h.2 w N args ph d bs hph hA hnd hgi r (hg d r hr)).mono ?_
  rintro e w' ⟨vals, gs, d', N', he, hp⟩
  exact ⟨vals, gs, d', N', he, ⟨hp.os, hp.tape, hp.output, hp.size, hp.block, hp.up, hp.down, hp.outs, hp.nodup, hp.gsN, hp.states⟩⟩

end
end Go.Eng


set_option linter.unusedVariables false
set_option linter.unusedSimpArgs false
namespace Go.Eng

def zeroB : List Lf → List Value → Bool
  | [], [] => true
  | .int k n :: r, .int k' n' :: vs => decide (k = k') && decide (n = n') && zeroB r vs
  | .bool b :: r, .bool b' :: vs => (b == b') && zeroB r vs
  | .str s :: r, .string s' :: vs => s.isEmpty && s'.data.toList.isEmpty && zeroB r vs
  | .nilsl :: r, .slice none 0 0 :: vs => zeroB r vs
  | .nilif :: r, .nilIface :: vs => zeroB r vs
  | _, _ => false
theorem zeroB_spec : ∀ {ls : List Lf} {vs : List Value}, zeroB ls vs = true → vs.map some = ls.map zv
  | [], vs, h => by
    cases vs with
    | nil => rfl
    | cons _ _ => simp [zeroB] at h
  | x :: r, vs, h => by
    unfold zeroB at h
    split at h
    · rename_i e; cases e
    · rename_i e1
      simp only [List.cons.injEq] at e1
      obtain ⟨rfl, rfl⟩ := e1
      simp only [Bool.and_eq_true, decide_eq_true_eq] at h
      obtain ⟨⟨rfl, rfl⟩, h2⟩ := h
      simp only [List.map_cons, zeroB_spec h2, zv]
    · rename_i e1
      simp only [List.cons.injEq] at e1
      obtain ⟨rfl, rfl⟩ := e1
      simp only [Bool.and_eq_true, beq_iff_eq] at h
      obtain ⟨rfl, h2⟩ := h
      simp only [List.map_cons, zeroB_spec h2, zv]
    · rename_i s' vs' e1
      simp only [List.cons.injEq] at e1
      obtain ⟨rfl, rfl⟩ := e1
      simp only [Bool.and_eq_true, List.isEmpty_iff] at h
      obtain ⟨⟨rfl, h1⟩, h2⟩ := h
      have : s' = ⟨#[]⟩ := by
        cases s' with
        | mk d =>
          cases d with
          | mk l => simp only at h1; subst h1; rfl
      subst this
      simp only [List.map_cons, zeroB_spec h2, zv]
    · rename_i e1
      simp only [List.cons.injEq] at e1
      obtain ⟨rfl, rfl⟩ := e1
      simp only [List.map_cons, zeroB_spec h, zv]
    · rename_i e1
      simp only [List.cons.injEq] at e1
      obtain ⟨rfl, rfl⟩ := e1
      simp only [List.map_cons, zeroB_spec h, zv]
    · cases h

def msB (P : Program) (t : Nat) (p : String × Nat) : Bool := match P.info? t with
  | none => false
  | some i => match i.methods.find? (·.name == p.1) with
    | none => false
    | some m => m.path.isEmpty && (match m.func with | some (f, b) => decide (f = p.2) && !b | none => false)
theorem msB_spec {P : Program} {t : Nat} {p : String × Nat} (h : msB P t p = true) : MsOk P t p := by
  unfold msB at h
  split at h
  · cases h
  · rename_i i hi
    split at h
    · cases h
    · rename_i m hm
      simp only [Bool.and_eq_true] at h
      obtain ⟨h1, h2⟩ := h
      split at h2
      · rename_i f b hf
        simp only [Bool.and_eq_true, decide_eq_true_eq, Bool.not_eq_true'] at h2
        obtain ⟨rfl, rfl⟩ := h2
        exact ⟨i, m, hi, hm, by simpa using h1, hf⟩
      · cases h2
def eqB (P : Program) (t : Nat) : Bool :=
  (match P.underlying t with
   | some (.struct fields) => (fields.toList.all fun f => decide (f.name ≠ "_")) && decide (fields.toList.map (·.offset) = List.range fields.size)
   | _ => false) && !P.stoodInHeld t && !P.eqGuardType P.depth t
theorem eqB_spec {P : Program} {t : Nat} (h : eqB P t = true) : EqOk P t := by
  simp only [eqB, Bool.and_eq_true, Bool.not_eq_true'] at h
  obtain ⟨⟨h1, h2⟩, h3⟩ := h
  refine ⟨?_, h2, h3⟩
  split at h1
  · rename_i fields hf
    simp only [Bool.and_eq_true, List.all_eq_true, decide_eq_true_eq] at h1
    exact ⟨fields, hf, h1.1, h1.2⟩
  · cases h1
def tyB (P : Program) (tab : Tab) (t : Nat) : Bool :=
  match P.info? t with
  | none => false
  | some i => decide (i.size = (tab.at t).size) && decide (i.bytes = (tab.at t).bytes) &&
    (match (tab.at t).k with
     | .ptr => true
     | _ => match i.zero with
       | some z => zeroB (zeroL (tab.at t).ty) z.cells.toList && decide ((tab.at t).ty.size = (tab.at t).size) && (aggB z == (tab.at t).ty.isAgg)
       | none => false) &&
    match (tab.at t).k, P.underlying t with
    | .int k, some (.int k') => decide (k' = k) && decide ((tab.at t).ty = .int k) && decide ((tab.at t).size = 1)
    | .bool, some .bool => decide ((tab.at t).ty = .bool) && decide ((tab.at t).size = 1)
    | .str, some .string => decide ((tab.at t).ty = .str) && decide ((tab.at t).size = 1)
    | .sl e, some (.slice e') => decide (e' = e) && decide ((tab.at t).ty = .sl (tab.at e).ty) && decide ((tab.at t).size = 1) && decide (0 < (tab.at e).size) && decide (0 < (tab.at e).bytes) && (match (tab.at e).k with | .ptr | .other | .ifc _ => false | _ => true)
    | .st fs, some (.struct fields) => decide (fields.toList.map (fun f => (f.offset, f.type)) = fs) && (tab.at t).ty.isAgg && fs.all fun p => decide ((tab.at p.2).k ≠ .other)
    | .arr n e, some (.array n' e') => decide (n' = n) && decide (e' = e) && (tab.at t).ty.isAgg && decide ((tab.at e).k ≠ .other)
    | .ifc ids, some (.interface _) => decide ((tab.at t).ty = .ifc ids (chain (ids.map fun T => (tab.at T).ty))) && decide ((tab.at t).size = 1)
    | .ptr, some (.pointer _) => decide ((tab.at t).size = 1)
    | _, _ => false
def tabB (P : Program) (tab : Tab) : Bool := (List.range tab.length).all fun t => decide ((tab.at t).k = .other) || (tyB P tab t && (!(tab.at t).eq || eqB P t) && (tab.at t).ms.all (msB P t))

theorem tyB_spec {P : Program} {tab : Tab} {t : Nat} (he : (tab.at t).eq = true → EqOk P t) (hm : ∀ p ∈ (tab.at t).ms, MsOk P t p) (h : tyB P tab t = true) : TyOk P tab t := by
  unfold tyB at h
  split at h
  · cases h
  · rename_i i hi
    simp only [Bool.and_eq_true, decide_eq_true_eq] at h
    obtain ⟨⟨⟨h1, h2⟩, h3⟩, h4⟩ := h
    refine ⟨he, hm, fun hp i' z' hi' hz' => ?_, ⟨i, hi, h1, h2, ?_⟩, ?_⟩
    · rw [hi] at hi'
      cases hi'
      cases hk : (tab.at t).k with
      | ptr => rw [hk] at hp; exact hp.elim
      | _ =>
        rw [hk] at h3
        simp only [hz', Bool.and_eq_true, beq_iff_eq] at h3
        exact h3.2
    · intro hp
      cases hk : (tab.at t).k with
      | ptr => rw [hk] at hp; exact hp.elim
      | _ =>
        rw [hk] at h3
        simp only at h3
        split at h3
        · rename_i z hz
          simp only [Bool.and_eq_true, decide_eq_true_eq] at h3
          exact ⟨z, hz, zeroB_spec h3.1.1, h3.1.2⟩
        · cases h3
    · cases hk : (tab.at t).k with
      | other => trivial
      | int k =>
        rw [hk] at h4
        simp only at h4 ⊢
        split at h4 <;> simp_all
      | bool =>
        rw [hk] at h4
        simp only at h4 ⊢
        split at h4 <;> simp_all
      | str =>
        rw [hk] at h4
        simp only at h4 ⊢
        split at h4 <;> simp_all
      | sl e =>
        rw [hk] at h4
        simp only at h4 ⊢
        split at h4 <;> simp_all
        split at h4 <;> simp_all
      | st fs =>
        rw [hk] at h4
        simp only at h4 ⊢
        split at h4 <;> simp_all
        exact fun a b hab => h4.2 a b hab
      | ifc ids =>
        rw [hk] at h4
        simp only at h4 ⊢
        split at h4 <;> simp_all
      | arr n e =>
        rw [hk] at h4
        simp only at h4 ⊢
        split at h4 <;> simp_all
      | ptr =>
        rw [hk] at h4
        simp only at h4 ⊢
        split at h4 <;> simp_all
theorem tabB_spec {P : Program} {tab : Tab} (h : tabB P tab = true) : TabOk P tab := by
  intro t ht
  by_cases hl : t < tab.length
  · have := List.all_eq_true.1 h t (List.mem_range.2 hl)
    simp only [Bool.or_eq_true, decide_eq_true_eq] at this
    rcases this with h | h
    · exact absurd h ht
    · simp only [Bool.and_eq_true, Bool.or_eq_true, Bool.not_eq_true'] at h
      refine tyB_spec (fun he => ?_) (fun p hp => msB_spec (List.all_eq_true.1 h.2 p hp)) h.1.1
      rcases h.1.2 with h2 | h2
      · rw [he] at h2; cases h2
      · exact eqB_spec h2
  · exfalso
    apply ht
    simp only [Tab.at, List.getD]
    rw [List.getElem?_eq_none (by omega)]
    rfl
end Go.Eng


set_option linter.unusedVariables false
namespace Go.Eng
variable {P : Program} {tab : Tab}

theorem Sound.empty {f : Nat} {fn : Func} (hf : P.funcs[f]? = some fn) (hn : (fn.name == "runtime.NumGoroutine") = false) (hb : fn.body.isNone = false) (ins : List PK) (outs : List OK) : Sound P tab f ⟨ins, outs, fun _ => none⟩ :=
  ⟨⟨fn, hf, by simpa using hn, hb⟩, fun w N args ph d bs _ _ _ _ r h => by cases h⟩
theorem Sound.or {f : Nat} {ins : List PK} {outs : List OK} {F G : Den (chain (ins.map PK.ty)) → Option (Den (chain (outs.map OK.ty ++ statesOf ins)))} (h1 : Sound P tab f ⟨ins, outs, F⟩) (h2 : Sound P tab f ⟨ins, outs, G⟩) : Sound P tab f ⟨ins, outs, fun d => (F d).or (G d)⟩ := by
  refine ⟨h1.1, ?_⟩
  intro w N args ph d bs hph hA hnd hgi r hr
  have key : F d = some r ∨ G d = some r := by
    simp only at hr
    cases hF : F d with
    | none => rw [hF] at hr; exact .inr hr
    | some x => rw [hF] at hr; exact .inl hr
  have fin : ∀ H, Sound P tab f ⟨ins, outs, H⟩ → H d = some r → Calls P f args w fun e w' => ∃ vals gs d' N', e = .returned (retV outs vals) ∧ PostR ⟨ins, outs, fun d => (F d).or (G d)⟩ w N bs r vals gs d' N' w' := by
    intro H hH hr
    refine (hH.2 w N args ph d bs hph hA hnd hgi r hr).mono ?_
    rintro e w' ⟨vals, gs, d', N', he, hp⟩
    exact ⟨vals, gs, d', N', he, ⟨hp.os, hp.tape, hp.output, hp.size, hp.block, hp.up, hp.down, hp.outs, hp.nodup, hp.gsN, hp.states⟩⟩
  rcases key with h | h
  · exact fin F h1 h
  · exact fin G h2 h
theorem sound_fn (tk : TabOk P tab) (hm : P.follows .mixedOrders = true) {Γ : Ctx} (hΓ : ∀ f con, Γ f = some con → Sound P tab (f % 10000) con) {f : Nat} {fn : Func} {body : Code} {an : Anns} {n : Nat} {ins : List PK} {outs : List OK} (hf : P.funcs[f]? = some fn)
    (hn : (fn.name == "runtime.NumGoroutine") = false) (hb : fn.body = some body) (hs : decide (ins.length ≤ fn.ntmps ∧ fn.results.size = outs.length) = true) : Sound P tab f ⟨ins, outs, fnK tab Γ an n fn body ins outs⟩ := by
  have := of_decide_eq_true hs
  exact fn_sound tk hΓ hm hf (by simpa using hn) hb this.1 this.2
end Go.Eng


set_option linter.unusedVariables false
set_option linter.unusedSimpArgs false
namespace Go.Eng
section
variable {P : Program} {tab : Tab} {B : Bd tab}

noncomputable def bodyC (f : Func) : Code := f.body.getD .skip
def cl0 : Code → Code | .seq a _ => a | c => c
def clB : Code → Code | .seq _ (.seq _ b) => b | c => c
def clA : Code → Code | .seq _ (.seq (.seq _ (.cond _ a _)) _) => a | c => c
def clI : Code → Nat | .seq _ (.seq (.seq (.region id _ _) _) _) => id | _ => 0
def clO : Code → Nat → Oper | .seq _ (.seq (.seq (.region _ ops _) _) _), i => ops.getD i default | _, _ => default
def clY (o : Oper) : TypeId := match o.op with | .binOp _ _ _ _ y => y | _ => default

theorem inv_bad {nt : Nat} {ι : Nat → Value} {N : Nat → Prop} {s : St} {a : Act} {w : World} (hi : Inv B nt ι N s a w) (hg : ∀ i, s.gen i = none) {j : Nat} (hj : s.env j = .lf .bad) (v : Value) : Inv B nt ι N s (a.put (some j) v) w := by
  refine ⟨by simp [Act.put, hi.nt], hi.defers, hi.heap, fun i => ?_, fun i p sv h => by rw [hg i] at h; cases h⟩
  by_cases h : i = j
  · subst h; rw [hj]; trivial
  · simp only [Act.put]
    rw [getD_set_ne _ _ _ _ _ h]
    exact hi.env i

/-- slices.Clone, at any type of elements -/
theorem clone_sound (tk : TabOk P tab) (hm : P.follows .mixedOrders = true) {f : Nat} {fn : Func} {r0 cA cB : Code} {id : Nat} {o1 o2 : Oper} {T e : Nat} {yt : TypeId} {τ : Ty} (hf : P.funcs[f]? = some fn) (hn : (fn.name == "runtime.NumGoroutine") = false)
    (hb : fn.body = some (.seq r0 (.seq (.seq (.region id #[o1, o2] false) (.cond (.tmp 4) cA .skip)) cB)))
    (h1 : o1.op = .move (.tmp 0) ∧ o1.dst = some 3 ∧ o1.guard = none) (h2 : o2.op = .binOp .eql T (.tmp 3) (.const (.slice none 0 0)) yt ∧ o2.dst = some 4 ∧ o2.guard = none) (hT : P.underlying T = some (.slice e))
    (hs : decide (4 < fn.ntmps ∧ 1 ≤ fn.ntmps ∧ fn.results.size = 1) = true) (s0 : List (Den τ) → St) (hs0 : ∀ xs, (∀ i, (s0 xs).gen i = none) ∧ (s0 xs).env 0 = .lf (.sl τ xs) ∧ (s0 xs).env 3 = .lf .bad ∧ (s0 xs).env 4 = .lf .bad)
    (H0 : ∀ xs, codeK tab (fun _ => none) fn.ntmps ⟨fun _ => none, fun _ => none, fun _ => []⟩ 1 r0 St (fun e s => match e with | .normal => some s | _ => none) (startS [.v (.sl τ)] (xs, ())) = some (s0 xs))
    (HA : codeK tab (fun _ => none) fn.ntmps ⟨fun _ => none, fun _ => none, fun _ => []⟩ 1 cA _ (fun x s => match x with | .ret => endK tab fn [.v (.sl τ)] [.o e τ] .ret s | _ => none) (s0 []) = some (([] : List (Den τ)), ()))
    {F : List (Den τ) × Unit → Option (List (Den τ) × Unit)}
    (HB : ∀ xs, codeK tab (fun _ => none) fn.ntmps ⟨fun _ => none, fun _ => none, fun _ => []⟩ 1 cB _ (endK tab fn [.v (.sl τ)] [.o e τ]) (s0 xs) = F (xs, ())) (HF : F ([], ()) = some ([], ())) : Sound P tab f ⟨[.v (.sl τ)], [.o e τ], F⟩ := by
  have hs := of_decide_eq_true hs
  have hΓ : ∀ f con, (fun _ => none : Ctx) f = some con → Sound P tab (f % 10000) con := fun f con h => by cases h
  refine fn_sound_of tk hf (by simpa using hn) hb (by simp; omega) (by simp [hs.2.2]) ?_
  rintro B ⟨xs, u⟩ r a w hF hi
  refine wp_seq (wp_mono (codeK_sound tk hΓ hm r0 (H0 xs) hi) ?_)
  rintro x a1 w1 ⟨e1, s1, rfl, hk, ι, N, hi1⟩
  cases e1 with
  | exit i => cases hk
  | ret => cases hk
  | normal =>
    simp only [Option.some.injEq] at hk
    subst hk
    obtain ⟨hg, he0, he3, he4⟩ := hs0 xs
    refine wp_seq (wp_seq (wp_region ?_))
    obtain ⟨A, c, hA, hc, hx⟩ : ∃ A c, a1.tmps.getD 0 undef = .slice A xs.length c ∧ xs.length ≤ c ∧ (A = none → xs = []) := by
      have := hi1.env 0
      rw [he0] at this
      simp only [SVR, LR, Rd, if_true, Option.some.injEq] at this
      obtain ⟨A, c, h1, h2, h3⟩ := this
      refine ⟨A, c, h1, h2, fun hA => ?_⟩
      cases xs with
      | nil => rfl
      | cons x r =>
        obtain ⟨b, o, h, _⟩ := h3 0 (by simp)
        rw [hA] at h; cases h
    have w1' : Region.wanted o1 (yielded #[o1, o2] a1.tmps) = true := by simp [Region.wanted, h1.2.2]
    have e1 : ∀ next : Act → World → Prop, ∀ Q, next (a1.put (some 3) (.slice A xs.length c)) w1 → o1.wp P a1 w1 next Q := by
      intro next Q hn
      have : Does P o1 a1 w1 (fun v w' => v = .slice A xs.length c ∧ w' = w1) := does_value (v := .slice A xs.length c) (w' := w1) (by simp [execOp, h1.1, Act.eval, hA]) ⟨rfl, rfl⟩
      refine this next Q ?_
      rintro v w' ⟨rfl, rfl⟩
      rw [h1.2.1]; exact hn
    have hi2 := inv_bad hi1 hg he3 (.slice A xs.length c)
    have hv3 : (a1.put (some 3) (.slice A xs.length c)).tmps.getD 3 undef = .slice A xs.length c := by
      simp only [Act.put]; exact getD_set_self _ _ _ _ (by rw [hi1.nt]; omega)
    have e2 : ∀ next : Act → World → Prop, ∀ Q, next ((a1.put (some 3) (.slice A xs.length c)).put (some 4) (.bool A.isNone)) w1 → o2.wp P (a1.put (some 3) (.slice A xs.length c)) w1 next Q := by
      intro next Q hn
      have : Does P o2 (a1.put (some 3) (.slice A xs.length c)) w1 (fun v w' => v = .bool A.isNone ∧ w' = w1) := by
        refine does_value (v := .bool A.isNone) (w' := w1) ?_ ⟨rfl, rfl⟩
        have hrun : ∀ w : World, (binOp .eql T (.slice A xs.length c) (.slice none 0 0)).run P w = .ok (.bool A.isNone) w := fun w => Lib.run_eql_slice_nil w T e A _ _ _ _ hT
        simp [execOp, h2.1, Act.eval, hv3, eqGuard, hrun]
      refine this next Q ?_
      rintro v w' ⟨rfl, rfl⟩
      rw [h2.2.1]; exact hn
    have hi3 := inv_bad hi2 hg he4 (.bool A.isNone)
    have hv4 : ((a1.put (some 3) (.slice A xs.length c)).put (some 4) (.bool A.isNone)).tmps.getD 4 undef = .bool A.isNone := by
      simp only [Act.put]; exact getD_set_self _ _ _ _ (by simp [hi1.nt]; omega)
    have w2' : Region.wanted o2 (yielded #[o1, o2] (a1.put (some 3) (.slice A xs.length c)).tmps) = true := by simp [Region.wanted, h2.2.2]
    have hl : List.range (#[o1, o2] : Array Oper).size = [0, 1] := rfl
    rw [hl]
    have ho1 : (#[o1, o2] : Array Oper)[0]? = some o1 := rfl
    have ho2 : (#[o1, o2] : Array Oper)[1]? = some o2 := rfl
    show wpOps P #[o1, o2] _ [0, 1] a1 w1
    unfold wpOps
    rw [ho1]
    simp only []
    rw [if_pos w1']
    refine .inl (e1 _ _ ?_)
    unfold wpOps
    rw [ho2]
    simp only []
    rw [if_pos w2']
    refine .inl (e2 _ _ ?_)
    unfold wpOps
    refine wp_cond (t := A.isNone) hv4 ?_
    cases A with
    | none =>
      have := hx rfl
      subst this
      simp only [Option.isNone_none, if_true]
      refine wp_mono (codeK_sound tk hΓ hm cA HA ⟨ι, N, hi3⟩) ?_
      rintro x a2 w2 ⟨e2, s2, rfl, hk, hi2⟩
      cases e2 with
      | normal => cases hk
      | exit i => cases hk
      | ret =>
        have : r = ([], ()) := by
          have hF' : F ([], ()) = some r := hF
          rw [HF] at hF'
          exact (Option.some.inj hF').symm
        subst this
        exact ⟨.ret, s2, rfl, hk, hi2⟩
    | some p =>
      simp only [Option.isNone_some, Bool.false_eq_true, if_false]
      refine wp_skip ?_
      exact codeK_sound tk hΓ hm cB ((HB xs).trans hF) ⟨ι, N, hi3⟩
/-- slices.Clone, at any type of elements -/
theorem clone_sound_v (tk : TabOk P tab) (hm : P.follows .mixedOrders = true) {f : Nat} {fn : Func} {r0 cA cB : Code} {id : Nat} {o1 o2 : Oper} {T e : Nat} {yt : TypeId} {τ : Ty} (hf : P.funcs[f]? = some fn) (hn : (fn.name == "runtime.NumGoroutine") = false)
    (hb : fn.body = some (.seq r0 (.seq (.seq (.region id #[o1, o2] false) (.cond (.tmp 4) cA .skip)) cB)))
    (h1 : o1.op = .move (.tmp 0) ∧ o1.dst = some 3 ∧ o1.guard = none) (h2 : o2.op = .binOp .eql T (.tmp 3) (.const (.slice none 0 0)) yt ∧ o2.dst = some 4 ∧ o2.guard = none) (hT : P.underlying T = some (.slice e))
    (hs : decide (4 < fn.ntmps ∧ 1 ≤ fn.ntmps ∧ fn.results.size = 1) = true) (s0 : List (Den τ) → St) (hs0 : ∀ xs, (∀ i, (s0 xs).gen i = none) ∧ (s0 xs).env 0 = .lf (.sl τ xs) ∧ (s0 xs).env 3 = .lf .bad ∧ (s0 xs).env 4 = .lf .bad)
    (H0 : ∀ xs, codeK tab (fun _ => none) fn.ntmps ⟨fun _ => none, fun _ => none, fun _ => []⟩ 1 r0 St (fun e s => match e with | .normal => some s | _ => none) (startS [.v (.sl τ)] (xs, ())) = some (s0 xs))
    (HA : codeK tab (fun _ => none) fn.ntmps ⟨fun _ => none, fun _ => none, fun _ => []⟩ 1 cA _ (fun x s => match x with | .ret => endK tab fn [.v (.sl τ)] [.v (.sl τ)] .ret s | _ => none) (s0 []) = some (([] : List (Den τ)), ()))
    {F : List (Den τ) × Unit → Option (List (Den τ) × Unit)}
    (HB : ∀ xs, codeK tab (fun _ => none) fn.ntmps ⟨fun _ => none, fun _ => none, fun _ => []⟩ 1 cB _ (endK tab fn [.v (.sl τ)] [.v (.sl τ)]) (s0 xs) = F (xs, ())) (HF : F ([], ()) = some ([], ())) : Sound P tab f ⟨[.v (.sl τ)], [.v (.sl τ)], F⟩ := by
  have hs := of_decide_eq_true hs
  have hΓ : ∀ f con, (fun _ => none : Ctx) f = some con → Sound P tab (f % 10000) con := fun f con h => by cases h
  refine fn_sound_of tk hf (by simpa using hn) hb (by simp; omega) (by simp [hs.2.2]) ?_
  rintro B ⟨xs, u⟩ r a w hF hi
  refine wp_seq (wp_mono (codeK_sound tk hΓ hm r0 (H0 xs) hi) ?_)
  rintro x a1 w1 ⟨e1, s1, rfl, hk, ι, N, hi1⟩
  cases e1 with
  | exit i => cases hk
  | ret => cases hk
  | normal =>
    simp only [Option.some.injEq] at hk
    subst hk
    obtain ⟨hg, he0, he3, he4⟩ := hs0 xs
    refine wp_seq (wp_seq (wp_region ?_))
    obtain ⟨A, c, hA, hc, hx⟩ : ∃ A c, a1.tmps.getD 0 undef = .slice A xs.length c ∧ xs.length ≤ c ∧ (A = none → xs = []) := by
      have := hi1.env 0
      rw [he0] at this
      simp only [SVR, LR, Rd, if_true, Option.some.injEq] at this
      obtain ⟨A, c, h1, h2, h3⟩ := this
      refine ⟨A, c, h1, h2, fun hA => ?_⟩
      cases xs with
      | nil => rfl
      | cons x r =>
        obtain ⟨b, o, h, _⟩ := h3 0 (by simp)
        rw [hA] at h; cases h
    have w1' : Region.wanted o1 (yielded #[o1, o2] a1.tmps) = true := by simp [Region.wanted, h1.2.2]
    have e1 : ∀ next : Act → World → Prop, ∀ Q, next (a1.put (some 3) (.slice A xs.length c)) w1 → o1.wp P a1 w1 next Q := by
      intro next Q hn
      have : Does P o1 a1 w1 (fun v w' => v = .slice A xs.length c ∧ w' = w1) := does_value (v := .slice A xs.length c) (w' := w1) (by simp [execOp, h1.1, Act.eval, hA]) ⟨rfl, rfl⟩
      refine this next Q ?_
      rintro v w' ⟨rfl, rfl⟩
      rw [h1.2.1]; exact hn
    have hi2 := inv_bad hi1 hg he3 (.slice A xs.length c)
    have hv3 : (a1.put (some 3) (.slice A xs.length c)).tmps.getD 3 undef = .slice A xs.length c := by
      simp only [Act.put]; exact getD_set_self _ _ _ _ (by rw [hi1.nt]; omega)
    have e2 : ∀ next : Act → World → Prop, ∀ Q, next ((a1.put (some 3) (.slice A xs.length c)).put (some 4) (.bool A.isNone)) w1 → o2.wp P (a1.put (some 3) (.slice A xs.length c)) w1 next Q := by
      intro next Q hn
      have : Does P o2 (a1.put (some 3) (.slice A xs.length c)) w1 (fun v w' => v = .bool A.isNone ∧ w' = w1) := by
        refine does_value (v := .bool A.isNone) (w' := w1) ?_ ⟨rfl, rfl⟩
        have hrun : ∀ w : World, (binOp .eql T (.slice A xs.length c) (.slice none 0 0)).run P w = .ok (.bool A.isNone) w := fun w => Lib.run_eql_slice_nil w T e A _ _ _ _ hT
        simp [execOp, h2.1, Act.eval, hv3, eqGuard, hrun]
      refine this next Q ?_
      rintro v w' ⟨rfl, rfl⟩
      rw [h2.2.1]; exact hn
    have hi3 := inv_bad hi2 hg he4 (.bool A.isNone)
    have hv4 : ((a1.put (some 3) (.slice A xs.length c)).put (some 4) (.bool A.isNone)).tmps.getD 4 undef = .bool A.isNone := by
      simp only [Act.put]; exact getD_set_self _ _ _ _ (by simp [hi1.nt]; omega)
    have w2' : Region.wanted o2 (yielded #[o1, o2] (a1.put (some 3) (.slice A xs.length c)).tmps) = true := by simp [Region.wanted, h2.2.2]
    have hl : List.range (#[o1, o2] : Array Oper).size = [0, 1] := rfl
    rw [hl]
    have ho1 : (#[o1, o2] : Array Oper)[0]? = some o1 := rfl
    have ho2 : (#[o1, o2] : Array Oper)[1]? = some o2 := rfl
    show wpOps P #[o1, o2] _ [0, 1] a1 w1
    unfold wpOps
    rw [ho1]
    simp only []
    rw [if_pos w1']
    refine .inl (e1 _ _ ?_)
    unfold wpOps
    rw [ho2]
    simp only []
    rw [if_pos w2']
    refine .inl (e2 _ _ ?_)
    unfold wpOps
    refine wp_cond (t := A.isNone) hv4 ?_
    cases A with
    | none =>
      have := hx rfl
      subst this
      simp only [Option.isNone_none, if_true]
      refine wp_mono (codeK_sound tk hΓ hm cA HA ⟨ι, N, hi3⟩) ?_
      rintro x a2 w2 ⟨e2, s2, rfl, hk, hi2⟩
      cases e2 with
      | normal => cases hk
      | exit i => cases hk
      | ret =>
        have : r = ([], ()) := by
          have hF' : F ([], ()) = some r := hF
          rw [HF] at hF'
          exact (Option.some.inj hF').symm
        subst this
        exact ⟨.ret, s2, rfl, hk, hi2⟩
    | some p =>
      simp only [Option.isNone_some, Bool.false_eq_true, if_false]
      refine wp_skip ?_
      exact codeK_sound tk hΓ hm cB ((HB xs).trans hF) ⟨ι, N, hi3⟩
end
end Go.Eng


set_option linter.unusedVariables false
set_option linter.unusedSimpArgs false
namespace Go.Eng

/-- numbers within their kind's range, lists that a machine can hold -/
def WF : (t : Ty) → Den t → Prop
  | .int k, n => (Lit.int k n).wf = true
  | .bool, _ => True
  | .str, s => s.length ≤ maxLen
  | .sl t, xs => xs.length ≤ maxLen ∧ ∀ x ∈ xs, WF t x
  | .nil, _ => True
  | .cons t r, d => WF t d.1 ∧ WF r d.2
  | .ifc _ _, _ => True

def offsB (tab : Tab) : Nat → List (Nat × Nat) → Bool
  | _, [] => true
  | o, p :: r => decide (p.1 = o) && (match (tab.at p.2).k with | .ptr | .other | .ifc _ => false | _ => true) && offsB tab (o + (tab.at p.2).size) r
/-- the places of an array's elements -/
def arrP (tab : Tab) (e n : Nat) : List (Nat × Nat) := (List.range n).map fun i => (i * (tab.at e).size, e)
def lookB (tab : Tab) : Bool := (List.range tab.length).all fun t => match (tab.at t).k with
  | .st fs => decide ((tab.at t).ty = chain (fs.map fun p => (tab.at p.2).ty)) && offsB tab 0 fs
  | .arr n e => decide ((tab.at t).ty = chain ((arrP tab e n).map fun p => (tab.at p.2).ty)) && offsB tab 0 (arrP tab e n)
  | _ => true
theorem lookB_arr {tab : Tab} (h : lookB tab = true) {t n e : Nat} (hk : (tab.at t).k = .arr n e) : (tab.at t).ty = chain ((arrP tab e n).map fun p => (tab.at p.2).ty) ∧ offsB tab 0 (arrP tab e n) = true := by
  by_cases hl : t < tab.length
  · have := List.all_eq_true.1 h t (List.mem_range.2 hl)
    rw [hk] at this
    simpa using this
  · simp only [Tab.at, List.getD] at hk
    rw [List.getElem?_eq_none (by omega)] at hk
    cases hk
theorem lookB_spec {tab : Tab} (h : lookB tab = true) {t : Nat} {fs : List (Nat × Nat)} (hk : (tab.at t).k = .st fs) : (tab.at t).ty = chain (fs.map fun p => (tab.at p.2).ty) ∧ offsB tab 0 fs = true := by
  by_cases hl : t < tab.length
  · have := List.all_eq_true.1 h t (List.mem_range.2 hl)
    rw [hk] at this
    simpa using this
  · simp only [Tab.at, List.getD] at hk
    rw [List.getElem?_eq_none (by omega)] at hk
    cases hk
def plainK : TK → Prop
  | .ptr | .other | .ifc _ => False
  | _ => True
def plainA : TK → Prop
  | .ptr | .other | .ifc _ | .arr _ _ => False
  | _ => True
theorem plainA.K {k : TK} (h : plainA k) : plainK k := by cases k <;> simp_all [plainA, plainK]

section
variable {H : Type} {enc : TypeId × Value → H} {P : Program} {tab : Tab} {w : World}

theorem exists_list {α : Type} {Q : Nat → α → Prop} (len : Nat) (h : ∀ i, i < len → ∃ d, Q i d) : ∃ xs : List α, xs.length = len ∧ ∀ i (hi : i < xs.length), Q i xs[i] := by
  refine ⟨List.ofFn (fun i : Fin len => Classical.choose (h i.1 i.2)), by simp, fun i hi => ?_⟩
  simp only [List.length_ofFn] at hi
  simp only [List.getElem_ofFn]
  exact Classical.choose_spec (h i hi)

theorem TabOk.size (tk : TabOk P tab) {t : Nat} (hp : plainK (tab.at t).k) : P.cellsOf t = (tab.at t).size ∧ (tab.at t).ty.size = (tab.at t).size := by
  have hk : (tab.at t).k ≠ .other := fun h => by rw [h] at hp; exact hp
  obtain ⟨i, h1, h2, h3, h4⟩ := (tk t hk).info
  obtain ⟨z, _, _, h5⟩ := h4 (by cases h : (tab.at t).k <;> simp_all [plainK])
  exact ⟨by simp [Program.cellsOf, h1, h2], h5⟩

theorem cells_at {a : Addr} {n : Nat} {cs : List Value} (h : w.cells? 0 a n = some cs) : cs.length = n ∧ (0 < n → a.spot = none ∧ a.block < w.heap.size ∧ ∀ j, j < n → w.cell? ⟨a.block, a.off + j, none⟩ = cs[j]?) := by
  simp only [World.cells?, Nat.zero_le, if_true] at h
  have hlen := mapM_some_length h
  simp only [List.length_range] at hlen
  refine ⟨hlen, fun hn => ?_⟩
  have hg : ∀ j, j < n → w.cell? (a.add j) = cs[j]? := fun j hj => mapM_some_get h j j (by simp [hj])
  have h0 := hg 0 hn
  have hs : a.spot = none ∧ a.block < w.heap.size := by
    have e : cs[0]? = some (cs[0]'(by omega)) := List.getElem?_eq_getElem (by omega)
    rw [e] at h0
    simp only [Addr.add, if_true, World.cell?] at h0
    split at h0
    · rename_i hb
      split at h0
      · cases h0
      · rename_i hs
        refine ⟨by simpa using hs, ?_⟩
        rw [Array.getElem?_eq_some_iff] at hb
        exact hb.1
    · cases h0
  refine ⟨hs.1, hs.2, fun j hj => ?_⟩
  rw [← hg j hj]
  congr 1
  cases a with
  | mk b o s =>
    simp only at hs
    obtain ⟨rfl, _⟩ := hs
    exact (add_eq b o j).symm

theorem fields_rd {cs : List Value} {n : Nat} (IH : ∀ (t : Nat) (cs : List Value) (x : DataW H × List MemPlace), plainK (tab.at t).k → DataW.trod enc P w 0 (fun _ => true) true n t cs = some x →
      ∃ d, Rd w (fun _ => False) (tab.at t).ty d (fun j => cs[j]?) ∧ WF _ d ∧ cs.length = (tab.at t).size) (tk : TabOk P tab) :
    ∀ (fs : List (Nat × Nat)) (o : Nat), offsB tab o fs = true → (∀ p ∈ fs, ∃ x, DataW.trod enc P w 0 (fun _ => true) true n p.2 ((cs.drop p.1).take (P.cellsOf p.2)) = some x) →
      ∃ d, Rd w (fun _ => False) (chain (fs.map fun p => (tab.at p.2).ty)) d (fun j => cs[o + j]?) ∧ WF _ d
  | [], o, _, _ => ⟨(), trivial, trivial⟩
  | p :: r, o, ho, h => by
    simp only [offsB, Bool.and_eq_true, decide_eq_true_eq] at ho
    obtain ⟨⟨rfl, hk⟩, hr⟩ := ho
    have hp : plainK (tab.at p.2).k := by cases h : (tab.at p.2).k <;> simp_all [plainK]
    obtain ⟨x, hx⟩ := h p (by simp)
    obtain ⟨d, hd, hw, hlen⟩ := IH p.2 _ x hp hx
    obtain ⟨s1, s2⟩ := tk.size hp
    obtain ⟨e, he, hw2⟩ := fields_rd IH tk r _ hr (fun q hq => h q (by simp [hq]))
    refine ⟨(d, e), ⟨Rd.congr (fun j hj => ?_) hd, Rd.congr (fun j hj => ?_) he⟩, hw, hw2⟩
    · rw [s2] at hj
      show ((cs.drop p.1).take (P.cellsOf p.2))[j]? = cs[p.1 + j]?
      rw [List.getElem?_take, s1, if_pos hj, List.getElem?_drop]
    · show cs[p.1 + (tab.at p.2).size + j]? = cs[p.1 + ((tab.at p.2).ty.size + j)]?
      rw [s2, Nat.add_assoc]

theorem trod_rd (tk : TabOk P tab) (hl : lookB tab = true) : ∀ (n t : Nat) (cs : List Value) (x : DataW H × List MemPlace), plainK (tab.at t).k → DataW.trod enc P w 0 (fun _ => true) true n t cs = some x →
    ∃ d, Rd w (fun _ => False) (tab.at t).ty d (fun j => cs[j]?) ∧ WF _ d ∧ cs.length = (tab.at t).size := by
  intro n
  induction n with
  | zero => intro t cs x _ h; simp [DataW.trod] at h
  | succ n IH =>
    intro t cs x hp h
    have hne : (tab.at t).k ≠ .other := fun h => by rw [h] at hp; exact hp
    have hd := (tk t hne).desc
    have hsz := tk.size hp
    cases hk : (tab.at t).k with
    | ptr => rw [hk] at hp; exact hp.elim
    | other => rw [hk] at hp; exact hp.elim
    | ifc _ => rw [hk] at hp; exact hp.elim
    | int k =>
      simp only [hk] at hd
      obtain ⟨hu, hty, hs⟩ := hd
      obtain ⟨m, rfl, rfl, hw⟩ := DataW.trod_int hu h
      rw [hty]
      exact ⟨m, rfl, hw, hs.symm⟩
    | bool =>
      simp only [hk] at hd
      obtain ⟨hu, hty, hs⟩ := hd
      obtain ⟨m, rfl, rfl⟩ := DataW.trod_bool hu h
      rw [hty]
      exact ⟨m, rfl, trivial, hs.symm⟩
    | str =>
      simp only [hk] at hd
      obtain ⟨hu, hty, hs⟩ := hd
      obtain ⟨m, rfl, rfl, hw⟩ := DataW.trod_string hu h
      rw [hty]
      refine ⟨m.data.toList, ?_, ?_, hs.symm⟩
      · show some _ = some _
        congr 1
      · show m.data.toList.length ≤ maxLen
        rw [Array.length_toList]
        exact hw
    | sl e =>
      simp only [hk] at hd
      obtain ⟨hu, hty, hs, hes, heb, hek⟩ := hd
      have hpe : plainK (tab.at e).k := by cases h : (tab.at e).k <;> simp_all [plainK]
      obtain ⟨s1, s2⟩ := tk.size hpe
      rw [hty]
      rcases DataW.trod_slice hu h with ⟨rfl, rfl⟩ | ⟨a, len, cap, elems, rest, m, hm, rfl, rfl, _, hlc, hcm, hlen, hel, _, _⟩
      · exact ⟨([] : List (Den (tab.at e).ty)), ⟨none, 0, rfl, by simp, fun i hi => by simp at hi⟩, ⟨by simp, fun x hx => by simp at hx⟩, hs.symm⟩
      · have hm' : m = n := by omega
        subst hm'
        have hspot : 0 < len → a.spot = none := by
          intro h0
          have h1 := hel 0 h0
          rw [List.getElem?_eq_getElem (by omega), Option.bind_eq_some_iff] at h1
          obtain ⟨cs', hc, _⟩ := h1
          have := (cells_at hc).2 (by rw [s1]; exact hes)
          simpa [Addr.add] using this.1
        have key : ∀ i, i < len → ∃ d, (a.spot = none ∧ a.block < w.heap.size ∧ Rd w (fun _ => False) (tab.at e).ty d (fun j => w.cell? ⟨a.block, a.off + i * (tab.at e).ty.size + j, none⟩)) ∧ WF _ d := by
          intro i hi
          have h1 := hel i hi
          rw [List.getElem?_eq_getElem (by omega)] at h1
          rw [Option.bind_eq_some_iff] at h1
          obtain ⟨cs', hc, ht⟩ := h1
          obtain ⟨c1, c2⟩ := cells_at hc
          rw [s1] at c2 hc
          obtain ⟨c3, c4, c5⟩ := c2 hes
          obtain ⟨d, hd, hw, hle⟩ := IH e cs' _ hpe ht
          have hadd : (a.add (i * (tab.at e).size)).block = a.block := by unfold Addr.add; split <;> rfl
          have hoff : (a.add (i * (tab.at e).size)).off = a.off + i * (tab.at e).size := by unfold Addr.add; split <;> simp_all
          refine ⟨d, ⟨hspot (by omega), by rw [← hadd]; exact c4, Rd.congr (fun j hj => ?_) hd⟩, hw⟩
          rw [s2] at hj
          rw [← c5 j hj, hadd, hoff, s2]
        obtain ⟨ds, hdl, hds⟩ := exists_list len key
        refine ⟨ds, ⟨some a, cap, by rw [hdl]; rfl, by rw [hdl]; exact hlc, fun i hi => ?_⟩, ⟨by rw [hdl]; omega, fun x hx => ?_⟩, hs.symm⟩
        · obtain ⟨⟨h1, h2, h3⟩, _⟩ := hds i hi
          refine ⟨a.block, a.off, ?_, fun h => h, h2, h3⟩
          cases a with
          | mk b o s => simp only at h1; subst h1; rfl
        · obtain ⟨i, hi, rfl⟩ := List.getElem_of_mem hx
          exact (hds i hi).2
    | st fs =>
      simp only [hk] at hd
      obtain ⟨⟨fields, hu, hfs⟩, _, _⟩ := hd
      obtain ⟨hty, hoff⟩ := lookB_spec hl hk
      obtain ⟨xs, m, hm, rfl, hlen, hxl, hx⟩ := DataW.trod_struct hu h
      have hm' : m = n := by omega
      subst hm'
      obtain ⟨d, hd, hw⟩ := fields_rd (cs := cs) IH tk fs 0 hoff (fun p hp' => by
        rw [← hfs, List.mem_map] at hp'
        obtain ⟨f, hf, rfl⟩ := hp'
        obtain ⟨i, hi, rfl⟩ := List.getElem_of_mem hf
        have := hx i (fields.toList[i]) (by simp [Array.getElem?_eq_getElem (by simpa using hi)])
        rw [List.getElem?_eq_getElem (by simpa [hxl] using hi)] at this
        exact ⟨_, this⟩)
      rw [hty]
      refine ⟨d, Rd.congr (fun j _ => by simp) hd, hw, ?_⟩
      rw [hlen, hsz.1]
    | arr k e =>
      simp only [hk] at hd
      obtain ⟨hu, _, he⟩ := hd
      obtain ⟨hty, hoff⟩ := lookB_arr hl hk
      obtain ⟨xs, m, hm, rfl, hlen, hxl, hx⟩ := DataW.trod_array hu h
      have hm' : m = n := by omega
      subst hm'
      obtain ⟨ie, hie, hies, _⟩ := (tk e he).info
      have hce : P.cellsOf e = (tab.at e).size := by simp [Program.cellsOf, hie, hies]
      obtain ⟨d, hd, hw⟩ := fields_rd (cs := cs) IH tk (arrP tab e k) 0 hoff (fun p hp' => by
        obtain ⟨i, hi, rfl⟩ := List.mem_map.1 hp'
        have hi := List.mem_range.1 hi
        have := hx i hi
        rw [hce] at this
        rw [List.getElem?_eq_getElem (by rw [hxl]; exact hi)] at this
        exact ⟨_, by simpa [hce] using this⟩)
      rw [hty]
      refine ⟨d, Rd.congr (fun j _ => by simp) hd, hw, ?_⟩
      rw [hlen, hsz.1]

theorem arg_rd (tk : TabOk P tab) (hl : lookB tab = true) {base t : Nat} {v : Value} {d : DataW H} {p : List MemPlace} (hpA : plainA (tab.at t).k) (hok : Value.okWide P w .any base t v) (h : DataW.Trod enc P w 0 (fun _ => true) true t v d p) :
    ∃ x, RdV w (fun _ => False) (tab.at t).ty x v ∧ WF _ x := by
  have hp := hpA.K
  obtain ⟨n, h⟩ := h
  obtain ⟨x, hx, hw, hlen⟩ := trod_rd tk hl n t _ _ hp h
  refine ⟨x, ?_, hw⟩
  have hne : (tab.at t).k ≠ .other := fun h => by rw [h] at hp; exact hp
  have hd := (tk t hne).desc
  have hsz := tk.size hp
  have one : v.cells = #[v] → (tab.at t).ty.isAgg = false → RdV w (fun _ => False) (tab.at t).ty x v := by
    intro hc ha
    unfold RdV
    simp only [ha, Bool.false_eq_true, if_false]
    refine Rd.congr (fun j hj => ?_) hx
    rw [hc]
    rw [hsz.2, ← hlen, hc] at hj
    have : j = 0 := by simp at hj; omega
    subst this
    rfl
  cases hk : (tab.at t).k with
  | ptr => rw [hk] at hp; exact hp.elim
  | other => rw [hk] at hp; exact hp.elim
  | ifc _ => rw [hk] at hp; exact hp.elim
  | arr _ _ => rw [hk] at hpA; exact hpA.elim
  | int k =>
    simp only [hk] at hd
    obtain ⟨m, rfl⟩ := WideShapes.okWide_int hd.1 hok
    exact one rfl (by rw [hd.2.1]; rfl)
  | bool =>
    simp only [hk] at hd
    obtain ⟨m, rfl⟩ := WideShapes.okWide_bool hd.1 hok
    exact one rfl (by rw [hd.2.1]; rfl)
  | str =>
    simp only [hk] at hd
    obtain ⟨m, rfl⟩ := WideShapes.okWide_string hd.1 hok
    exact one rfl (by rw [hd.2.1]; rfl)
  | sl e =>
    simp only [hk] at hd
    obtain ⟨a, len, cap, rfl⟩ := WideShapes.okWide_slice hd.1 hok
    exact one rfl (by rw [hd.2.1]; rfl)
  | st fs =>
    simp only [hk] at hd
    obtain ⟨⟨fields, hu, _⟩, ha, _⟩ := hd
    obtain ⟨cs, rfl, hcs⟩ := WideShapes.okWide_struct hu hok
    unfold RdV
    simp only [ha, if_true]
    refine ⟨cs, rfl, by rw [hcs, hsz.1, hsz.2], ?_⟩
    simpa [Value.cells] using hx
end
end Go.Eng


