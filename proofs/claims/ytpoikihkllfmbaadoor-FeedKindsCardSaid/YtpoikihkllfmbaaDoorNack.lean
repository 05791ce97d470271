/- The contract of nack.Read, a loop over an iterator, by the kit's law of such loops. -/
import Derived.Test.YtpoikihkllfmbaaDoorCtrA
import Derived.RangeFuncBox
import Derived.RangeFuncLeaves
import Derived.Shelf.Abstract
import Derived.WalkKit
import Derived.OwnWalkIn
import Derived.TacticsInMore
import Derived.LoopNIn
import Derived.LoopIn
import Derived.Maps.AppendAt
import Derived.RangeFuncNested
set_option linter.unusedVariables false
namespace Go.Proofs.Tryd.Eng
open Go Go.Eng Go.RowKit Go.Shelf
  attribute [local go_sem] Oper.semAt_some

@[reducible] def tBytes : Ty := .sl (.int .u8)
@[reducible] def tPair : Ty := .cons (.int .u16) (.cons (.int .u16) .nil)
/-- the words of some bytes, from a place on -/
noncomputable def wordsF (xs : List Int) : Nat → Int → Option (List Int)
  | 0, _ => some []
  | n + 1, at_ => match (F_octet_Get (xs, at_, (4 : Int), ()) : Option (Int × Int × Unit)) with
    | some (x, _, _) => match wordsF xs n (at_ + 4) with
      | some r => some (@HMod.hMod Int Int Int _ x 4294967296 :: r)
      | none => none
    | none => none
def pairF (x : Int) : Int × Int × Unit := (IntKind.u16.wrap (IntKind.u32.wrap (x / 65536)), IntKind.u16.wrap x, ())

theorem keeps_below {w W : World} {N : Nat → Prop} (h : Below w.heap.size w W) : Keeps w N W N := ⟨h.size, fun b hb hn => ⟨h.block b hb, hn⟩⟩
theorem gi_below {tab : Tab} {w W : World} {N : Nat → Prop} (hg : GI tab w N) (h : Below w.heap.size w W) : GI tab W N := by
  intro g τ d hq
  obtain ⟨hf, hs, hn, hrd⟩ := hg g τ d hq
  exact ⟨hf, Nat.lt_of_lt_of_le hs h.size, hn, Rd.congr (fun j _ => (cell_of_block (h.block g hs) _).symm) (hrd.flat hf)⟩

/-- octet.Get, in the kit's words -/
theorem get_calls {w W : World} {N : Nat → Prop} {xs : List Int} {v : Value} (hv : RdV w N tBytes xs v) (hg : GI tab w N) (hB : Below w.heap.size w W) {a x : Int} {e : Int} (h : F_octet_Get (xs, a, (4 : Int), ()) = some (x, e, ())) :
    Calls Tryd.prog 35 #[v, .int .i64 a, .int .i64 4] W fun E W' => E = .returned (.tuple #[.int .u64 x, .int .i64 e]) ∧ Below W.heap.size W W' := by
  have hv' : RdV W N tBytes xs v := by
    have : tBytes.isAgg = false := rfl
    simp only [RdV, this, Bool.false_eq_true, if_false] at hv ⊢
    exact hv.keeps (keeps_below hB)
  have hA : ArgsR W N [v, .int .i64 a, .int .i64 4] in_octet_Get [v, .int .i64 a, .int .i64 4] (xs, a, (4 : Int), ()) [] := ⟨hv', by simp [RdV, Ty.isAgg, Rd], by simp [RdV, Ty.isAgg, Rd], trivial⟩
  refine (S_octet_Get.2 W N #[v, .int .i64 a, .int .i64 4] [] (xs, a, (4 : Int), ()) [] rfl hA List.nodup_nil (gi_below hg hB) (x, e, ()) h).mono ?_
  rintro E W' ⟨vals, gs, d', N', he, hp⟩
  have bel : Below W.heap.size W W' := ⟨hp.os, hp.tape, hp.output, hp.size, fun k hk => hp.block k hk (by simp)⟩
  have out := hp.outs
  match vals, gs, out, he with
  | [v1, v2], [], out, he =>
    have e1 : v1 = .int .u64 x := by have := out.1; simpa [RdV, Ty.isAgg, Rd] using this
    have e2 : v2 = .int .i64 e := by have := out.2.1; simpa [RdV, Ty.isAgg, Rd] using this
    subst e1 e2
    exact ⟨he, bel⟩
  | [], _, out, he => exact out.elim
  | [_], _, out, he => exact out.2.elim
  | [_, _], _ :: _, out, he => exact out.2.2.elim
  | _ :: _ :: _ :: _, _, out, he => exact out.2.2.elim

theorem words_in (F : Fence) (n : Nat) (h58 : F.fn 58) (hro : F.round = none) (a : Option Addr) (len cap : Nat) (w : World) :
    CallsIn F n Tryd.prog 58 #[.slice a len cap] w fun e w' => e = .returned (.func (.func 67) #[] #[.pointer (some ⟨w.heap.size, 0, none⟩)]) ∧ w' = w.alloc (.cells #[.slice a len cap] 34) := by
  refine callsIn_of_wp Tryd.func58 rfl h58 ?_ hro
  simp only [Tryd.ntmps58, List.size_toArray, List.length_cons, List.length_nil, Nat.reduceAdd, Nat.reduceSub, Array.replicate_succ, Array.replicate_zero, List.push_toArray, List.append_toArray, List.nil_append, List.cons_append]
  gi_wp2
  go_ret
  exact ⟨rfl, rfl⟩

theorem wordsF_len {xs : List Int} : ∀ {n : Nat} {a : Int} {ws : List Int}, wordsF xs n a = some ws → ws.length = n
  | 0, _, ws, h => by simp only [wordsF, Option.some.injEq] at h; subst h; rfl
  | n + 1, a, ws, h => by
    simp only [wordsF] at h
    split at h
    · split at h
      · rename_i r hr
        simp only [Option.some.injEq] at h
        subst h
        simp [wordsF_len hr]
      · cases h
    · cases h
theorem wordsF_get {xs : List Int} : ∀ {n : Nat} {a : Int} {ws : List Int}, wordsF xs n a = some ws → ∀ k, k < n → ∃ (x e : Int), F_octet_Get (xs, a + 4 * (k : Int), (4 : Int), ()) = some (x, e, ()) ∧ ws[k]? = some (x % 4294967296)
  | 0, _, ws, h, k, hk => by omega
  | n + 1, a, ws, h, k, hk => by
    simp only [wordsF] at h
    split at h
    · rename_i x e u hx
      split at h
      · rename_i r hr
        simp only [Option.some.injEq] at h
        subst h
        cases k with
        | zero =>
          refine ⟨x, e, ?_, rfl⟩
          rw [show a + 4 * ((0 : Nat) : Int) = a by omega]
          exact hx
        | succ k =>
          obtain ⟨x', e', h1, h2⟩ := wordsF_get hr k (by omega)
          refine ⟨x', e', ?_, by simpa using h2⟩
          rw [← h1]
          have : a + 4 * ((k + 1 : Nat) : Int) = a + 4 + 4 * (k : Int) := by omega
          rw [this]
      · cases h
    · cases h

/-- what a round keeps: what lay below, and the box of the bytes -/
def Kw (n₀ Bn : Nat) (W W' : World) : Prop := Below n₀ W W' ∧ ∀ v, Boxed W Bn 34 v → Boxed W' Bn 34 v
theorem Kw.refl (n₀ Bn : Nat) (W : World) : Kw n₀ Bn W W := ⟨Below.refl _ _, fun _ h => h⟩
theorem Kw.trans {n₀ Bn : Nat} {A B C : World} (h : Kw n₀ Bn A B) (k : Kw n₀ Bn B C) : Kw n₀ Bn A C := ⟨h.1.trans k.1, fun v hv => k.2 v (h.2 v hv)⟩

theorem grown_of_below {W W' : World} (h : Below W.heap.size W W') : W.grownBy W' none := ⟨h.os, h.tape, h.output, h.size, fun k hk _ => h.block k hk⟩
theorem kw_of_below {n₀ Bn : Nat} {W W' : World} (h : Below W.heap.size W W') (hn : n₀ ≤ W.heap.size) (hb : Bn < W.heap.size) : Kw n₀ Bn W W' := ⟨h.mono hn, fun v hv => (h.block Bn hb).trans hv⟩
set_option maxRecDepth 100000 in
set_option maxHeartbeats 400000 in
theorem words1_in (n : Nat) (hn : 1 ≤ n) (l Bn n₀ : Nat) (w : World) (hn₀ : n₀ = w.heap.size) (N : Nat → Prop) (xs ws : List Int) (A : Option Addr) (cap : Nat) (hlen : xs.length ≤ 65520) (hmod : xs.length % 4 = 0)
    (hws : wordsF xs (xs.length / 4) 0 = some ws) (hv : RdV w N tBytes xs (.slice A xs.length cap)) (hg : GI tab w N) (J Jx : List Int → World → Prop) (W : World) (hJ : AbidesFrom W.heap.size J)
    (hY : ∀ pre x W, J pre W → pre.length < ws.length → YieldAt Fence.wide (n - 1) Tryd.prog l #[.int .u32 x] W fun e W' =>
      (e = .returned (.bool true) ∧ J (pre ++ [x]) W' ∧ Kw n₀ Bn W W') ∨ (e = .returned (.bool false) ∧ Jx (pre ++ [x]) W'))
    (hB : Below w.heap.size w W) (hBn : Boxed W Bn 34 (.slice A xs.length cap)) (h0 : J [] W) :
    CallsIn Fence.wide n Tryd.prog 67 #[.func (.yield l) #[] #[], .pointer (some ⟨Bn, 0, none⟩)] W fun e W' => (∃ v, e = .returned v) ∧
      ((∃ ys, ys = ws ∧ J ys W') ∨ (∃ pre, pre <+: ws ∧ Jx pre W')) := by
  have hl := wordsF_len hws
  refine callsIn_of_wp Tryd.func67 rfl trivial ?_ rfl
  simp only [Tryd.ntmps67, List.size_toArray, List.length_cons, List.length_nil, Nat.reduceAdd, Nat.reduceSub, Array.replicate_succ, Array.replicate_zero, List.push_toArray, List.append_toArray, List.nil_append, List.cons_append]
  gi_wp2
  gi_loopw [3] (fun i wr => ∃ k : Nat, k ≤ ws.length ∧ i = .int .i64 (4 * k) ∧ J (ws.take k) wr ∧ Kw n₀ Bn W wr)
    (fun i _ => xs.length - (intOf i).toNat)
  case atStart => exact ⟨0, Nat.zero_le _, rfl, h0, Kw.refl _ _ _⟩
  case round =>
    obtain ⟨k, hk, rfl, hJs, hkw⟩ := hrel
    have hbx := hkw.2 _ hBn
    have hbc := hbx.cell
    have hn₂ : n₀ ≤ wr.heap.size := hn₀ ▸ Nat.le_trans hB.size hkw.1.size
    by_cases hlt : k < ws.length
    · obtain ⟨x, e, hx, hwk⟩ := wordsF_get hws k (by omega)
      rw [Int.zero_add] at hx
      have hget := get_calls hv hg (hB.trans (hn₀ ▸ hkw.1)) hx
      have h4 : 4 * (k : Int) + 4 ≤ xs.length := by omega
      clear hx
      gi_wp2_with (refine ⟨trivial, ?_⟩; gi_at_call 35; refine (callsIn_wide.2 hget).mono ?_; rintro e w' ⟨rfl, hb⟩; have hgr := grown_of_below hb; have hJ' := hJ _ _ _ _ hJs hgr (fun r e => by cases e); have hkw' := hkw.trans (kw_of_below hb hn₂ hbx.lt); obtain ⟨fn, tmps, assign, body, hy, hR⟩ := hY _ (x % 4294967296) w' hJ' (by rw [List.length_take]; omega))
      refine hR.mono ?_
      rintro e W3 (⟨rfl, hJ3, hk3⟩ | ⟨rfl, hJx3⟩)
      · gi_wp2
        go_roundw
        case rel => exact ⟨k + 1, by omega, by simp; omega, by rw [List.take_add_one, hwk]; exact hJ3, hkw'.trans hk3⟩
        case measure => simp [intOf]; omega
      · gi_wp2
        refine bodyPost_ret (results_none rfl _ _ _) rfl ?_
        refine ⟨⟨_, rfl⟩, .inr ⟨ws.take (k + 1), List.take_prefix _ _, ?_⟩⟩
        rw [List.take_add_one, hwk]
        exact hJx3
    · obtain rfl : k = ws.length := by omega
      have h4 : ¬ (4 * (ws.length : Int) + 4 ≤ xs.length) := by omega
      gi_wp2
      go_end0
      exact ⟨⟨_, rfl⟩, .inl (by simpa using hJs)⟩

theorem words_stops (n : Nat) (hn : 1 ≤ n) (w w1 : World) (Bn : Nat) (N : Nat → Prop) (xs ws : List Int) (A : Option Addr) (cap : Nat) (hlen : xs.length ≤ 65520) (hmod : xs.length % 4 = 0)
    (hws : wordsF xs (xs.length / 4) 0 = some ws) (hv : RdV w N tBytes xs (.slice A xs.length cap)) (hg : GI tab w N) (hB : Below w.heap.size w w1) (hBn : Boxed w1 Bn 34 (.slice A xs.length cap)) :
    SeqStopsK Fence.wide n Tryd.prog 67 #[.pointer (some ⟨Bn, 0, none⟩)] (fun x : Int => #[Value.int .u32 x]) (Kw w.heap.size Bn) (fun ys => ys = ws) (fun pre => pre <+: ws) ws.length w1 := fun l J Jx W hW hJ _ hY h0 =>
  words1_in n hn l Bn w.heap.size w rfl N xs ws A cap hlen hmod hws hv hg J Jx W hJ hY (hB.trans (hW.mono hB.size)) ((hW.block Bn hBn.lt).trans hBn) h0
end Go.Proofs.Tryd.Eng


set_option linter.unusedVariables false
namespace Go.Proofs.Tryd.Eng
open Go Go.Eng Go.RowKit Go.Shelf
  attribute [local go_sem] Oper.semAt_some

def cellsP (x : Int) : List Value := [.int .u16 (IntKind.u16.wrap (x / 65536)), .int .u16 (IntKind.u16.wrap x)]
theorem cell_two_new (w : World) (x y : Value) (t : TypeId) : ∀ j u, [x, y][j]? = some u → (w.alloc (.cells #[x, y] t)).cell? ((⟨w.heap.size, 0, none⟩ : Addr).add j) = some u := by
  intro j u hj
  match j, hj with
  | 0, hj =>
    simp at hj
    subst hj
    simp [Addr.add]
  | 1, hj =>
    simp at hj
    subst hj
    simp [Addr.add]
theorem info56 : (Tryd.prog.info? 56).map (fun i => (i.zero, i.size, i.bytes)) = some (some (.agg #[.int .u16 0, .int .u16 0]), 2, 4) := by kernel_rfl
theorem kw_b {w1 : World} {n₀ Bn : Nat} (hn : n₀ ≤ w1.heap.size) : ∀ (W : World) (l : Nat) (o o' : Obj), w1.heap.size ≤ l → W.heap[l]? = some o → o.isCells = false → o.isWalk = false → Kw n₀ Bn W (W.putObj l o') := by
  intro W l o o' hl ho hc hw
  refine ⟨belowK_b hn W l o o' hl ho hc hw, fun v hv => ?_⟩
  refine hv.kept (grownBy_putObj' W l o') (fun e => ?_)
  cases e
  have := (show W.heap[Bn]? = _ from hv).symm.trans ho
  cases this
  cases hc

set_option maxRecDepth 100000 in
set_option maxHeartbeats 1000000 in
theorem read_in (n : Nat) (hn : 3 ≤ n) (w : World) (N : Nat → Prop) (xs : List Int) (A : Option Addr) (cap : Nat) (hv : RdV w N tBytes xs (.slice A xs.length cap)) (hg : GI tab w N) (h1 : xs.length ≤ 65520) (h2 : xs.length % 4 = 0) (h3 : xs.length ≠ 0) (ws : List Int)
    (hws : wordsF xs (xs.length / 4) 0 = some ws) :
    CallsIn Fence.wide n Tryd.prog 50 #[.slice A xs.length cap] w fun e W' => ∃ v, e = .returned (.tuple #[v, .int .i64 0]) ∧ W'.ownsRow w.heap.size 56 2 v ws.length (ws.flatMap cellsP) ∧ Below w.heap.size w W' := by
  have hl := wordsF_len hws
  obtain ⟨i0, hi, hz0, hz1, hz2⟩ := info_parts info56
  have h2' : (xs.length : Int) % 4 = 0 := by omega
  have h1' : ¬ (65520 < (xs.length : Int)) := by omega
  have h3' : ¬ ((xs.length : Int) = 0) := by omega
  refine callsIn_of_wp_marks Tryd.func50 rfl trivial ?_ rfl
  simp only [Tryd.ntmps50, List.size_toArray, List.length_cons, List.length_nil, Nat.reduceAdd, Nat.reduceSub, Array.replicate_succ, Array.replicate_zero, List.push_toArray, List.append_toArray, List.nil_append, List.cons_append]
  gi_wp2
  refine ⟨trivial, ?_⟩
  have h1n : 1 ≤ n := by omega
  refine ⟨fun _ => h1n, ?_⟩
  refine (words_in Fence.wide (n - 1) trivial rfl _ _ _ _).mono ?_
  rintro e w' ⟨rfl, rfl⟩
  have bO := Boxed.new w 23 (.slice none 0 0)
  have bN := Boxed.new (w.alloc (.cells #[.slice none 0 0] 23)) 34 (.slice A xs.length cap)
  rw [World.size_alloc] at bN
  have hB0 : Below w.heap.size w ((w.alloc (.cells #[.slice none 0 0] 23)).alloc (.cells #[.slice A xs.length cap] 34)) := ((Below.refl _ w).alloc (Nat.le_refl _) _).alloc (by simp) _
  gi_wp2
  refine wpIn_rangeFunc_ownG rfl h1n (gf := 67) (lb := #[.pointer (some ⟨w.heap.size + 1, 0, none⟩)]) rfl trivial (enters_of Tryd.func67 (by kernel_rfl) rfl)
    (words_stops (n - 1) (by omega) w _ (w.heap.size + 1) N xs ws A cap h1 h2 hws hv hg hB0 bN) Kw.trans (kw_b (by simp; omega)) (Below.refl _ _) (fun _ => rfl)
    (fun pre W => (∃ v, Boxed W w.heap.size 23 v ∧ W.ownsRow w.heap.size 56 2 v pre.length (pre.flatMap cellsP) ∧ True) ∧ Below w.heap.size w W)
    (fun _ _ _ => False)
    (OwnFrom.and (Own.from (holdsRow_own w.heap.size w.heap.size 23 56 2 (fun (pre : List Int) => pre.length) (fun pre => pre.flatMap cellsP) (fun _ _ => True)) _) (ownFrom_below (Nat.le_refl _) (by simp; omega)))
    (fun _ _ _ _ _ hs _ _ => hs)
    ⟨⟨_, bO.alloc _, World.ownsRow_nil _ _ _ _, trivial⟩, hB0⟩
    (fun x => { tmps := #[.slice A xs.length cap, undef, .slice none 0 0, .int .i64 0, .pointer (some ⟨w.heap.size, 0, none⟩), .int .u32 x, .slice A xs.length cap, .int .i64 xs.length, .bool false, .bool false, .slice A xs.length cap, .int .i64 xs.length, .int .i64 0, .bool false, .bool false, .slice A xs.length cap, .int .i64 xs.length, .bool false, .slice A xs.length cap, .func (.func 67) #[] #[.pointer (some ⟨w.heap.size + 1, 0, none⟩)], .int .u32 x, undef, undef, undef, undef, undef, undef, undef, undef, undef, undef], defers := [] }) ?assign ?body ?done ?stop
  case assign =>
    intro l x W K hK
    gi_wp2
    exact hK
  case body =>
    rintro l pre x W ⟨⟨v, hv, hrow, hnil⟩, hB⟩ hlt
    have hc := hv.cell
    have hmx : 20000 ≤ maxLen := by decide
    have hpl : pre.length < 16381 := by omega
    gi_wp2_with (gi_at_builtin; refine wpListIn_append_own _ rfl _ _ 23 rfl w.heap.size 56 i0 (.agg #[.int .u16 0, .int .u16 0]) 2 4 Tryd.underlying23 hi hz0 hz1 hz2 rfl (by decide) _ _ _ rfl (hrow.alloc _) ⟨W.heap.size, 0, none⟩ 1 1 (cellsP x) rfl rfl (cell_two_new _ _ _ _) (by simp [Value.oneCell', cellsP]) (by omega) (by omega) (by have := hB.size; simp; omega) ?_; intro v' w1 hown' hgrow _; obtain ⟨g', cap', rfl⟩ := ownsRow_succ hown'; obtain ⟨hv1, hv2, hr2, hk2, hb2⟩ := hv.appended (by decide) hrow hB.size (Nat.le_refl _) hown' hgrow; have hc1 := hv1.cell; have hf1 := hv1.frozen)
    refine ⟨hk2.from _, ⟨hb2, fun u hu => ?_⟩, ⟨_, hv2, by simpa using hr2, trivial⟩, hB.trans hb2⟩
    have hne := hu.not_row (by decide) hrow
    exact ((hu.alloc _).kept hgrow hne).kept (grownBy_setCell' _ _ _) (by simp)
  case done =>
    rintro D ys W hD rfl ⟨⟨v, hv, hrow, hnil⟩, hB⟩ hK
    have hc := hv.cell
    gi_wp2
    refine ⟨by simp, .inl ⟨_, _, rfl, run_takeDeferred hK, ?_⟩⟩
    exact ⟨_, results_tmp2 rfl _ _ _, v, rfl, ownsRow_putObj hrow _ hK rfl, hB.trans (belowK_b (w := w) (Nat.le_refl _) W D _ _ (by simp at hD; omega) hK rfl rfl)⟩
  case stop =>
    rintro D c pre W _ _ h _
    exact h.elim

set_option maxRecDepth 100000 in
set_option maxHeartbeats 1000000 in
theorem read_long (n : Nat) (hn : 3 ≤ n) (w : World) (xs : List Int) (A : Option Addr) (cap : Nat) (h : 65520 < xs.length ∨ xs.length % 4 ≠ 0) :
    CallsIn Fence.wide n Tryd.prog 50 #[.slice A xs.length cap] w fun e W' => e = .returned (.tuple #[.slice none 0 0, .int .i64 4]) ∧ W' = w := by
  refine callsIn_of_wp Tryd.func50 rfl trivial ?_ rfl
  simp only [Tryd.ntmps50, List.size_toArray, List.length_cons, List.length_nil, Nat.reduceAdd, Nat.reduceSub, Array.replicate_succ, Array.replicate_zero, List.push_toArray, List.append_toArray, List.nil_append, List.cons_append]
  by_cases h1 : 65520 < xs.length
  · have h1' : 65520 < (xs.length : Int) := by omega
    gi_wp2
    refine bodyPost_ret (results_tmp2 rfl _ _ _) rfl ?_
    exact ⟨rfl, rfl⟩
  · have h1' : ¬ (65520 < (xs.length : Int)) := by omega
    have h2' : ¬ ((xs.length : Int) % 4 = 0) := by omega
    gi_wp2
    refine bodyPost_ret (results_tmp2 rfl _ _ _) rfl ?_
    exact ⟨rfl, rfl⟩
set_option maxRecDepth 100000 in
set_option maxHeartbeats 1000000 in
theorem read_nil (n : Nat) (hn : 3 ≤ n) (w : World) (A : Option Addr) (cap : Nat) :
    CallsIn Fence.wide n Tryd.prog 50 #[.slice A 0 cap] w fun e W' => e = .returned (.tuple #[.slice none 0 0, .int .i64 2]) ∧ W' = w := by
  refine callsIn_of_wp Tryd.func50 rfl trivial ?_ rfl
  simp only [Tryd.ntmps50, List.size_toArray, List.length_cons, List.length_nil, Nat.reduceAdd, Nat.reduceSub, Array.replicate_succ, Array.replicate_zero, List.push_toArray, List.append_toArray, List.nil_append, List.cons_append]
  gi_wp2
  refine bodyPost_ret (results_tmp2 rfl _ _ _) rfl ?_
  exact ⟨rfl, rfl⟩

@[reducible] def in_nack_Read : List PK := [.v (.sl (.int .u8))]
@[reducible] def out_nack_Read : List OK := [.o 56 (.cons (.int .u16) (.cons (.int .u16) (.nil))), .v (.int .i64)]
def pairP (x : Int) : Int × Int × Unit := (IntKind.u16.wrap (x / 65536), IntKind.u16.wrap x, ())
/-- what nack.Read computes -/
noncomputable def nackF (xs : List Int) : Option (List (Int × Int × Unit) × Int × Unit) :=
  bif Nat.blt 65520 xs.length || !Nat.beq (xs.length % 4) 0 then some ([], 4, ())
  else bif Nat.beq xs.length 0 then some ([], 2, ())
  else match wordsF xs (xs.length / 4) 0 with
    | some ws => some (ws.map pairP, 0, ())
    | none => none
noncomputable def F_nack_Read : Den (chain (in_nack_Read.map PK.ty)) → Option (Den (chain (out_nack_Read.map OK.ty ++ statesOf in_nack_Read))) := fun d => nackF d.1

theorem cellsP_get : ∀ (ws : List Int) (i : Nat) (h : i < ws.length) (j : Nat), j < 2 → (ws.flatMap cellsP)[i * 2 + j]? = (cellsP ws[i])[j]?
  | [], i, h, _, _ => by simp at h
  | x :: r, 0, _, j, hj => by
    simp only [List.flatMap_cons, Nat.zero_mul, Nat.zero_add, List.getElem_cons_zero]
    rw [List.getElem?_append_left (by simp [cellsP]; omega)]
  | x :: r, i + 1, h, j, hj => by
    simp only [List.flatMap_cons, List.getElem_cons_succ]
    rw [List.getElem?_append_right (by simp [cellsP]; omega), show (i + 1) * 2 + j - (cellsP x).length = i * 2 + j by simp [cellsP]; omega]
    exact cellsP_get r i (by simpa using h) j hj

theorem row_pairs {w W : World} {N : Nat → Prop} {v : Value} {ws : List Int} (h : W.ownsRow w.heap.size 56 2 v ws.length (ws.flatMap cellsP)) :
    RowR w.heap.size W N 56 tPair (ws.map pairP) v := by
  refine ⟨by decide, ws.flatMap cellsP, by rw [List.length_map]; exact h, fun i hi => ?_⟩
  have hi' : i < ws.length := by simpa using hi
  have e0 := cellsP_get ws i hi' 0 (by omega)
  have e1 := cellsP_get ws i hi' 1 (by omega)
  have : (ws.map pairP)[i] = pairP ws[i] := by simp
  rw [this]
  refine ⟨?_, ?_, trivial⟩
  · show (ws.flatMap cellsP)[i * 2 + 0]? = _
    rw [e0]
    rfl
  · show (ws.flatMap cellsP)[i * 2 + 1]? = _
    rw [e1]
    rfl

theorem S_nack_Read : Sound Go.Proofs.Tryd.prog tab 50 ⟨in_nack_Read, out_nack_Read, F_nack_Read⟩ := by
  refine ⟨⟨Tryd.f50, Tryd.func50, fun h => by have := (show (Tryd.f50.name == "runtime.NumGoroutine") = false by kernel_rfl); rw [h] at this; simp at this, by kernel_rfl⟩, ?_⟩
  intro w N args ph d bs hph hA hnd hg r hr
  obtain ⟨xs, u⟩ := d
  have hph0 : ph = [] := List.eq_nil_of_length_eq_zero hph
  subst hph0
  rw [List.nil_append] at hA
  obtain ⟨v, rfl⟩ : ∃ v, args = #[v] := by
    match hq : args.toList, hA with
    | [v], _ => exact ⟨v, by rw [← Array.toList_inj, hq]⟩
    | [], hA => exact hA.elim
    | _ :: _ :: _, hA => exact hA.2.elim
  obtain ⟨hv, hb⟩ : RdV w N tBytes xs v ∧ bs = [] := by
    match bs, hA with
    | [], hA => exact ⟨hA.1, rfl⟩
    | _ :: _, hA => exact hA.2.elim
  subst hb
  obtain ⟨A, cap, rfl, hc⟩ : ∃ A cap, v = .slice A xs.length cap ∧ xs.length ≤ cap := by
    have hv' := hv
    simp only [RdV, Ty.isAgg, Bool.false_eq_true, if_false, Rd] at hv'
    obtain ⟨A, c, e, hc, _⟩ := hv'
    simp at e
    exact ⟨A, c, e, hc⟩
  have fin : ∀ (v : Value) (e : Int) (ps : List (Int × Int × Unit)) (W : World), Below w.heap.size w W → RowR w.heap.size W (fun b => N b ∨ w.heap.size ≤ b) 56 tPair ps v → r = (ps, e, ()) →
      PostR ⟨in_nack_Read, out_nack_Read, F_nack_Read⟩ w N [] r [v, .int .i64 e] (blk v).toList () (fun b => N b ∨ w.heap.size ≤ b) W := by
    intro v e ps W hB hR hr
    subst hr
    refine { os := hB.os, tape := hB.tape, output := hB.output, size := hB.size, block := fun b hb _ => hB.block b hb, up := fun b _ h => .inl h, down := fun b hb h => h.elim id (fun h => absurd hb (Nat.not_lt.2 h)),
             outs := ⟨hR, [], by simp, ?_, rfl⟩, nodup := ?_, gsN := ?_, states := trivial }
    · simp [RdV, Ty.isAgg, Rd]
    · cases blk v <;> simp
    · intro g hgm
      obtain ⟨_, us, ho, _⟩ := hR
      right
      have : blk v = some g := by cases hb : blk v <;> simp_all
      exact (ownsRow_blk ho this).1
  have hr : nackF xs = some r := hr
  unfold nackF at hr
  by_cases h1 : 65520 < xs.length ∨ xs.length % 4 ≠ 0
  · have : (Nat.blt 65520 xs.length || !Nat.beq (xs.length % 4) 0) = true := by
      rcases h1 with h1 | h1
      · have : Nat.blt 65520 xs.length = true := by rw [Nat.blt_eq]; exact h1
        simp [this]
      · have : Nat.beq (xs.length % 4) 0 = false := by
          cases hq : Nat.beq (xs.length % 4) 0 with
          | false => rfl
          | true => exact absurd (Nat.eq_of_beq_eq_true hq) h1
        simp [this]
    rw [this] at hr
    simp only [cond_true] at hr
    have hr := Option.some.inj hr
    refine (callsIn_wide.1 (read_long 3 (by omega) w xs A cap h1)).mono ?_
    rintro E W ⟨rfl, rfl⟩
    exact ⟨_, _, (), _, rfl, fin (.slice none 0 0) 4 [] _ (Below.refl _ _) ⟨by decide, [], World.ownsRow_nil _ _ _ _, fun i hi => by simp at hi⟩ hr.symm⟩
  · have hn1 : ¬ 65520 < xs.length := fun h => h1 (.inl h)
    have hn2 : xs.length % 4 = 0 := Classical.byContradiction fun h => h1 (.inr h)
    have : (Nat.blt 65520 xs.length || !Nat.beq (xs.length % 4) 0) = false := by
      have e1 : Nat.blt 65520 xs.length = false := by
        cases hq : Nat.blt 65520 xs.length with
        | false => rfl
        | true => rw [Nat.blt_eq] at hq; exact absurd hq hn1
      rw [e1, hn2]
      rfl
    rw [this] at hr
    simp only [cond_false] at hr
    by_cases h3 : xs.length = 0
    · have : Nat.beq xs.length 0 = true := by rw [h3]; rfl
      rw [this] at hr
      simp only [cond_true] at hr
      have hr := Option.some.inj hr
      rw [h3]
      refine (callsIn_wide.1 (read_nil 3 (by omega) w A cap)).mono ?_
      rintro E W ⟨rfl, rfl⟩
      exact ⟨_, _, (), _, rfl, fin (.slice none 0 0) 2 [] _ (Below.refl _ _) ⟨by decide, [], World.ownsRow_nil _ _ _ _, fun i hi => by simp at hi⟩ hr.symm⟩
    · have : Nat.beq xs.length 0 = false := by
        cases hq : Nat.beq xs.length 0 with
        | false => rfl
        | true => exact absurd (Nat.eq_of_beq_eq_true hq) h3
      rw [this] at hr
      simp only [cond_false] at hr
      split at hr
      · rename_i ws hws
        have hr := Option.some.inj hr
        refine (callsIn_wide.1 (read_in 3 (by omega) w N xs A cap hv hg (by omega) hn2 h3 ws hws)).mono ?_
        rintro E W ⟨v, rfl, ho, hB⟩
        exact ⟨_, _, (), _, rfl, fin v 0 _ _ hB (row_pairs ho) hr.symm⟩
      · cases hr
end Go.Proofs.Tryd.Eng


