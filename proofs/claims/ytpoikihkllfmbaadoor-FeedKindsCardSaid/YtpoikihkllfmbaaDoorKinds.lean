/- FeedKinds, for every input: it returns true, and the input reads as it did. The card. -/
import Derived.Test.YtpoikihkllfmbaaDoorLaw
import Derived.Test.YtpoikihkllfmbaaDoorEngD
import Derived.Test.YtpoikihkllfmbaaDoorRows
import Derived.ProofKit
import Derived.OpenShut
import Derived.SizedLaws
import Derived.Test.YtpoikihkllfmbaaDoorCards
import Derived.Test.YtpoikihkllfmbaaDoorTie
import Derived.SevenTiedAt
import Derived.WalkKit
import Derived.Deep.DeepHandedRow
import Derived.Lib.LaidTab
set_option linter.unusedVariables false
namespace Go.Proofs.YtpoikihkllfmbaaDoor
open Go Go.Eng Go.ChangeShapes Go.WideShapes Go.ChangeAt Go.RowKit Go.Proofs.Tryd.Eng
theorem own : ownKnob Tryd.prog.godebug = none := by kernel_rfl
theorem laidOut : laidOutB Tryd.prog = true := by kernel_rfl
theorem look_ok : lookB tab = true := by kernel_rfl
theorem under_bool : Tryd.prog.underlying 4 = some .bool := by kernel_rfl
theorem par : Tryd.f5.params = #[3, 3] := by kernel_rfl

theorem gCodes : Tryd.prog.globalNamed "crossbar/feed.codes" = some 0 := by kernel_rfl
theorem gType : (Tryd.prog.globals[0]?).map (·.type) = some 59 := by kernel_rfl
theorem u59 : Tryd.prog.underlying 59 = some (.array 5 58) := by kernel_rfl
theorem u3 : Tryd.prog.underlying 3 = some (.int .i64) := by kernel_rfl
theorem c58 : Tryd.prog.cellsOf 58 = 3 := by kernel_rfl
theorem c59 : Tryd.prog.cellsOf 59 = 15 := by kernel_rfl
theorem c3 : Tryd.prog.cellsOf 3 = 1 := by kernel_rfl
noncomputable def fs58 : Array Field := match Tryd.prog.underlying 58 with | some (.struct fs) => fs | _ => #[]
theorem u58 : Tryd.prog.underlying 58 = some (.struct fs58) := by kernel_rfl
theorem fs58_ok : fs58.toList.map (fun f => (f.offset, f.type)) = [(0, 3), (1, 3), (2, 3)] := by kernel_rfl
theorem gl_one : ((List.range tab.length).all fun g => (tab.at g).gl.isNone || Nat.beq g 0) = true := by kernel_rfl
theorem gl_zero : (tab.at 0).gl = some ⟨(tab.at 59).ty, ((1, 205, 1, ()), (2, 205, 15, ()), (3, 206, 1, ()), (4, 206, 4, ()), (5, 206, 15, ()), ())⟩ := by kernel_rfl
theorem lit_int {W : World} {n : Nat} {cs : List Value} {x : DataW Unit × List MemPlace} {enc : TypeId × Value → Unit} {a : Int} {held : Bool} (h : DataW.trod enc Tryd.prog W 0 (fun _ => true) held n 3 cs = some x) (e : x.1 = .lit (.int .i64 a)) : cs = [.int .i64 a] := by
  obtain ⟨m, rfl, rfl, _⟩ := DataW.trod_int u3 h
  simp only [DataW.lit.injEq, Lit.int.injEq] at e
  rw [e.2]
set_option maxRecDepth 100000 in
theorem code_cells {W : World} {n : Nat} {cs : List Value} {x : DataW Unit × List MemPlace} {enc : TypeId × Value → Unit} {a b c : Int} {held : Bool} (h : DataW.trod enc Tryd.prog W 0 (fun _ => true) held n 58 cs = some x)
    (e : x.1 = .agg [.lit (.int .i64 a), .lit (.int .i64 b), .lit (.int .i64 c)]) : cs = [.int .i64 a, .int .i64 b, .int .i64 c] := by
  obtain ⟨xs, m, rfl, rfl, hlen, hxl, hx⟩ := DataW.trod_struct u58 h
  simp only [DataW.agg.injEq] at e
  have hf : ∀ (i o t : Nat), ([(0, 3), (1, 3), (2, 3)] : List (Nat × Nat))[i]? = some (o, t) → DataW.trod enc Tryd.prog W 0 (fun _ => true) held m t ((cs.drop o).take (Tryd.prog.cellsOf t)) = xs[i]? := by
    intro i o t hi
    rw [← fs58_ok, List.getElem?_map, Option.map_eq_some_iff] at hi
    obtain ⟨f, h1, h2⟩ := hi
    simp only [Prod.mk.injEq] at h2
    have := hx i f (by simpa using h1)
    rw [h2.1, h2.2] at this
    exact this
  match xs, e with
  | [x0, x1, x2], e =>
    simp only [List.map_cons, List.map_nil, List.cons.injEq, and_true] at e
    have h0 := lit_int (hf 0 0 3 rfl) e.1
    have h1 := lit_int (hf 1 1 3 rfl) e.2.1
    have h2 := lit_int (hf 2 2 3 rfl) e.2.2
    rw [c3] at h0 h1 h2
    rw [c58] at hlen
    match cs, hlen with
    | [y0, y1, y2], _ =>
      simp at h0 h1 h2
      rw [h0, h1, h2]
set_option maxRecDepth 100000 in
theorem gi_of {W : World} (h : laidMetH Tryd.prog Rows.feedKindsRow.laid W) : GI tab W (fun _ => False) := by
  obtain ⟨ps, ⟨g, t, cs, fuel, p, q, hg, ht, hv, htr, _, _⟩, _⟩ : laidMet Tryd.prog Rows.feedKindsRow.laid W := h
  rw [gCodes] at hg
  cases hg
  rw [gType] at ht
  cases ht
  have hc : ∀ j, W.cell? ⟨0, j, none⟩ = cs.toList[j]? := fun j => by rw [var?_cell gCodes hv]; simp
  obtain ⟨xs, m, _, e, hlen, hxl, hx⟩ := DataW.trod_array u59 htr
  have e1 := (Prod.mk.inj e).1
  unfold Rows.laid_crossbar_feed_codes at e1
  simp only [DataW.agg.injEq] at e1
  rw [c58] at hx
  rw [c59] at hlen
  have hcs : cs.toList = [.int .i64 1, .int .i64 205, .int .i64 1, .int .i64 2, .int .i64 205, .int .i64 15, .int .i64 3, .int .i64 206, .int .i64 1, .int .i64 4, .int .i64 206, .int .i64 4, .int .i64 5, .int .i64 206, .int .i64 15] := by
    match xs, e1 with
    | [x0, x1, x2, x3, x4], e1 =>
      simp only [List.map_cons, List.map_nil, List.cons.injEq, and_true] at e1
      have h0 := code_cells (hx 0 (by decide)) e1.1.symm
      have h1 := code_cells (hx 1 (by decide)) e1.2.1.symm
      have h2 := code_cells (hx 2 (by decide)) e1.2.2.1.symm
      have h3 := code_cells (hx 3 (by decide)) e1.2.2.2.1.symm
      have h4 := code_cells (hx 4 (by decide)) e1.2.2.2.2.symm
      generalize cs.toList = l at hlen h0 h1 h2 h3 h4
      match l, hlen with
      | [y0, y1, y2, y3, y4, y5, y6, y7, y8, y9, y10, y11, y12, y13, y14], _ =>
        simp at h0 h1 h2 h3 h4
        simp [h0, h1, h2, h3, h4]
  intro g τ d hq
  have hg0 : g = 0 := by
    by_cases hlt : g < tab.length
    · have := List.all_eq_true.1 gl_one g (List.mem_range.2 hlt)
      rw [hq] at this
      simp only [Option.isNone_some, Bool.false_or] at this
      exact Nat.eq_of_beq_eq_true this
    · simp only [Tab.at, List.getD] at hq
      rw [List.getElem?_eq_none (by omega)] at hq
      cases hq
  subst hg0
  rw [gl_zero] at hq
  cases hq
  refine ⟨by kernel_rfl, ?_, fun h => h, ?_⟩
  · have h0 := hc 0
    rw [hcs] at h0
    refine Classical.byContradiction fun hn => ?_
    have : W.heap[0]? = none := Array.getElem?_eq_none (by omega)
    simp [World.cell?, this] at h0
  · refine Rd.congr (g := fun j => cs.toList[j]?) (fun j _ => (hc j).symm) ?_
    rw [hcs]
    exact ⟨⟨rfl, rfl, rfl, trivial⟩, ⟨rfl, rfl, rfl, trivial⟩, ⟨rfl, rfl, rfl, trivial⟩, ⟨rfl, rfl, rfl, trivial⟩, ⟨rfl, rfl, rfl, trivial⟩, trivial⟩

def Wd (d : Den (chain (in_crossbarlaw20_FeedKinds.map PK.ty))) : Prop := WF (chain (in_crossbarlaw20_FeedKinds.map PK.ty)) d
open Classical in
noncomputable def Tf (d : Den (chain (in_crossbarlaw20_FeedKinds.map PK.ty))) : Option (Den (chain (out_crossbarlaw20_FeedKinds.map OK.ty ++ statesOf in_crossbarlaw20_FeedKinds))) := if Wd d then some (true, ()) else none
theorem Tf_pos (d : Den (chain (in_crossbarlaw20_FeedKinds.map PK.ty))) (h : Wd d) : Tf d = some (true, ()) := if_pos h
theorem soundT : Sound Tryd.prog tab 5 ⟨in_crossbarlaw20_FeedKinds, out_crossbarlaw20_FeedKinds, Tf⟩ := S_crossbarlaw20_FeedKinds.of (fun d r h => by
  unfold Tf at h
  split at h
  · rename_i hw
    rw [← h]
    exact kinds_F d hw
  · cases h)
theorem call_law (W : World) (hGI : GI tab W (fun _ => False)) (v0 : Value) (v1 : Value) (x0 : Den (tab.at 3).ty) (R0 : RdV W (fun _ => False) (tab.at 3).ty x0 v0) (w0 : WF (tab.at 3).ty x0) (x1 : Den (tab.at 3).ty) (R1 : RdV W (fun _ => False) (tab.at 3).ty x1 v1) (w1 : WF (tab.at 3).ty x1) : Calls Tryd.prog 5 #[v0, v1] W fun e W' => e = .returned (.bool true) ∧ Below W.heap.size W W' := by
  have hR : ArgsR W (fun _ => False) [v0, v1] in_crossbarlaw20_FeedKinds [v0, v1] (x0, x1, ()) [] := ⟨R0, R1, trivial⟩
  have hw : Wd (x0, x1, ()) := ⟨w0, w1, trivial⟩
  refine (soundT.2 W (fun _ => False) #[v0, v1] [] (x0, x1, ()) [] rfl hR List.nodup_nil hGI (true, ()) (Tf_pos _ hw)).mono ?_
  rintro e W' ⟨vals, gs, d', N', he, hp⟩
  have bel : Below W.heap.size W W' := ⟨hp.os, hp.tape, hp.output, hp.size, fun k hk => hp.block k hk (by simp)⟩
  have out := hp.outs
  match vals, gs, out, he with
  | [v], [], out, he =>
    have hv : v = .bool true := by
      have := out.1
      simpa [RdV, Ty.isAgg, Rd] using this
    subst hv
    exact ⟨he, bel⟩
  | [], _, out, he => exact out.elim
  | [_], _ :: _, out, he => exact out.2.elim
  | _ :: _ :: _, _, out, he => exact out.2.elim

set_option maxRecDepth 100000 in
theorem contract (H : Type) (enc : TypeId × Value → H) (W : World) (base : Nat) (args : Array Value) (ds gs : List (DataW H)) (before : List MemPlace)
    (hval : ∀ (j : Nat) t v, Tryd.f5.params[j]? = some t → args[j]? = some v → Value.okWide Tryd.prog W .any base t v)
    (hW : DataW.Whole enc Tryd.prog Tryd.f5.params.toList Rows.feedKindsSpec.vars false W args.toList ds gs before) (hL : laidMetH Tryd.prog Rows.feedKindsRow.laid W) :
    Calls Tryd.prog 5 args W fun e W' => ∃ v, e = .returned v ∧ Rows.feedKindsSpec.post enc Tryd.prog Tryd.f5 false true false false W args v W' := by
  have hW' := hW
  obtain ⟨p, q, hA0, hV, rfl, hfz, hnd⟩ := hW
  have hA : DataW.TrodAll enc Tryd.prog W 0 (fun _ => true) true Tryd.f5.params.toList args.toList ds p := hA0
  rw [par] at hA hval
  obtain ⟨v0, vs0, d0, ds0, p0, q0, hargs, rfl, rfl, h0, r0⟩ := trodAll_cons hA
  obtain ⟨v1, vs1, d1, ds1, p1, q1, rfl, rfl, rfl, h1, r1⟩ := trodAll_cons r0
  obtain ⟨rfl, rfl, rfl⟩ := trodAll_nil r1
  obtain rfl : args = #[v0, v1] := by cases args; simp_all
  obtain ⟨rfl, rfl⟩ := trodVars_none hV
  obtain ⟨x0, R0, w0⟩ := arg_rd tab_ok look_ok (t := 3) trivial (hval 0 3 v0 rfl rfl) h0
  obtain ⟨x1, R1, w1⟩ := arg_rd tab_ok look_ok (t := 3) trivial (hval 1 3 v1 rfl rfl) h1
  have lt0 : ∀ x ∈ p0, x.block < W.heap.size := by obtain ⟨m, hm⟩ := h0; exact DataW.trod_lt m _ _ _ hm
  have lt1 : ∀ x ∈ p1, x.block < W.heap.size := by obtain ⟨m, hm⟩ := h1; exact DataW.trod_lt m _ _ _ hm
  refine (call_law W (gi_of hL) v0 v1 x0 R0 w0 x1 R1 w1).mono ?_
  rintro e W' ⟨rfl, bel⟩
  exact ⟨_, rfl, _, _, _, [], _, [], hW', trodAll_mk1 (shut_bool under_bool _), (trodAll_cons_mk (Below.trod laidOut (by kernel_rfl) (of_decide_eq_true (by kernel_rfl)) h0 bel lt0) (trodAll_cons_mk (Below.trod laidOut (by kernel_rfl) (of_decide_eq_true (by kernel_rfl)) h1 bel lt1) trodAll_mk0)), rfl, bel.frame _, fun h => by cases h⟩

/-- A WORLD FOR THE WITNESS -/
noncomputable def laidWorld (os : Os) : World :=
  { World.holding Tryd.prog os ⟨#[], #[], []⟩ with heap := (World.holding Tryd.prog os ⟨#[], #[], []⟩).heap.modify 0 fun
      | .cells _ t frozen => .cells #[.int .i64 1, .int .i64 205, .int .i64 1, .int .i64 2, .int .i64 205, .int .i64 15, .int .i64 3, .int .i64 206, .int .i64 1, .int .i64 4, .int .i64 206, .int .i64 4, .int .i64 5, .int .i64 206, .int .i64 15] t frozen
      | o => o }
set_option maxRecDepth 100000 in
theorem laid_met (os : Os) : laidMet Tryd.prog Rows.feedKindsRow.laid ((laidWorld os).forCall (fun _ _ => 0) ⟨#[], #[.int .i64 0, .int .i64 0], []⟩).memory :=
  laidMet_of_run' 8 (by kernel_rfl) (by kernel_rfl)
set_option maxRecDepth 100000 in
theorem reads (os : Os) {H : Type} (enc : TypeId × Value → H) : ∃ places, DataW.whole enc Tryd.prog ((laidWorld os).forCall (fun _ _ => 0) ⟨#[], #[.int .i64 0, .int .i64 0], []⟩).memory Tryd.f5.params.toList Rows.feedKindsSpec.vars false (#[.int .i64 0, .int .i64 0] : Array Value).toList 8 = some ([.lit (.int .i64 0), .lit (.int .i64 0)], [], places) :=
  ⟨[], by kernel_rfl⟩

set_option maxRecDepth 100000 in
theorem lifted (os : Os) (started : os.Started) (H : Type) (enc : TypeId × Value → H) (F : Stop.Interp) :
    ReturnsInHanded {} Tryd.checked os 5 .any ((OpenSpec.ofChange Rows.feedKindsSpec).preRow enc Tryd.prog Tryd.f5 Rows.feedKindsRow.domain false Rows.feedKindsRow.laid) (((OpenSpec.ofChange Rows.feedKindsSpec).at F).post enc Tryd.prog Tryd.f5 false true false false) := by
  obtain ⟨places, hx⟩ := reads os enc
  refine returnsInHanded_of_row (C := Tryd.checked) (s := OpenSpec.ofChange Rows.feedKindsSpec) own started (by kernel_rfl) Tryd.func5
    (witness_row_at (enc := enc) (C := Tryd.checked) false (laidWorld os) #[.int .i64 0, .int .i64 0] rfl (by kernel_rfl) (by kernel_rfl) (by kernel_rfl)
      (OpenSpec.preRow_of_cond 8 hx (by kernel_rfl) (fun k hk => by cases hk) (by kernel_rfl) (laid_met os))) ?_
  intro W base args ds gs before hval hW _ _ _ hL _ _
  exact contract H enc W base args ds gs before hval hW hL

set_option maxRecDepth 100000 in
theorem feedKinds_holds : Rows.FeedKindsSaid :=
  OpenClaim.holds_of_cond 5 Tryd.f5 rfl rfl rfl rfl rfl rfl rfl ⟨rfl, rfl, rfl, rfl, rfl⟩ rfl rfl rfl rfl rfl (by kernel_rfl) Tryd.func5 (by kernel_rfl)
    (of_decide_eq_true (by kernel_rfl)) (by unfold Func.isWrapper; first | (rw [if_pos (by decide +kernel)]; kernel_rfl) | (rw [if_neg (by decide +kernel)]; exact ⟨rfl, rfl⟩))
    (fun os started H enc _ F => by rw [OpenClaim.pre_eq_preRow]; exact lifted os started H enc F)

set_option maxRecDepth 100000 in
theorem plain (f : FuncId) (fn : Func) (hf : Tryd.pinned.checked.prog.funcNamed Rows.feedKindsRow.func = some f) (hfn : Tryd.pinned.checked.prog.funcs[f]? = some fn) :
    true = Tryd.pinned.checked.prog.looks [] ∧ ∀ (j : Nat) t, fn.params[j]? = some t → Tryd.pinned.checked.prog.wantsStandIn t = false := by
  obtain rfl : f = 5 := Option.some.inj ((show Tryd.prog.funcNamed Rows.feedKindsRow.func = some 5 by kernel_rfl).symm.trans hf) |>.symm
  obtain rfl : fn = Tryd.f5 := (Option.some.inj (Tryd.func5.symm.trans hfn)).symm
  refine ⟨by kernel_rfl, fun j t ht => ?_⟩
  rw [par] at ht
  have hall : ∀ t ∈ ([3, 3] : List Nat), Tryd.prog.wantsStandIn t = false := by
    intro t ht
    simp only [List.mem_cons, List.not_mem_nil, or_false] at ht
    rcases ht with rfl | rfl <;> kernel_rfl
  exact hall t (by simpa using Array.mem_of_getElem? ht)
set_option maxRecDepth 100000 in
theorem feedKinds_card : Rows.FeedKindsCardSaid :=
  Claim7.holds_tied_plain_at .later [] _ _ _ _ feedKinds_holds (fun _ h => by cases h) (by kernel_rfl) (fun _ h => by cases h) feedKinds_row_tie rfl ⟨rfl, rfl⟩ (by kernel_rfl) rfl plain (by kernel_rfl)
end Go.Proofs.YtpoikihkllfmbaaDoor


