/- Av1Back, for every input: it returns true, and the input reads as it did. No condition. -/
import Derived.Test.YtpoikihkllfmbaaLawsD
import Derived.Test.YtpoikihkllfmbaaEngD
import Derived.Test.YtpoikihkllfmbaaRows
import Derived.ProofKit
import Derived.OpenShut
import Derived.SizedLaws
set_option linter.unusedVariables false
namespace Go.Proofs.Ytpoikihkllfmbaa
open Go Go.Eng Go.ChangeShapes Go.WideShapes Go.ChangeAt Go.RowKit Go.Proofs.Try.Eng
theorem own : ownKnob Try.prog.godebug = none := by kernel_rfl
theorem laidOut : laidOutB Try.prog = true := by kernel_rfl
theorem look_ok : lookB tab = true := by kernel_rfl
theorem under_bool : Try.prog.underlying 4 = some .bool := by kernel_rfl
theorem par : Try.f4.params = #[29, 29, 26, 30, 5] := by kernel_rfl

def Wd (d : Den (chain (in_crossbarlaw27_Av1Back.map PK.ty))) : Prop := WF (chain (in_crossbarlaw27_Av1Back.map PK.ty)) d
open Classical in
noncomputable def Tf (d : Den (chain (in_crossbarlaw27_Av1Back.map PK.ty))) : Option (Den (chain (out_crossbarlaw27_Av1Back.map OK.ty ++ statesOf in_crossbarlaw27_Av1Back))) := if Wd d then some (true, ()) else none
theorem Tf_pos (d : Den (chain (in_crossbarlaw27_Av1Back.map PK.ty))) (h : Wd d) : Tf d = some (true, ()) := if_pos h
theorem soundT : Sound Try.prog 4 ⟨in_crossbarlaw27_Av1Back, out_crossbarlaw27_Av1Back, Tf⟩ := S_crossbarlaw27_Av1Back.of (fun d r h => by
  unfold Tf at h
  split at h
  · rename_i hw
    rw [← h]
    exact back_F d hw
  · cases h)
theorem call_law (W : World) (v0 : Value) (v1 : Value) (v2 : Value) (v3 : Value) (v4 : Value) (x0 : Den (tab.at 29).ty) (R0 : RdV W (fun _ => False) (tab.at 29).ty x0 v0) (w0 : WF (tab.at 29).ty x0) (x1 : Den (tab.at 29).ty) (R1 : RdV W (fun _ => False) (tab.at 29).ty x1 v1) (w1 : WF (tab.at 29).ty x1) (x2 : Den (tab.at 26).ty) (R2 : RdV W (fun _ => False) (tab.at 26).ty x2 v2) (w2 : WF (tab.at 26).ty x2) (x3 : Den (tab.at 30).ty) (R3 : RdV W (fun _ => False) (tab.at 30).ty x3 v3) (w3 : WF (tab.at 30).ty x3) (x4 : Den (tab.at 5).ty) (R4 : RdV W (fun _ => False) (tab.at 5).ty x4 v4) (w4 : WF (tab.at 5).ty x4) : Calls Try.prog 4 #[v0, v1, v2, v3, v4] W fun e W' => e = .returned (.bool true) ∧ Below W.heap.size W W' := by
  have hR : ArgsR W (fun _ => False) [v0, v1, v2, v3, v4] in_crossbarlaw27_Av1Back [v0, v1, v2, v3, v4] (x0, x1, x2, x3, x4, ()) [] := ⟨R0, R1, R2, R3, R4, trivial⟩
  have hw : Wd (x0, x1, x2, x3, x4, ()) := ⟨w0, w1, w2, w3, w4, trivial⟩
  refine (soundT.2 W (fun _ => False) #[v0, v1, v2, v3, v4] [] (x0, x1, x2, x3, x4, ()) [] rfl hR List.nodup_nil (true, ()) (Tf_pos _ hw)).mono ?_
  rintro e W' ⟨vals, gs, d', N', he, hp⟩
  have bel : Below W.heap.size W W' := ⟨hp.os, hp.tape, hp.output, hp.size, fun k hk => hp.block k hk (by simp)⟩
  have out := hp.outs
  match vals, gs, out, he with
  | [v], [], out, he =>
    have hv : v = .bool true := by
      have := out.1
      simpa [RdV, Ty.isAgg, Rd] using this
    subst hv
    exact ⟨he, bel⟩
  | [], _, out, he => exact out.elim
  | [_], _ :: _, out, he => exact out.2.elim
  | _ :: _ :: _, _, out, he => exact out.2.elim

set_option maxRecDepth 100000 in
theorem lifted (os : Os) (started : os.Started) (H : Type) (enc : TypeId × Value → H) :
    ReturnsInHanded {} Try.checked os 4 .any (Rows.av1BackSpec.pre6 enc Try.prog Try.f4 Rows.av1BackRow.domain false) (Rows.av1BackSpec.post enc Try.prog Try.f4 false true false false) := by
  refine returnsInHanded_of_change_sized (C := Try.checked) own started (by kernel_rfl) Try.func4
    (ChangeSpec.witness6 (enc := enc) (C := Try.checked) false ⟨#[], #[.agg #[.bool false, .bool false, .int .i64 0, .int .i64 0, .bool false, .int .i64 0, .int .i64 0, .int .i64 0, .slice none 0 0, .slice none 0 0, .slice none 0 0, .bool false, .int .u32 0, .bool false, .slice none 0 0, .bool false, .slice none 0 0, .bool false, .slice none 0 0], .agg #[.bool false, .bool false, .int .i64 0, .int .i64 0, .bool false, .int .i64 0, .int .i64 0, .int .i64 0, .slice none 0 0, .slice none 0 0, .slice none 0 0, .bool false, .int .u32 0, .bool false, .slice none 0 0, .bool false, .slice none 0 0, .bool false, .slice none 0 0], .agg #[.int .i64 0, .int .i64 0, .int .i64 0, .slice none 0 0, .slice none 0 0, .slice none 0 0], .slice none 0 0, .int .u8 0], []⟩ 8 (by kernel_rfl) (by kernel_rfl) (by kernel_rfl) (by kernel_rfl)) ?_
  intro W base args ds gs before hval0 hW hcnd hsz0 _
  have hval : ∀ (j : Nat) t v, Try.f4.params[j]? = some t → args[j]? = some v → Value.okWide Try.prog W .any base t v := hval0
  have hW' := hW
  obtain ⟨p, q, hA0, hV, rfl, hfz, hnd⟩ := hW
  have hA : DataW.TrodAll enc Try.prog W 0 (fun _ => true) true Try.f4.params.toList args.toList ds p := hA0
  rw [par] at hA hval
  obtain ⟨v0, vs0, d0, ds0, p0, q0, hargs, rfl, rfl, h0, r0⟩ := trodAll_cons hA
  obtain ⟨v1, vs1, d1, ds1, p1, q1, rfl, rfl, rfl, h1, r1⟩ := trodAll_cons r0
  obtain ⟨v2, vs2, d2, ds2, p2, q2, rfl, rfl, rfl, h2, r2⟩ := trodAll_cons r1
  obtain ⟨v3, vs3, d3, ds3, p3, q3, rfl, rfl, rfl, h3, r3⟩ := trodAll_cons r2
  obtain ⟨v4, vs4, d4, ds4, p4, q4, rfl, rfl, rfl, h4, r4⟩ := trodAll_cons r3
  obtain ⟨rfl, rfl, rfl⟩ := trodAll_nil r4
  obtain rfl : args = #[v0, v1, v2, v3, v4] := by cases args; simp_all
  obtain ⟨rfl, rfl⟩ := trodVars_none hV
  obtain ⟨x0, R0, w0⟩ := arg_rd tab_ok look_ok (t := 29) trivial (hval 0 29 v0 rfl rfl) h0
  obtain ⟨x1, R1, w1⟩ := arg_rd tab_ok look_ok (t := 29) trivial (hval 1 29 v1 rfl rfl) h1
  obtain ⟨x2, R2, w2⟩ := arg_rd tab_ok look_ok (t := 26) trivial (hval 2 26 v2 rfl rfl) h2
  obtain ⟨x3, R3, w3⟩ := arg_rd tab_ok look_ok (t := 30) trivial (hval 3 30 v3 rfl rfl) h3
  obtain ⟨x4, R4, w4⟩ := arg_rd tab_ok look_ok (t := 5) trivial (hval 4 5 v4 rfl rfl) h4
  have lt0 : ∀ x ∈ p0, x.block < W.heap.size := by obtain ⟨m, hm⟩ := h0; exact DataW.trod_lt m _ _ _ hm
  have lt1 : ∀ x ∈ p1, x.block < W.heap.size := by obtain ⟨m, hm⟩ := h1; exact DataW.trod_lt m _ _ _ hm
  have lt2 : ∀ x ∈ p2, x.block < W.heap.size := by obtain ⟨m, hm⟩ := h2; exact DataW.trod_lt m _ _ _ hm
  have lt3 : ∀ x ∈ p3, x.block < W.heap.size := by obtain ⟨m, hm⟩ := h3; exact DataW.trod_lt m _ _ _ hm
  have lt4 : ∀ x ∈ p4, x.block < W.heap.size := by obtain ⟨m, hm⟩ := h4; exact DataW.trod_lt m _ _ _ hm
  refine (call_law W v0 v1 v2 v3 v4 x0 R0 w0 x1 R1 w1 x2 R2 w2 x3 R3 w3 x4 R4 w4).mono ?_
  rintro e W' ⟨rfl, bel⟩
  exact ⟨_, rfl, _, _, _, [], _, [], hW', trodAll_mk1 (shut_bool under_bool _), (trodAll_cons_mk (Below.trod laidOut (by kernel_rfl) (of_decide_eq_true (by kernel_rfl)) h0 bel lt0) (trodAll_cons_mk (Below.trod laidOut (by kernel_rfl) (of_decide_eq_true (by kernel_rfl)) h1 bel lt1) (trodAll_cons_mk (Below.trod laidOut (by kernel_rfl) (of_decide_eq_true (by kernel_rfl)) h2 bel lt2) (trodAll_cons_mk (Below.trod laidOut (by kernel_rfl) (of_decide_eq_true (by kernel_rfl)) h3 bel lt3) (trodAll_cons_mk (Below.trod laidOut (by kernel_rfl) (of_decide_eq_true (by kernel_rfl)) h4 bel lt4) trodAll_mk0))))), rfl, bel.frame _, fun h => by cases h⟩

theorem av1Back_holds : Rows.Av1BackSaid :=
  OpenClaim.holds_of_wide 4 Try.f4 rfl rfl rfl rfl rfl rfl rfl ⟨rfl, rfl, rfl, rfl, rfl⟩ rfl rfl rfl rfl rfl (by kernel_rfl) Try.func4 (by kernel_rfl)
    (of_decide_eq_true (by kernel_rfl)) (by unfold Func.isWrapper; first | (rw [if_pos (by decide +kernel)]; kernel_rfl) | (rw [if_neg (by decide +kernel)]; exact ⟨rfl, rfl⟩))
    (fun os started H enc _ => lifted os started H enc)
end Go.Proofs.Ytpoikihkllfmbaa


