/- Av1Known, for every input: it returns true, and the input reads as it did. No condition. -/
import Derived.Test.YtpoikihkllfmbaaLaws
import Derived.Test.YtpoikihkllfmbaaEngD
import Derived.Test.YtpoikihkllfmbaaRows
import Derived.ProofKit
import Derived.OpenShut
import Derived.SizedLaws
set_option linter.unusedVariables false
namespace Go.Proofs.Ytpoikihkllfmbaa
open Go Go.Eng Go.ChangeShapes Go.WideShapes Go.ChangeAt Go.RowKit Go.Proofs.Try.Eng
theorem own : ownKnob Try.prog.godebug = none := by kernel_rfl
theorem laidOut : laidOutB Try.prog = true := by kernel_rfl
theorem look_ok : lookB tab = true := by kernel_rfl
theorem under4 : Try.prog.underlying 4 = some .bool := by kernel_rfl
theorem par5 : Try.f5.params = #[29, 26] := by kernel_rfl

theorem law_F (d : Den (chain (in_crossbarlaw27_Av1Known.map PK.ty))) : F_crossbarlaw27_Av1Known d = some (true, ()) := law_known d.1 d.2.1
theorem soundT : Sound Try.prog 5 ⟨in_crossbarlaw27_Av1Known, out_crossbarlaw27_Av1Known, fun _ => some (true, ())⟩ := S_crossbarlaw27_Av1Known.of (fun d r h => by
  rw [law_F]
  exact h)
theorem call_known (W : World) (v0 v1 : Value) (x0 : Den (tab.at 29).ty) (x1 : Den (tab.at 26).ty) (R0 : RdV W (fun _ => False) (tab.at 29).ty x0 v0) (R1 : RdV W (fun _ => False) (tab.at 26).ty x1 v1) :
    Calls Try.prog 5 #[v0, v1] W fun e W' => e = .returned (.bool true) ∧ Below W.heap.size W W' := by
  have hR : ArgsR W (fun _ => False) in_crossbarlaw27_Av1Known [v0, v1] (x0, x1, ()) [] := ⟨R0, R1, trivial⟩
  refine (soundT.2 W (fun _ => False) #[v0, v1] (x0, x1, ()) [] hR List.nodup_nil (true, ()) rfl).mono ?_
  rintro e W' ⟨vals, gs, d', N', he, hp⟩
  have bel : Below W.heap.size W W' := ⟨hp.os, hp.tape, hp.output, hp.size, fun k hk => hp.block k hk (by simp)⟩
  have out := hp.outs
  match vals, gs, out, he with
  | [v], [], out, he =>
    have hv : v = .bool true := by
      have := out.1
      simpa [RdV, Ty.isAgg, Rd] using this
    subst hv
    exact ⟨he, bel⟩
  | [], _, out, he => exact out.elim
  | [_], _ :: _, out, he => exact out.2.elim
  | _ :: _ :: _, _, out, he => exact out.2.elim

set_option maxRecDepth 100000 in
theorem lifted (os : Os) (started : os.Started) (H : Type) (enc : TypeId × Value → H) :
    ReturnsInHanded {} Try.checked os 5 .any (Rows.av1KnownSpec.pre6 enc Try.prog Try.f5 Rows.av1KnownRow.domain false) (Rows.av1KnownSpec.post enc Try.prog Try.f5 false true false false) := by
  refine returnsInHanded_of_change_sized (C := Try.checked) own started (by kernel_rfl) Try.func5
    (ChangeSpec.witness6 (enc := enc) (C := Try.checked) false ⟨#[], #[.agg #[.bool false, .bool false, .int .i64 0, .int .i64 0, .bool false, .int .i64 0, .int .i64 0, .int .i64 0, .slice none 0 0, .slice none 0 0, .slice none 0 0, .bool false, .int .u32 0, .bool false, .slice none 0 0, .bool false, .slice none 0 0, .bool false, .slice none 0 0],
      .agg #[.int .i64 0, .int .i64 0, .int .i64 0, .slice none 0 0, .slice none 0 0, .slice none 0 0]], []⟩ 8 (by kernel_rfl) (by kernel_rfl) (by kernel_rfl) (by kernel_rfl)) ?_
  intro W base args ds gs before hval0 hW hcnd hsz0 _
  have hval : ∀ (j : Nat) t v, Try.f5.params[j]? = some t → args[j]? = some v → Value.okWide Try.prog W .any base t v := hval0
  have hW' := hW
  obtain ⟨p, q, hA0, hV, rfl, hfz, hnd⟩ := hW
  have hA : DataW.TrodAll enc Try.prog W 0 (fun _ => true) true Try.f5.params.toList args.toList ds p := hA0
  rw [par5] at hA hval
  obtain ⟨v0, vs0, d0, ds0, p0, q0, hargs, rfl, rfl, h0, r0⟩ := trodAll_cons hA
  obtain ⟨v1, vs1, d1, ds1, p1, q1, rfl, rfl, rfl, h1, r1⟩ := trodAll_cons r0
  obtain ⟨rfl, rfl, rfl⟩ := trodAll_nil r1
  obtain rfl : args = #[v0, v1] := by cases args; simp_all
  obtain ⟨rfl, rfl⟩ := trodVars_none hV
  obtain ⟨x0, R0, _⟩ := arg_rd tab_ok look_ok (t := 29) trivial (hval 0 29 v0 rfl rfl) h0
  obtain ⟨x1, R1, _⟩ := arg_rd tab_ok look_ok (t := 26) trivial (hval 1 26 v1 rfl rfl) h1
  have lt0 : ∀ x ∈ p0, x.block < W.heap.size := by obtain ⟨m, hm⟩ := h0; exact DataW.trod_lt m _ _ _ hm
  have lt1 : ∀ x ∈ p1, x.block < W.heap.size := by obtain ⟨m, hm⟩ := h1; exact DataW.trod_lt m _ _ _ hm
  refine (call_known W v0 v1 x0 x1 R0 R1).mono ?_
  rintro e W' ⟨rfl, bel⟩
  exact ⟨_, rfl, _, _, _, [], _, [], hW', trodAll_mk1 (shut_bool under4 _), (trodAll_cons_mk (Below.trod laidOut (by kernel_rfl) (of_decide_eq_true (by kernel_rfl)) h0 bel lt0) (trodAll_cons_mk (Below.trod laidOut (by kernel_rfl) (of_decide_eq_true (by kernel_rfl)) h1 bel lt1) trodAll_mk0)), rfl, bel.frame _, fun h => by cases h⟩

theorem av1Known_holds : Rows.Av1KnownSaid :=
  OpenClaim.holds_of_wide 5 Try.f5 rfl rfl rfl rfl rfl rfl rfl ⟨rfl, rfl, rfl, rfl, rfl⟩ rfl rfl rfl rfl rfl (by kernel_rfl) Try.func5 (by kernel_rfl)
    (of_decide_eq_true (by kernel_rfl)) (by unfold Func.isWrapper; first | (rw [if_pos (by decide +kernel)]; kernel_rfl) | (rw [if_neg (by decide +kernel)]; exact ⟨rfl, rfl⟩))
    (fun os started H enc _ => lifted os started H enc)
end Go.Proofs.Ytpoikihkllfmbaa


