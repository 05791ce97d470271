/- The contracts of the functions that the law reaches, each by the evaluator's soundness. -/
import Derived.Test.YtpoikihkllfmbaaEngD
import Derived.Test.YtpoikihkllfmbaaProg
set_option linter.unusedVariables false
namespace Go.Proofs.Try.Eng
open Go Go.Eng
def tab : Tab := [
  ⟨.other, 0, 0, .nil, false⟩,
  ⟨.other, 0, 0, .nil, false⟩,
  ⟨.int .i64, 1, 8, .int .i64, false⟩,
  ⟨.int .i64, 1, 8, .int .i64, false⟩,
  ⟨.bool, 1, 1, .bool, false⟩,
  ⟨.int .u8, 1, 1, .int .u8, false⟩,
  ⟨.int .u8, 1, 1, .int .u8, false⟩,
  ⟨.st [(0, 2), (1, 3), (2, 4), (3, 6)], 4, 24, .cons (.int .i64) (.cons (.int .i64) (.cons (.bool) (.cons (.int .u8) (.nil)))), false⟩,
  ⟨.st [(0, 2), (1, 3), (2, 4), (3, 6)], 4, 24, .cons (.int .i64) (.cons (.int .i64) (.cons (.bool) (.cons (.int .u8) (.nil)))), false⟩,
  ⟨.str, 1, 16, .str, false⟩,
  ⟨.str, 1, 16, .str, false⟩,
  ⟨.str, 1, 16, .str, false⟩,
  ⟨.int .u64, 1, 8, .int .u64, false⟩,
  ⟨.st [(0, 9), (1, 12)], 2, 24, .cons (.str) (.cons (.int .u64) (.nil)), false⟩,
  ⟨.st [(0, 9), (1, 12)], 2, 24, .cons (.str) (.cons (.int .u64) (.nil)), false⟩,
  ⟨.ptr, 1, 8, .nil, false⟩,
  ⟨.ptr, 1, 8, .nil, false⟩,
  ⟨.ptr, 1, 8, .nil, false⟩,
  ⟨.other, 0, 0, .nil, false⟩,
  ⟨.other, 0, 0, .nil, false⟩,
  ⟨.other, 0, 0, .nil, false⟩,
  ⟨.int .i32, 1, 4, .int .i32, false⟩,
  ⟨.sl 3, 1, 24, .sl (.int .i64), false⟩,
  ⟨.sl 39, 1, 24, .sl (.cons (.int .i64) (.cons (.int .i64) (.cons (.sl (.int .i64)) (.cons (.sl (.int .i64)) (.cons (.sl (.int .i64)) (.nil)))))), false⟩,
  ⟨.sl 94, 1, 24, .sl (.cons (.int .i64) (.cons (.int .i64) (.nil))), false⟩,
  ⟨.st [(0, 3), (1, 3), (2, 3), (3, 22), (4, 23), (5, 24)], 6, 96, .cons (.int .i64) (.cons (.int .i64) (.cons (.int .i64) (.cons (.sl (.int .i64)) (.cons (.sl (.cons (.int .i64) (.cons (.int .i64) (.cons (.sl (.int .i64)) (.cons (.sl (.int .i64)) (.cons (.sl (.int .i64)) (.nil))))))) (.cons (.sl (.cons (.int .i64) (.cons (.int .i64) (.nil)))) (.nil)))))), false⟩,
  ⟨.st [(0, 3), (1, 3), (2, 3), (3, 22), (4, 23), (5, 24)], 6, 96, .cons (.int .i64) (.cons (.int .i64) (.cons (.int .i64) (.cons (.sl (.int .i64)) (.cons (.sl (.cons (.int .i64) (.cons (.int .i64) (.cons (.sl (.int .i64)) (.cons (.sl (.int .i64)) (.cons (.sl (.int .i64)) (.nil))))))) (.cons (.sl (.cons (.int .i64) (.cons (.int .i64) (.nil)))) (.nil)))))), false⟩,
  ⟨.int .u32, 1, 4, .int .u32, false⟩,
  ⟨.st [(0, 4), (1, 4), (2, 3), (3, 3), (4, 4), (5, 26), (11, 4), (12, 27), (13, 4), (14, 22), (15, 4), (16, 22), (17, 4), (18, 22)], 19, 232, .cons (.bool) (.cons (.bool) (.cons (.int .i64) (.cons (.int .i64) (.cons (.bool) (.cons (.cons (.int .i64) (.cons (.int .i64) (.cons (.int .i64) (.cons (.sl (.int .i64)) (.cons (.sl (.cons (.int .i64) (.cons (.int .i64) (.cons (.sl (.int .i64)) (.cons (.sl (.int .i64)) (.cons (.sl (.int .i64)) (.nil))))))) (.cons (.sl (.cons (.int .i64) (.cons (.int .i64) (.nil)))) (.nil))))))) (.cons (.bool) (.cons (.int .u32) (.cons (.bool) (.cons (.sl (.int .i64)) (.cons (.bool) (.cons (.sl (.int .i64)) (.cons (.bool) (.cons (.sl (.int .i64)) (.nil)))))))))))))), false⟩,
  ⟨.st [(0, 4), (1, 4), (2, 3), (3, 3), (4, 4), (5, 26), (11, 4), (12, 27), (13, 4), (14, 22), (15, 4), (16, 22), (17, 4), (18, 22)], 19, 232, .cons (.bool) (.cons (.bool) (.cons (.int .i64) (.cons (.int .i64) (.cons (.bool) (.cons (.cons (.int .i64) (.cons (.int .i64) (.cons (.int .i64) (.cons (.sl (.int .i64)) (.cons (.sl (.cons (.int .i64) (.cons (.int .i64) (.cons (.sl (.int .i64)) (.cons (.sl (.int .i64)) (.cons (.sl (.int .i64)) (.nil))))))) (.cons (.sl (.cons (.int .i64) (.cons (.int .i64) (.nil)))) (.nil))))))) (.cons (.bool) (.cons (.int .u32) (.cons (.bool) (.cons (.sl (.int .i64)) (.cons (.bool) (.cons (.sl (.int .i64)) (.cons (.bool) (.cons (.sl (.int .i64)) (.nil)))))))))))))), false⟩,
  ⟨.sl 5, 1, 24, .sl (.int .u8), false⟩,
  ⟨.other, 0, 0, .nil, false⟩,
  ⟨.other, 0, 0, .nil, false⟩,
  ⟨.other, 0, 0, .nil, false⟩,
  ⟨.other, 0, 0, .nil, false⟩,
  ⟨.int .i64, 1, 8, .int .i64, false⟩,
  ⟨.other, 0, 0, .nil, false⟩,
  ⟨.other, 0, 0, .nil, false⟩,
  ⟨.st [(0, 3), (1, 3), (2, 22), (3, 22), (4, 22)], 5, 88, .cons (.int .i64) (.cons (.int .i64) (.cons (.sl (.int .i64)) (.cons (.sl (.int .i64)) (.cons (.sl (.int .i64)) (.nil))))), false⟩,
  ⟨.st [(0, 3), (1, 3), (2, 22), (3, 22), (4, 22)], 5, 88, .cons (.int .i64) (.cons (.int .i64) (.cons (.sl (.int .i64)) (.cons (.sl (.int .i64)) (.cons (.sl (.int .i64)) (.nil))))), false⟩,
  ⟨.other, 0, 0, .nil, false⟩,
  ⟨.other, 0, 0, .nil, false⟩,
  ⟨.other, 0, 0, .nil, false⟩,
  ⟨.other, 0, 0, .nil, false⟩,
  ⟨.other, 0, 0, .nil, false⟩,
  ⟨.other, 0, 0, .nil, false⟩,
  ⟨.other, 0, 0, .nil, false⟩,
  ⟨.other, 0, 0, .nil, false⟩,
  ⟨.other, 0, 0, .nil, false⟩,
  ⟨.other, 0, 0, .nil, false⟩,
  ⟨.other, 0, 0, .nil, false⟩,
  ⟨.other, 0, 0, .nil, false⟩,
  ⟨.other, 0, 0, .nil, false⟩,
  ⟨.other, 0, 0, .nil, false⟩,
  ⟨.other, 0, 0, .nil, false⟩,
  ⟨.other, 0, 0, .nil, false⟩,
  ⟨.int .u64, 1, 8, .int .u64, false⟩,
  ⟨.other, 0, 0, .nil, false⟩,
  ⟨.ptr, 1, 8, .nil, false⟩,
  ⟨.st [(0, 30), (1, 3)], 2, 32, .cons (.sl (.int .u8)) (.cons (.int .i64) (.nil)), false⟩,
  ⟨.st [(0, 30), (1, 3)], 2, 32, .cons (.sl (.int .u8)) (.cons (.int .i64) (.nil)), false⟩,
  ⟨.st [(0, 60)], 2, 32, .cons (.cons (.sl (.int .u8)) (.cons (.int .i64) (.nil))) (.nil), false⟩,
  ⟨.st [(0, 60)], 2, 32, .cons (.cons (.sl (.int .u8)) (.cons (.int .i64) (.nil))) (.nil), false⟩,
  ⟨.other, 0, 0, .nil, false⟩,
  ⟨.other, 0, 0, .nil, false⟩,
  ⟨.sl 4, 1, 24, .sl (.bool), false⟩,
  ⟨.other, 0, 0, .nil, false⟩,
  ⟨.other, 0, 0, .nil, false⟩,
  ⟨.other, 0, 0, .nil, false⟩,
  ⟨.other, 0, 0, .nil, false⟩,
  ⟨.other, 0, 0, .nil, false⟩,
  ⟨.other, 0, 0, .nil, false⟩,
  ⟨.other, 0, 0, .nil, false⟩,
  ⟨.other, 0, 0, .nil, false⟩,
  ⟨.other, 0, 0, .nil, false⟩,
  ⟨.other, 0, 0, .nil, false⟩,
  ⟨.ptr, 1, 8, .nil, false⟩,
  ⟨.st [(0, 30), (1, 3), (2, 35)], 3, 40, .cons (.sl (.int .u8)) (.cons (.int .i64) (.cons (.int .i64) (.nil))), false⟩,
  ⟨.st [(0, 30), (1, 3), (2, 35)], 3, 40, .cons (.sl (.int .u8)) (.cons (.int .i64) (.cons (.int .i64) (.nil))), false⟩,
  ⟨.other, 0, 0, .nil, false⟩,
  ⟨.st [(0, 78)], 3, 40, .cons (.cons (.sl (.int .u8)) (.cons (.int .i64) (.cons (.int .i64) (.nil)))) (.nil), false⟩,
  ⟨.st [(0, 78)], 3, 40, .cons (.cons (.sl (.int .u8)) (.cons (.int .i64) (.cons (.int .i64) (.nil)))) (.nil), false⟩,
  ⟨.other, 0, 0, .nil, false⟩,
  ⟨.other, 0, 0, .nil, false⟩,
  ⟨.other, 0, 0, .nil, false⟩,
  ⟨.other, 0, 0, .nil, false⟩,
  ⟨.other, 0, 0, .nil, false⟩,
  ⟨.other, 0, 0, .nil, false⟩,
  ⟨.ptr, 1, 8, .nil, false⟩,
  ⟨.st [(0, 78)], 3, 40, .cons (.cons (.sl (.int .u8)) (.cons (.int .i64) (.cons (.int .i64) (.nil)))) (.nil), false⟩,
  ⟨.st [(0, 78)], 3, 40, .cons (.cons (.sl (.int .u8)) (.cons (.int .i64) (.cons (.int .i64) (.nil)))) (.nil), false⟩,
  ⟨.other, 0, 0, .nil, false⟩,
  ⟨.other, 0, 0, .nil, false⟩,
  ⟨.st [(0, 3), (1, 3)], 2, 16, .cons (.int .i64) (.cons (.int .i64) (.nil)), false⟩,
  ⟨.st [(0, 3), (1, 3)], 2, 16, .cons (.int .i64) (.cons (.int .i64) (.nil)), true⟩,
  ⟨.other, 0, 0, .nil, false⟩,
  ⟨.other, 0, 0, .nil, false⟩,
  ⟨.other, 0, 0, .nil, false⟩,
  ⟨.other, 0, 0, .nil, false⟩,
  ⟨.other, 0, 0, .nil, false⟩,
  ⟨.other, 0, 0, .nil, false⟩,
  ⟨.other, 0, 0, .nil, false⟩,
  ⟨.other, 0, 0, .nil, false⟩,
  ⟨.other, 0, 0, .nil, false⟩,
  ⟨.other, 0, 0, .nil, false⟩,
  ⟨.other, 0, 0, .nil, false⟩,
  ⟨.ptr, 1, 8, .nil, false⟩,
  ⟨.st [(0, 60)], 2, 32, .cons (.cons (.sl (.int .u8)) (.cons (.int .i64) (.nil))) (.nil), false⟩,
  ⟨.st [(0, 60)], 2, 32, .cons (.cons (.sl (.int .u8)) (.cons (.int .i64) (.nil))) (.nil), false⟩,
  ⟨.other, 0, 0, .nil, false⟩,
  ⟨.other, 0, 0, .nil, false⟩,
  ⟨.other, 0, 0, .nil, false⟩,
  ⟨.other, 0, 0, .nil, false⟩,
  ⟨.other, 0, 0, .nil, false⟩,
  ⟨.other, 0, 0, .nil, false⟩,
  ⟨.other, 0, 0, .nil, false⟩,
  ⟨.ptr, 1, 8, .nil, false⟩,
  ⟨.st [(0, 78)], 3, 40, .cons (.cons (.sl (.int .u8)) (.cons (.int .i64) (.cons (.int .i64) (.nil)))) (.nil), false⟩,
  ⟨.st [(0, 78)], 3, 40, .cons (.cons (.sl (.int .u8)) (.cons (.int .i64) (.cons (.int .i64) (.nil)))) (.nil), false⟩,
  ⟨.other, 0, 0, .nil, false⟩,
  ⟨.other, 0, 0, .nil, false⟩,
  ⟨.int .u64, 1, 8, .int .u64, false⟩,
  ⟨.other, 0, 0, .nil, false⟩,
  ⟨.other, 0, 0, .nil, false⟩,
  ⟨.other, 0, 0, .nil, false⟩,
  ⟨.other, 0, 0, .nil, false⟩,
  ⟨.other, 0, 0, .nil, false⟩,
  ⟨.other, 0, 0, .nil, false⟩,
  ⟨.other, 0, 0, .nil, false⟩,
  ⟨.other, 0, 0, .nil, false⟩,
  ⟨.other, 0, 0, .nil, false⟩,
  ⟨.other, 0, 0, .nil, false⟩,
  ⟨.other, 0, 0, .nil, false⟩,
  ⟨.other, 0, 0, .nil, false⟩,
  ⟨.other, 0, 0, .nil, false⟩,
  ⟨.other, 0, 0, .nil, false⟩,
  ⟨.other, 0, 0, .nil, false⟩,
  ⟨.other, 0, 0, .nil, false⟩,
  ⟨.other, 0, 0, .nil, false⟩,
  ⟨.other, 0, 0, .nil, false⟩,
  ⟨.other, 0, 0, .nil, false⟩,
  ⟨.other, 0, 0, .nil, false⟩,
  ⟨.other, 0, 0, .nil, false⟩,
  ⟨.int .u8, 1, 1, .int .u8, false⟩,
  ⟨.int .u8, 1, 1, .int .u8, false⟩,
  ⟨.other, 0, 0, .nil, false⟩,
  ⟨.ptr, 1, 8, .nil, false⟩,
  ⟨.int .i32, 1, 4, .int .i32, false⟩,
  ⟨.int .i32, 1, 4, .int .i32, false⟩,
  ⟨.other, 0, 0, .nil, false⟩,
  ⟨.other, 0, 0, .nil, false⟩,
  ⟨.other, 0, 0, .nil, false⟩
  ]
theorem tab_ok : TabOk Go.Proofs.Try.prog tab := tabB_spec (by kernel_rfl)
theorem follows : Go.Proofs.Try.prog.follows .mixedOrders = true := by kernel_rfl
noncomputable def bodyOf (f : Func) : Code := f.body.getD .skip
/-- templ.within -/
@[reducible] def in_templ_within : List PK := [.v (.int .i64), .v (.int .i64), .v (.int .i64)]
@[reducible] def out_templ_within : List OK := [.v (.bool)]
def an_templ_within : Anns := ⟨fun r => none, fun t => none, fun i => []⟩
noncomputable def G_templ_within : Ctx := fun n => none
noncomputable def F_templ_within : Den (chain (in_templ_within.map PK.ty)) → Option (Den (chain (out_templ_within.map OK.ty ++ statesOf in_templ_within))) := fnK tab G_templ_within an_templ_within 1000000 Go.Proofs.Try.f58 (bodyOf Go.Proofs.Try.f58) in_templ_within out_templ_within
theorem S_templ_within : Sound Go.Proofs.Try.prog 58 ⟨in_templ_within, out_templ_within, F_templ_within⟩ := sound_fn tab_ok follows (Γ := G_templ_within) (fun f con h => by
    unfold G_templ_within at h
    cases h) (by kernel_rfl) (by kernel_rfl) (by kernel_rfl) (by kernel_rfl)
/-- templ.all -/
@[reducible] def in_templ_all : List PK := [.v (.sl (.int .i64)), .v (.int .i64), .v (.int .i64), .v (.int .i64)]
@[reducible] def out_templ_all : List OK := [.v (.bool)]
def an_templ_all : Anns := ⟨fun r => if r = 4 then some ⟨[.sv 2, .sv 3, .sv 15, .sv 16, .sv 17], (.cons (.int .i64) (.cons (.int .i64) (.cons (.sl (.int .i64)) (.cons (.int .i64) (.cons (.int .i64) (.nil)))))), []⟩ else none, fun t => none, fun i => []⟩
noncomputable def G_templ_all : Ctx := fun n => if n = 58 then some ⟨in_templ_within, out_templ_within, F_templ_within⟩ else none
noncomputable def F_templ_all : Den (chain (in_templ_all.map PK.ty)) → Option (Den (chain (out_templ_all.map OK.ty ++ statesOf in_templ_all))) := fnK tab G_templ_all an_templ_all 1000000 Go.Proofs.Try.f59 (bodyOf Go.Proofs.Try.f59) in_templ_all out_templ_all
theorem S_templ_all : Sound Go.Proofs.Try.prog 59 ⟨in_templ_all, out_templ_all, F_templ_all⟩ := sound_fn tab_ok follows (Γ := G_templ_all) (fun f con h => by
    unfold G_templ_all at h
    split at h
    · rename_i e; subst e; cases h; exact S_templ_within
    cases h) (by kernel_rfl) (by kernel_rfl) (by kernel_rfl) (by kernel_rfl)
/-- templ.follow -/
@[reducible] def in_templ_follow : List PK := [.v (.cons (.int .i64) (.cons (.int .i64) (.cons (.sl (.int .i64)) (.cons (.sl (.int .i64)) (.cons (.sl (.int .i64)) (.nil)))))), .v (.cons (.int .i64) (.cons (.int .i64) (.cons (.sl (.int .i64)) (.cons (.sl (.int .i64)) (.cons (.sl (.int .i64)) (.nil))))))]
@[reducible] def out_templ_follow : List OK := [.v (.int .i64)]
def an_templ_follow : Anns := ⟨fun r => none, fun t => none, fun i => []⟩
noncomputable def G_templ_follow : Ctx := fun n => none
noncomputable def F_templ_follow : Den (chain (in_templ_follow.map PK.ty)) → Option (Den (chain (out_templ_follow.map OK.ty ++ statesOf in_templ_follow))) := fnK tab G_templ_follow an_templ_follow 1000000 Go.Proofs.Try.f60 (bodyOf Go.Proofs.Try.f60) in_templ_follow out_templ_follow
theorem S_templ_follow : Sound Go.Proofs.Try.prog 60 ⟨in_templ_follow, out_templ_follow, F_templ_follow⟩ := sound_fn tab_ok follows (Γ := G_templ_follow) (fun f con h => by
    unfold G_templ_follow at h
    cases h) (by kernel_rfl) (by kernel_rfl) (by kernel_rfl) (by kernel_rfl)
/-- templ.sizes -/
@[reducible] def in_templ_sizes : List PK := [.v (.cons (.int .i64) (.cons (.int .i64) (.cons (.int .i64) (.cons (.sl (.int .i64)) (.cons (.sl (.cons (.int .i64) (.cons (.int .i64) (.cons (.sl (.int .i64)) (.cons (.sl (.int .i64)) (.cons (.sl (.int .i64)) (.nil))))))) (.cons (.sl (.cons (.int .i64) (.cons (.int .i64) (.nil)))) (.nil)))))))]
@[reducible] def out_templ_sizes : List OK := [.v (.int .i64)]
def an_templ_sizes : Anns := ⟨fun r => none, fun t => none, fun i => []⟩
noncomputable def G_templ_sizes : Ctx := fun n => none
noncomputable def F_templ_sizes : Den (chain (in_templ_sizes.map PK.ty)) → Option (Den (chain (out_templ_sizes.map OK.ty ++ statesOf in_templ_sizes))) := fnK tab G_templ_sizes an_templ_sizes 1000000 Go.Proofs.Try.f61 (bodyOf Go.Proofs.Try.f61) in_templ_sizes out_templ_sizes
theorem S_templ_sizes : Sound Go.Proofs.Try.prog 61 ⟨in_templ_sizes, out_templ_sizes, F_templ_sizes⟩ := sound_fn tab_ok follows (Γ := G_templ_sizes) (fun f con h => by
    unfold G_templ_sizes at h
    cases h) (by kernel_rfl) (by kernel_rfl) (by kernel_rfl) (by kernel_rfl)
/-- templ.Right -/
@[reducible] def in_templ_Right : List PK := [.v (.cons (.int .i64) (.cons (.int .i64) (.cons (.int .i64) (.cons (.sl (.int .i64)) (.cons (.sl (.cons (.int .i64) (.cons (.int .i64) (.cons (.sl (.int .i64)) (.cons (.sl (.int .i64)) (.cons (.sl (.int .i64)) (.nil))))))) (.cons (.sl (.cons (.int .i64) (.cons (.int .i64) (.nil)))) (.nil)))))))]
@[reducible] def out_templ_Right : List OK := [.v (.bool)]
def an_templ_Right : Anns := ⟨fun r => if r = 9 then some ⟨[.bx 1 false [.v, .v, .v, .v, .v, .v], .cst 1 (.box 1 0), .sv 47, .sv 48, .sv 49], (.cons (.int .i64) (.cons (.int .i64) (.cons (.int .i64) (.cons (.sl (.int .i64)) (.cons (.sl (.cons (.int .i64) (.cons (.int .i64) (.cons (.sl (.int .i64)) (.cons (.sl (.int .i64)) (.cons (.sl (.int .i64)) (.nil))))))) (.cons (.sl (.cons (.int .i64) (.cons (.int .i64) (.nil)))) (.cons (.sl (.cons (.int .i64) (.cons (.int .i64) (.cons (.sl (.int .i64)) (.cons (.sl (.int .i64)) (.cons (.sl (.int .i64)) (.nil))))))) (.cons (.int .i64) (.cons (.int .i64) (.nil)))))))))), []⟩ else if r = 21 then some ⟨[.sv 132, .sv 133, .sv 134], (.cons (.sl (.cons (.int .i64) (.cons (.int .i64) (.nil)))) (.cons (.int .i64) (.cons (.int .i64) (.nil)))), []⟩ else none, fun t => if t = 30 then some (true, ⟨[.bx 1 false [.v, .v, .v, .v, .v, .v], .cst 1 (.box 1 0), .sv 3], (.cons (.int .i64) (.cons (.int .i64) (.cons (.int .i64) (.cons (.sl (.int .i64)) (.cons (.sl (.cons (.int .i64) (.cons (.int .i64) (.cons (.sl (.int .i64)) (.cons (.sl (.int .i64)) (.cons (.sl (.int .i64)) (.nil))))))) (.cons (.sl (.cons (.int .i64) (.cons (.int .i64) (.nil)))) (.cons (.int .i64) (.nil)))))))), []⟩) else none, fun i => []⟩
noncomputable def G_templ_Right : Ctx := fun n => if n = 58 then some ⟨in_templ_within, out_templ_within, F_templ_within⟩ else if n = 59 then some ⟨in_templ_all, out_templ_all, F_templ_all⟩ else if n = 60 then some ⟨in_templ_follow, out_templ_follow, F_templ_follow⟩ else if n = 61 then some ⟨in_templ_sizes, out_templ_sizes, F_templ_sizes⟩ else none
noncomputable def F_templ_Right : Den (chain (in_templ_Right.map PK.ty)) → Option (Den (chain (out_templ_Right.map OK.ty ++ statesOf in_templ_Right))) := fnK tab G_templ_Right an_templ_Right 1000000 Go.Proofs.Try.f24 (bodyOf Go.Proofs.Try.f24) in_templ_Right out_templ_Right
theorem S_templ_Right : Sound Go.Proofs.Try.prog 24 ⟨in_templ_Right, out_templ_Right, F_templ_Right⟩ := sound_fn tab_ok follows (Γ := G_templ_Right) (fun f con h => by
    unfold G_templ_Right at h
    split at h
    · rename_i e; subst e; cases h; exact S_templ_within
    split at h
    · rename_i e; subst e; cases h; exact S_templ_all
    split at h
    · rename_i e; subst e; cases h; exact S_templ_follow
    split at h
    · rename_i e; subst e; cases h; exact S_templ_sizes
    cases h) (by kernel_rfl) (by kernel_rfl) (by kernel_rfl) (by kernel_rfl)
/-- av1.structure -/
@[reducible] def in_av1_structure : List PK := [.v (.cons (.bool) (.cons (.bool) (.cons (.int .i64) (.cons (.int .i64) (.cons (.bool) (.cons (.cons (.int .i64) (.cons (.int .i64) (.cons (.int .i64) (.cons (.sl (.int .i64)) (.cons (.sl (.cons (.int .i64) (.cons (.int .i64) (.cons (.sl (.int .i64)) (.cons (.sl (.int .i64)) (.cons (.sl (.int .i64)) (.nil))))))) (.cons (.sl (.cons (.int .i64) (.cons (.int .i64) (.nil)))) (.nil))))))) (.cons (.bool) (.cons (.int .u32) (.cons (.bool) (.cons (.sl (.int .i64)) (.cons (.bool) (.cons (.sl (.int .i64)) (.cons (.bool) (.cons (.sl (.int .i64)) (.nil))))))))))))))), .v (.cons (.int .i64) (.cons (.int .i64) (.cons (.int .i64) (.cons (.sl (.int .i64)) (.cons (.sl (.cons (.int .i64) (.cons (.int .i64) (.cons (.sl (.int .i64)) (.cons (.sl (.int .i64)) (.cons (.sl (.int .i64)) (.nil))))))) (.cons (.sl (.cons (.int .i64) (.cons (.int .i64) (.nil)))) (.nil)))))))]
@[reducible] def out_av1_structure : List OK := [.v (.cons (.int .i64) (.cons (.int .i64) (.cons (.int .i64) (.cons (.sl (.int .i64)) (.cons (.sl (.cons (.int .i64) (.cons (.int .i64) (.cons (.sl (.int .i64)) (.cons (.sl (.int .i64)) (.cons (.sl (.int .i64)) (.nil))))))) (.cons (.sl (.cons (.int .i64) (.cons (.int .i64) (.nil)))) (.nil)))))))]
def an_av1_structure : Anns := ⟨fun r => none, fun t => none, fun i => []⟩
noncomputable def G_av1_structure : Ctx := fun n => none
noncomputable def F_av1_structure : Den (chain (in_av1_structure.map PK.ty)) → Option (Den (chain (out_av1_structure.map OK.ty ++ statesOf in_av1_structure))) := fnK tab G_av1_structure an_av1_structure 1000000 Go.Proofs.Try.f30 (bodyOf Go.Proofs.Try.f30) in_av1_structure out_av1_structure
theorem S_av1_structure : Sound Go.Proofs.Try.prog 30 ⟨in_av1_structure, out_av1_structure, F_av1_structure⟩ := sound_fn tab_ok follows (Γ := G_av1_structure) (fun f con h => by
    unfold G_av1_structure at h
    cases h) (by kernel_rfl) (by kernel_rfl) (by kernel_rfl) (by kernel_rfl)
/-- av1.within -/
@[reducible] def in_av1_within : List PK := [.v (.int .i64), .v (.int .i64), .v (.int .i64)]
@[reducible] def out_av1_within : List OK := [.v (.bool)]
def an_av1_within : Anns := ⟨fun r => none, fun t => none, fun i => []⟩
noncomputable def G_av1_within : Ctx := fun n => none
noncomputable def F_av1_within : Den (chain (in_av1_within.map PK.ty)) → Option (Den (chain (out_av1_within.map OK.ty ++ statesOf in_av1_within))) := fnK tab G_av1_within an_av1_within 1000000 Go.Proofs.Try.f52 (bodyOf Go.Proofs.Try.f52) in_av1_within out_av1_within
theorem S_av1_within : Sound Go.Proofs.Try.prog 52 ⟨in_av1_within, out_av1_within, F_av1_within⟩ := sound_fn tab_ok follows (Γ := G_av1_within) (fun f con h => by
    unfold G_av1_within at h
    cases h) (by kernel_rfl) (by kernel_rfl) (by kernel_rfl) (by kernel_rfl)
/-- av1.place -/
@[reducible] def in_av1_place : List PK := [.v (.int .i64), .v (.cons (.int .i64) (.cons (.int .i64) (.cons (.int .i64) (.cons (.sl (.int .i64)) (.cons (.sl (.cons (.int .i64) (.cons (.int .i64) (.cons (.sl (.int .i64)) (.cons (.sl (.int .i64)) (.cons (.sl (.int .i64)) (.nil))))))) (.cons (.sl (.cons (.int .i64) (.cons (.int .i64) (.nil)))) (.nil)))))))]
@[reducible] def out_av1_place : List OK := [.v (.int .i64), .v (.bool)]
def an_av1_place : Anns := ⟨fun r => none, fun t => none, fun i => []⟩
noncomputable def G_av1_place : Ctx := fun n => if n = 52 then some ⟨in_av1_within, out_av1_within, F_av1_within⟩ else none
noncomputable def F_av1_place : Den (chain (in_av1_place.map PK.ty)) → Option (Den (chain (out_av1_place.map OK.ty ++ statesOf in_av1_place))) := fnK tab G_av1_place an_av1_place 1000000 Go.Proofs.Try.f35 (bodyOf Go.Proofs.Try.f35) in_av1_place out_av1_place
theorem S_av1_place : Sound Go.Proofs.Try.prog 35 ⟨in_av1_place, out_av1_place, F_av1_place⟩ := sound_fn tab_ok follows (Γ := G_av1_place) (fun f con h => by
    unfold G_av1_place at h
    split at h
    · rename_i e; subst e; cases h; exact S_av1_within
    cases h) (by kernel_rfl) (by kernel_rfl) (by kernel_rfl) (by kernel_rfl)
/-- slices.Equal[[]int,int] -/
@[reducible] def in_slices_Equal_int_int : List PK := [.v (.sl (.int .i64)), .v (.sl (.int .i64))]
@[reducible] def out_slices_Equal_int_int : List OK := [.v (.bool)]
def an_slices_Equal_int_int : Anns := ⟨fun r => if r = 4 then some ⟨[.sv 0, .sv 1, .sv 12, .sv 13], (.cons (.sl (.int .i64)) (.cons (.sl (.int .i64)) (.cons (.int .i64) (.cons (.int .i64) (.nil))))), []⟩ else none, fun t => none, fun i => []⟩
noncomputable def G_slices_Equal_int_int : Ctx := fun n => none
noncomputable def F_slices_Equal_int_int : Den (chain (in_slices_Equal_int_int.map PK.ty)) → Option (Den (chain (out_slices_Equal_int_int.map OK.ty ++ statesOf in_slices_Equal_int_int))) := fnK tab G_slices_Equal_int_int an_slices_Equal_int_int 1000000 Go.Proofs.Try.f62 (bodyOf Go.Proofs.Try.f62) in_slices_Equal_int_int out_slices_Equal_int_int
theorem S_slices_Equal_int_int : Sound Go.Proofs.Try.prog 62 ⟨in_slices_Equal_int_int, out_slices_Equal_int_int, F_slices_Equal_int_int⟩ := sound_fn tab_ok follows (Γ := G_slices_Equal_int_int) (fun f con h => by
    unfold G_slices_Equal_int_int at h
    cases h) (by kernel_rfl) (by kernel_rfl) (by kernel_rfl) (by kernel_rfl)
/-- slices.Equal[[]api.Size,api.Size] -/
@[reducible] def in_slices_Equal_api_Size_api_Size : List PK := [.v (.sl (.cons (.int .i64) (.cons (.int .i64) (.nil)))), .v (.sl (.cons (.int .i64) (.cons (.int .i64) (.nil))))]
@[reducible] def out_slices_Equal_api_Size_api_Size : List OK := [.v (.bool)]
def an_slices_Equal_api_Size_api_Size : Anns := ⟨fun r => if r = 4 then some ⟨[.sv 0, .sv 1, .sv 12, .sv 13], (.cons (.sl (.cons (.int .i64) (.cons (.int .i64) (.nil)))) (.cons (.sl (.cons (.int .i64) (.cons (.int .i64) (.nil)))) (.cons (.int .i64) (.cons (.int .i64) (.nil))))), []⟩ else none, fun t => none, fun i => []⟩
noncomputable def G_slices_Equal_api_Size_api_Size : Ctx := fun n => none
noncomputable def F_slices_Equal_api_Size_api_Size : Den (chain (in_slices_Equal_api_Size_api_Size.map PK.ty)) → Option (Den (chain (out_slices_Equal_api_Size_api_Size.map OK.ty ++ statesOf in_slices_Equal_api_Size_api_Size))) := fnK tab G_slices_Equal_api_Size_api_Size an_slices_Equal_api_Size_api_Size 1000000 Go.Proofs.Try.f63 (bodyOf Go.Proofs.Try.f63) in_slices_Equal_api_Size_api_Size out_slices_Equal_api_Size_api_Size
theorem S_slices_Equal_api_Size_api_Size : Sound Go.Proofs.Try.prog 63 ⟨in_slices_Equal_api_Size_api_Size, out_slices_Equal_api_Size_api_Size, F_slices_Equal_api_Size_api_Size⟩ := sound_fn tab_ok follows (Γ := G_slices_Equal_api_Size_api_Size) (fun f con h => by
    unfold G_slices_Equal_api_Size_api_Size at h
    cases h) (by kernel_rfl) (by kernel_rfl) (by kernel_rfl) (by kernel_rfl)
/-- templ.Same$1 -/
@[reducible] def in_templ_Same_1 : List PK := [.v (.cons (.int .i64) (.cons (.int .i64) (.cons (.sl (.int .i64)) (.cons (.sl (.int .i64)) (.cons (.sl (.int .i64)) (.nil)))))), .v (.cons (.int .i64) (.cons (.int .i64) (.cons (.sl (.int .i64)) (.cons (.sl (.int .i64)) (.cons (.sl (.int .i64)) (.nil))))))]
@[reducible] def out_templ_Same_1 : List OK := [.v (.bool)]
def an_templ_Same_1 : Anns := ⟨fun r => none, fun t => none, fun i => []⟩
noncomputable def G_templ_Same_1 : Ctx := fun n => if n = 62 then some ⟨in_slices_Equal_int_int, out_slices_Equal_int_int, F_slices_Equal_int_int⟩ else none
noncomputable def F_templ_Same_1 : Den (chain (in_templ_Same_1.map PK.ty)) → Option (Den (chain (out_templ_Same_1.map OK.ty ++ statesOf in_templ_Same_1))) := fnK tab G_templ_Same_1 an_templ_Same_1 1000000 Go.Proofs.Try.f65 (bodyOf Go.Proofs.Try.f65) in_templ_Same_1 out_templ_Same_1
theorem S_templ_Same_1 : Sound Go.Proofs.Try.prog 65 ⟨in_templ_Same_1, out_templ_Same_1, F_templ_Same_1⟩ := sound_fn tab_ok follows (Γ := G_templ_Same_1) (fun f con h => by
    unfold G_templ_Same_1 at h
    split at h
    · rename_i e; subst e; cases h; exact S_slices_Equal_int_int
    cases h) (by kernel_rfl) (by kernel_rfl) (by kernel_rfl) (by kernel_rfl)
/-- slices.EqualFunc[[]api.Template,[]api.Template,api.Template,api.Template] -/
@[reducible] def in_slices_EqualFunc_api_Template_api_Template_api_Template_api_Template : List PK := [.v (.sl (.cons (.int .i64) (.cons (.int .i64) (.cons (.sl (.int .i64)) (.cons (.sl (.int .i64)) (.cons (.sl (.int .i64)) (.nil))))))), .v (.sl (.cons (.int .i64) (.cons (.int .i64) (.cons (.sl (.int .i64)) (.cons (.sl (.int .i64)) (.cons (.sl (.int .i64)) (.nil))))))), .f 65]
@[reducible] def out_slices_EqualFunc_api_Template_api_Template_api_Template_api_Template : List OK := [.v (.bool)]
def an_slices_EqualFunc_api_Template_api_Template_api_Template_api_Template : Anns := ⟨fun r => if r = 4 then some ⟨[.sv 1, .cst 2 (.fn 65), .sv 15, .sv 16, .sv 17], (.cons (.sl (.cons (.int .i64) (.cons (.int .i64) (.cons (.sl (.int .i64)) (.cons (.sl (.int .i64)) (.cons (.sl (.int .i64)) (.nil))))))) (.cons (.sl (.cons (.int .i64) (.cons (.int .i64) (.cons (.sl (.int .i64)) (.cons (.sl (.int .i64)) (.cons (.sl (.int .i64)) (.nil))))))) (.cons (.int .i64) (.cons (.int .i64) (.nil))))), []⟩ else none, fun t => none, fun i => []⟩
noncomputable def G_slices_EqualFunc_api_Template_api_Template_api_Template_api_Template : Ctx := fun n => if n = 65 then some ⟨in_templ_Same_1, out_templ_Same_1, F_templ_Same_1⟩ else none
noncomputable def F_slices_EqualFunc_api_Template_api_Template_api_Template_api_Template : Den (chain (in_slices_EqualFunc_api_Template_api_Template_api_Template_api_Template.map PK.ty)) → Option (Den (chain (out_slices_EqualFunc_api_Template_api_Template_api_Template_api_Template.map OK.ty ++ statesOf in_slices_EqualFunc_api_Template_api_Template_api_Template_api_Template))) := fnK tab G_slices_EqualFunc_api_Template_api_Template_api_Template_api_Template an_slices_EqualFunc_api_Template_api_Template_api_Template_api_Template 1000000 Go.Proofs.Try.f64 (bodyOf Go.Proofs.Try.f64) in_slices_EqualFunc_api_Template_api_Template_api_Template_api_Template out_slices_EqualFunc_api_Template_api_Template_api_Template_api_Template
theorem S_slices_EqualFunc_api_Template_api_Template_api_Template_api_Template : Sound Go.Proofs.Try.prog 64 ⟨in_slices_EqualFunc_api_Template_api_Template_api_Template_api_Template, out_slices_EqualFunc_api_Template_api_Template_api_Template_api_Template, F_slices_EqualFunc_api_Template_api_Template_api_Template_api_Template⟩ := sound_fn tab_ok follows (Γ := G_slices_EqualFunc_api_Template_api_Template_api_Template_api_Template) (fun f con h => by
    unfold G_slices_EqualFunc_api_Template_api_Template_api_Template_api_Template at h
    split at h
    · rename_i e; subst e; cases h; exact S_templ_Same_1
    cases h) (by kernel_rfl) (by kernel_rfl) (by kernel_rfl) (by kernel_rfl)
/-- templ.Same -/
@[reducible] def in_templ_Same : List PK := [.v (.cons (.int .i64) (.cons (.int .i64) (.cons (.int .i64) (.cons (.sl (.int .i64)) (.cons (.sl (.cons (.int .i64) (.cons (.int .i64) (.cons (.sl (.int .i64)) (.cons (.sl (.int .i64)) (.cons (.sl (.int .i64)) (.nil))))))) (.cons (.sl (.cons (.int .i64) (.cons (.int .i64) (.nil)))) (.nil))))))), .v (.cons (.int .i64) (.cons (.int .i64) (.cons (.int .i64) (.cons (.sl (.int .i64)) (.cons (.sl (.cons (.int .i64) (.cons (.int .i64) (.cons (.sl (.int .i64)) (.cons (.sl (.int .i64)) (.cons (.sl (.int .i64)) (.nil))))))) (.cons (.sl (.cons (.int .i64) (.cons (.int .i64) (.nil)))) (.nil)))))))]
@[reducible] def out_templ_Same : List OK := [.v (.bool)]
def an_templ_Same : Anns := ⟨fun r => none, fun t => none, fun i => []⟩
noncomputable def G_templ_Same : Ctx := fun n => if n = 62 then some ⟨in_slices_Equal_int_int, out_slices_Equal_int_int, F_slices_Equal_int_int⟩ else if n = 63 then some ⟨in_slices_Equal_api_Size_api_Size, out_slices_Equal_api_Size_api_Size, F_slices_Equal_api_Size_api_Size⟩ else if n = 64 then some ⟨in_slices_EqualFunc_api_Template_api_Template_api_Template_api_Template, out_slices_EqualFunc_api_Template_api_Template_api_Template_api_Template, F_slices_EqualFunc_api_Template_api_Template_api_Template_api_Template⟩ else none
noncomputable def F_templ_Same : Den (chain (in_templ_Same.map PK.ty)) → Option (Den (chain (out_templ_Same.map OK.ty ++ statesOf in_templ_Same))) := fnK tab G_templ_Same an_templ_Same 1000000 Go.Proofs.Try.f25 (bodyOf Go.Proofs.Try.f25) in_templ_Same out_templ_Same
theorem S_templ_Same : Sound Go.Proofs.Try.prog 25 ⟨in_templ_Same, out_templ_Same, F_templ_Same⟩ := sound_fn tab_ok follows (Γ := G_templ_Same) (fun f con h => by
    unfold G_templ_Same at h
    split at h
    · rename_i e; subst e; cases h; exact S_slices_Equal_int_int
    split at h
    · rename_i e; subst e; cases h; exact S_slices_Equal_api_Size_api_Size
    split at h
    · rename_i e; subst e; cases h; exact S_slices_EqualFunc_api_Template_api_Template_api_Template_api_Template
    cases h) (by kernel_rfl) (by kernel_rfl) (by kernel_rfl) (by kernel_rfl)
/-- av1.nothing -/
@[reducible] def in_av1_nothing : List PK := [.v (.cons (.int .i64) (.cons (.int .i64) (.cons (.int .i64) (.cons (.sl (.int .i64)) (.cons (.sl (.cons (.int .i64) (.cons (.int .i64) (.cons (.sl (.int .i64)) (.cons (.sl (.int .i64)) (.cons (.sl (.int .i64)) (.nil))))))) (.cons (.sl (.cons (.int .i64) (.cons (.int .i64) (.nil)))) (.nil)))))))]
@[reducible] def out_av1_nothing : List OK := [.v (.bool)]
def an_av1_nothing : Anns := ⟨fun r => none, fun t => none, fun i => []⟩
noncomputable def G_av1_nothing : Ctx := fun n => if n = 25 then some ⟨in_templ_Same, out_templ_Same, F_templ_Same⟩ else none
noncomputable def F_av1_nothing : Den (chain (in_av1_nothing.map PK.ty)) → Option (Den (chain (out_av1_nothing.map OK.ty ++ statesOf in_av1_nothing))) := fnK tab G_av1_nothing an_av1_nothing 1000000 Go.Proofs.Try.f41 (bodyOf Go.Proofs.Try.f41) in_av1_nothing out_av1_nothing
theorem S_av1_nothing : Sound Go.Proofs.Try.prog 41 ⟨in_av1_nothing, out_av1_nothing, F_av1_nothing⟩ := sound_fn tab_ok follows (Γ := G_av1_nothing) (fun f con h => by
    unfold G_av1_nothing at h
    split at h
    · rename_i e; subst e; cases h; exact S_templ_Same
    cases h) (by kernel_rfl) (by kernel_rfl) (by kernel_rfl) (by kernel_rfl)
/-- av1.all -/
@[reducible] def in_av1_all : List PK := [.v (.sl (.int .i64)), .v (.int .i64), .v (.int .i64)]
@[reducible] def out_av1_all : List OK := [.v (.bool)]
def an_av1_all : Anns := ⟨fun r => if r = 2 then some ⟨[.sv 1, .sv 2, .sv 9, .sv 10, .sv 11], (.cons (.int .i64) (.cons (.int .i64) (.cons (.sl (.int .i64)) (.cons (.int .i64) (.cons (.int .i64) (.nil)))))), []⟩ else none, fun t => none, fun i => []⟩
noncomputable def G_av1_all : Ctx := fun n => if n = 52 then some ⟨in_av1_within, out_av1_within, F_av1_within⟩ else none
noncomputable def F_av1_all : Den (chain (in_av1_all.map PK.ty)) → Option (Den (chain (out_av1_all.map OK.ty ++ statesOf in_av1_all))) := fnK tab G_av1_all an_av1_all 1000000 Go.Proofs.Try.f80 (bodyOf Go.Proofs.Try.f80) in_av1_all out_av1_all
theorem S_av1_all : Sound Go.Proofs.Try.prog 80 ⟨in_av1_all, out_av1_all, F_av1_all⟩ := sound_fn tab_ok follows (Γ := G_av1_all) (fun f con h => by
    unfold G_av1_all at h
    split at h
    · rename_i e; subst e; cases h; exact S_av1_within
    cases h) (by kernel_rfl) (by kernel_rfl) (by kernel_rfl) (by kernel_rfl)
/-- av1.own -/
@[reducible] def in_av1_own : List PK := [.v (.bool), .v (.sl (.int .i64)), .v (.int .i64), .v (.int .i64), .v (.int .i64)]
@[reducible] def out_av1_own : List OK := [.v (.bool)]
def an_av1_own : Anns := ⟨fun r => none, fun t => none, fun i => []⟩
noncomputable def G_av1_own : Ctx := fun n => if n = 80 then some ⟨in_av1_all, out_av1_all, F_av1_all⟩ else none
noncomputable def F_av1_own : Den (chain (in_av1_own.map PK.ty)) → Option (Den (chain (out_av1_own.map OK.ty ++ statesOf in_av1_own))) := fnK tab G_av1_own an_av1_own 1000000 Go.Proofs.Try.f53 (bodyOf Go.Proofs.Try.f53) in_av1_own out_av1_own
theorem S_av1_own : Sound Go.Proofs.Try.prog 53 ⟨in_av1_own, out_av1_own, F_av1_own⟩ := sound_fn tab_ok follows (Γ := G_av1_own) (fun f con h => by
    unfold G_av1_own at h
    split at h
    · rename_i e; subst e; cases h; exact S_av1_all
    cases h) (by kernel_rfl) (by kernel_rfl) (by kernel_rfl) (by kernel_rfl)
/-- av1.Right -/
@[reducible] def in_av1_Right : List PK := [.v (.cons (.bool) (.cons (.bool) (.cons (.int .i64) (.cons (.int .i64) (.cons (.bool) (.cons (.cons (.int .i64) (.cons (.int .i64) (.cons (.int .i64) (.cons (.sl (.int .i64)) (.cons (.sl (.cons (.int .i64) (.cons (.int .i64) (.cons (.sl (.int .i64)) (.cons (.sl (.int .i64)) (.cons (.sl (.int .i64)) (.nil))))))) (.cons (.sl (.cons (.int .i64) (.cons (.int .i64) (.nil)))) (.nil))))))) (.cons (.bool) (.cons (.int .u32) (.cons (.bool) (.cons (.sl (.int .i64)) (.cons (.bool) (.cons (.sl (.int .i64)) (.cons (.bool) (.cons (.sl (.int .i64)) (.nil))))))))))))))), .v (.cons (.int .i64) (.cons (.int .i64) (.cons (.int .i64) (.cons (.sl (.int .i64)) (.cons (.sl (.cons (.int .i64) (.cons (.int .i64) (.cons (.sl (.int .i64)) (.cons (.sl (.int .i64)) (.cons (.sl (.int .i64)) (.nil))))))) (.cons (.sl (.cons (.int .i64) (.cons (.int .i64) (.nil)))) (.nil)))))))]
@[reducible] def out_av1_Right : List OK := [.v (.bool)]
def an_av1_Right : Anns := ⟨fun r => none, fun t => none, fun i => []⟩
noncomputable def G_av1_Right : Ctx := fun n => if n = 24 then some ⟨in_templ_Right, out_templ_Right, F_templ_Right⟩ else if n = 30 then some ⟨in_av1_structure, out_av1_structure, F_av1_structure⟩ else if n = 35 then some ⟨in_av1_place, out_av1_place, F_av1_place⟩ else if n = 41 then some ⟨in_av1_nothing, out_av1_nothing, F_av1_nothing⟩ else if n = 52 then some ⟨in_av1_within, out_av1_within, F_av1_within⟩ else if n = 53 then some ⟨in_av1_own, out_av1_own, F_av1_own⟩ else none
noncomputable def F_av1_Right : Den (chain (in_av1_Right.map PK.ty)) → Option (Den (chain (out_av1_Right.map OK.ty ++ statesOf in_av1_Right))) := fnK tab G_av1_Right an_av1_Right 1000000 Go.Proofs.Try.f18 (bodyOf Go.Proofs.Try.f18) in_av1_Right out_av1_Right
theorem S_av1_Right : Sound Go.Proofs.Try.prog 18 ⟨in_av1_Right, out_av1_Right, F_av1_Right⟩ := sound_fn tab_ok follows (Γ := G_av1_Right) (fun f con h => by
    unfold G_av1_Right at h
    split at h
    · rename_i e; subst e; cases h; exact S_templ_Right
    split at h
    · rename_i e; subst e; cases h; exact S_av1_structure
    split at h
    · rename_i e; subst e; cases h; exact S_av1_place
    split at h
    · rename_i e; subst e; cases h; exact S_av1_nothing
    split at h
    · rename_i e; subst e; cases h; exact S_av1_within
    split at h
    · rename_i e; subst e; cases h; exact S_av1_own
    cases h) (by kernel_rfl) (by kernel_rfl) (by kernel_rfl) (by kernel_rfl)
/-- bits.Right -/
@[reducible] def in_bits_Right : List PK := [.v (.cons (.sl (.int .u8)) (.cons (.int .i64) (.nil)))]
@[reducible] def out_bits_Right : List OK := [.v (.bool)]
def an_bits_Right : Anns := ⟨fun r => none, fun t => if t = 14 then some (true, ⟨[.bx 1 false [.v, .v], .cst 1 (.box 1 0), .sv 3], (.cons (.sl (.int .u8)) (.cons (.int .i64) (.cons (.int .i64) (.nil)))), []⟩) else none, fun i => []⟩
noncomputable def G_bits_Right : Ctx := fun n => none
noncomputable def F_bits_Right : Den (chain (in_bits_Right.map PK.ty)) → Option (Den (chain (out_bits_Right.map OK.ty ++ statesOf in_bits_Right))) := fnK tab G_bits_Right an_bits_Right 1000000 Go.Proofs.Try.f68 (bodyOf Go.Proofs.Try.f68) in_bits_Right out_bits_Right
theorem S_bits_Right : Sound Go.Proofs.Try.prog 68 ⟨in_bits_Right, out_bits_Right, F_bits_Right⟩ := sound_fn tab_ok follows (Γ := G_bits_Right) (fun f con h => by
    unfold G_bits_Right at h
    cases h) (by kernel_rfl) (by kernel_rfl) (by kernel_rfl) (by kernel_rfl)
/-- bits.draw -/
@[reducible] def in_bits_draw : List PK := [.v (.cons (.sl (.int .u8)) (.cons (.int .i64) (.nil))), .v (.int .u64), .v (.int .i64)]
@[reducible] def out_bits_draw : List OK := [.v (.cons (.sl (.int .u8)) (.cons (.int .i64) (.nil)))]
def an_bits_draw : Anns := ⟨fun r => if r = 5 then some ⟨[.bx 6 false [.v, .v], .sv 1, .sv 2, .cst 6 (.box 6 0), .sv 7, .row 8 100008 5, .sv 9], (.cons (.sl (.int .u8)) (.cons (.int .i64) (.cons (.int .u64) (.cons (.int .i64) (.cons (.int .i64) (.cons (.sl (.int .u8)) (.cons (.int .i64) (.nil)))))))), []⟩ else none, fun t => none, fun i => []⟩
noncomputable def G_bits_draw : Ctx := fun n => none
noncomputable def F_bits_draw : Den (chain (in_bits_draw.map PK.ty)) → Option (Den (chain (out_bits_draw.map OK.ty ++ statesOf in_bits_draw))) := fnK tab G_bits_draw an_bits_draw 1000000 Go.Proofs.Try.f81 (bodyOf Go.Proofs.Try.f81) in_bits_draw out_bits_draw
theorem S_bits_draw : Sound Go.Proofs.Try.prog 81 ⟨in_bits_draw, out_bits_draw, F_bits_draw⟩ := sound_fn tab_ok follows (Γ := G_bits_draw) (fun f con h => by
    unfold G_bits_draw at h
    cases h) (by kernel_rfl) (by kernel_rfl) (by kernel_rfl) (by kernel_rfl)
/-- bits.Add -/
@[reducible] def in_bits_Add : List PK := [.v (.cons (.sl (.int .u8)) (.cons (.int .i64) (.nil))), .v (.int .u64), .v (.int .i64)]
@[reducible] def out_bits_Add : List OK := [.v (.cons (.sl (.int .u8)) (.cons (.int .i64) (.nil))), .v (.int .i64)]
def an_bits_Add : Anns := ⟨fun r => none, fun t => none, fun i => []⟩
noncomputable def G_bits_Add : Ctx := fun n => if n = 68 then some ⟨in_bits_Right, out_bits_Right, F_bits_Right⟩ else if n = 81 then some ⟨in_bits_draw, out_bits_draw, F_bits_draw⟩ else none
noncomputable def F_bits_Add : Den (chain (in_bits_Add.map PK.ty)) → Option (Den (chain (out_bits_Add.map OK.ty ++ statesOf in_bits_Add))) := fnK tab G_bits_Add an_bits_Add 1000000 Go.Proofs.Try.f67 (bodyOf Go.Proofs.Try.f67) in_bits_Add out_bits_Add
theorem S_bits_Add : Sound Go.Proofs.Try.prog 67 ⟨in_bits_Add, out_bits_Add, F_bits_Add⟩ := sound_fn tab_ok follows (Γ := G_bits_Add) (fun f con h => by
    unfold G_bits_Add at h
    split at h
    · rename_i e; subst e; cases h; exact S_bits_Right
    split at h
    · rename_i e; subst e; cases h; exact S_bits_draw
    cases h) (by kernel_rfl) (by kernel_rfl) (by kernel_rfl) (by kernel_rfl)
/-- (*av1.writer).number -/
@[reducible] def in_av1_writer_number : List PK := [.p false (.cons (.cons (.sl (.int .u8)) (.cons (.int .i64) (.nil))) (.nil)), .v (.int .u64), .v (.int .i64)]
@[reducible] def out_av1_writer_number : List OK := []
def an_av1_writer_number : Anns := ⟨fun r => none, fun t => none, fun i => []⟩
noncomputable def G_av1_writer_number : Ctx := fun n => if n = 67 then some ⟨in_bits_Add, out_bits_Add, F_bits_Add⟩ else none
noncomputable def F_av1_writer_number : Den (chain (in_av1_writer_number.map PK.ty)) → Option (Den (chain (out_av1_writer_number.map OK.ty ++ statesOf in_av1_writer_number))) := fnK tab G_av1_writer_number an_av1_writer_number 1000000 Go.Proofs.Try.f32 (bodyOf Go.Proofs.Try.f32) in_av1_writer_number out_av1_writer_number
theorem S_av1_writer_number : Sound Go.Proofs.Try.prog 32 ⟨in_av1_writer_number, out_av1_writer_number, F_av1_writer_number⟩ := sound_fn tab_ok follows (Γ := G_av1_writer_number) (fun f con h => by
    unfold G_av1_writer_number at h
    split at h
    · rename_i e; subst e; cases h; exact S_bits_Add
    cases h) (by kernel_rfl) (by kernel_rfl) (by kernel_rfl) (by kernel_rfl)
/-- (*av1.writer).truth -/
@[reducible] def in_av1_writer_truth : List PK := [.p false (.cons (.cons (.sl (.int .u8)) (.cons (.int .i64) (.nil))) (.nil)), .v (.bool)]
@[reducible] def out_av1_writer_truth : List OK := []
def an_av1_writer_truth : Anns := ⟨fun r => none, fun t => if t = 4 then some (true, ⟨[.bx 1000 false [.v, .v], .cst 0 (.box 1000 0)], (.cons (.sl (.int .u8)) (.cons (.int .i64) (.nil))), []⟩) else none, fun i => []⟩
noncomputable def G_av1_writer_truth : Ctx := fun n => if n = 32 then some ⟨in_av1_writer_number, out_av1_writer_number, F_av1_writer_number⟩ else none
noncomputable def F_av1_writer_truth : Den (chain (in_av1_writer_truth.map PK.ty)) → Option (Den (chain (out_av1_writer_truth.map OK.ty ++ statesOf in_av1_writer_truth))) := fnK tab G_av1_writer_truth an_av1_writer_truth 1000000 Go.Proofs.Try.f31 (bodyOf Go.Proofs.Try.f31) in_av1_writer_truth out_av1_writer_truth
theorem S_av1_writer_truth : Sound Go.Proofs.Try.prog 31 ⟨in_av1_writer_truth, out_av1_writer_truth, F_av1_writer_truth⟩ := sound_fn tab_ok follows (Γ := G_av1_writer_truth) (fun f con h => by
    unfold G_av1_writer_truth at h
    split at h
    · rename_i e; subst e; cases h; exact S_av1_writer_number
    cases h) (by kernel_rfl) (by kernel_rfl) (by kernel_rfl) (by kernel_rfl)
/-- (*templ.writer).number -/
@[reducible] def in_templ_writer_number : List PK := [.p false (.cons (.cons (.sl (.int .u8)) (.cons (.int .i64) (.nil))) (.nil)), .v (.int .i64), .v (.int .i64)]
@[reducible] def out_templ_writer_number : List OK := []
def an_templ_writer_number : Anns := ⟨fun r => none, fun t => none, fun i => []⟩
noncomputable def G_templ_writer_number : Ctx := fun n => if n = 67 then some ⟨in_bits_Add, out_bits_Add, F_bits_Add⟩ else none
noncomputable def F_templ_writer_number : Den (chain (in_templ_writer_number.map PK.ty)) → Option (Den (chain (out_templ_writer_number.map OK.ty ++ statesOf in_templ_writer_number))) := fnK tab G_templ_writer_number an_templ_writer_number 1000000 Go.Proofs.Try.f82 (bodyOf Go.Proofs.Try.f82) in_templ_writer_number out_templ_writer_number
theorem S_templ_writer_number : Sound Go.Proofs.Try.prog 82 ⟨in_templ_writer_number, out_templ_writer_number, F_templ_writer_number⟩ := sound_fn tab_ok follows (Γ := G_templ_writer_number) (fun f con h => by
    unfold G_templ_writer_number at h
    split at h
    · rename_i e; subst e; cases h; exact S_bits_Add
    cases h) (by kernel_rfl) (by kernel_rfl) (by kernel_rfl) (by kernel_rfl)
/-- math/bits.Len64 -/
@[reducible] def in_math_bits_Len64 : List PK := [.v (.int .u64)]
@[reducible] def out_math_bits_Len64 : List OK := [.v (.int .i64)]
def an_math_bits_Len64 : Anns := ⟨fun r => none, fun t => if t = 4 then some (true, ⟨[.sv 0, .sv 2], (.cons (.int .u64) (.cons (.int .i64) (.nil))), []⟩) else if t = 8 then some (true, ⟨[.sv 0, .sv 2], (.cons (.int .u64) (.cons (.int .i64) (.nil))), []⟩) else if t = 14 then some (true, ⟨[.sv 0, .sv 2], (.cons (.int .u64) (.cons (.int .i64) (.nil))), []⟩) else none, fun i => []⟩
noncomputable def G_math_bits_Len64 : Ctx := fun n => none
noncomputable def F_math_bits_Len64 : Den (chain (in_math_bits_Len64.map PK.ty)) → Option (Den (chain (out_math_bits_Len64.map OK.ty ++ statesOf in_math_bits_Len64))) := fnK tab G_math_bits_Len64 an_math_bits_Len64 1000000 Go.Proofs.Try.f105 (bodyOf Go.Proofs.Try.f105) in_math_bits_Len64 out_math_bits_Len64
theorem S_math_bits_Len64 : Sound Go.Proofs.Try.prog 105 ⟨in_math_bits_Len64, out_math_bits_Len64, F_math_bits_Len64⟩ := sound_fn tab_ok follows (Γ := G_math_bits_Len64) (fun f con h => by
    unfold G_math_bits_Len64 at h
    cases h) (by kernel_rfl) (by kernel_rfl) (by kernel_rfl) (by kernel_rfl)
/-- bits.shape -/
@[reducible] def in_bits_shape : List PK := [.v (.int .u64)]
@[reducible] def out_bits_shape : List OK := [.v (.int .i64), .v (.int .u64)]
def an_bits_shape : Anns := ⟨fun r => none, fun t => none, fun i => []⟩
noncomputable def G_bits_shape : Ctx := fun n => if n = 105 then some ⟨in_math_bits_Len64, out_math_bits_Len64, F_math_bits_Len64⟩ else none
noncomputable def F_bits_shape : Den (chain (in_bits_shape.map PK.ty)) → Option (Den (chain (out_bits_shape.map OK.ty ++ statesOf in_bits_shape))) := fnK tab G_bits_shape an_bits_shape 1000000 Go.Proofs.Try.f104 (bodyOf Go.Proofs.Try.f104) in_bits_shape out_bits_shape
theorem S_bits_shape : Sound Go.Proofs.Try.prog 104 ⟨in_bits_shape, out_bits_shape, F_bits_shape⟩ := sound_fn tab_ok follows (Γ := G_bits_shape) (fun f con h => by
    unfold G_bits_shape at h
    split at h
    · rename_i e; subst e; cases h; exact S_math_bits_Len64
    cases h) (by kernel_rfl) (by kernel_rfl) (by kernel_rfl) (by kernel_rfl)
/-- bits.AddRange -/
@[reducible] def in_bits_AddRange : List PK := [.v (.cons (.sl (.int .u8)) (.cons (.int .i64) (.nil))), .v (.int .u64), .v (.int .u64)]
@[reducible] def out_bits_AddRange : List OK := [.v (.cons (.sl (.int .u8)) (.cons (.int .i64) (.nil))), .v (.int .i64)]
def an_bits_AddRange : Anns := ⟨fun r => none, fun t => none, fun i => []⟩
noncomputable def G_bits_AddRange : Ctx := fun n => if n = 68 then some ⟨in_bits_Right, out_bits_Right, F_bits_Right⟩ else if n = 81 then some ⟨in_bits_draw, out_bits_draw, F_bits_draw⟩ else if n = 104 then some ⟨in_bits_shape, out_bits_shape, F_bits_shape⟩ else none
noncomputable def F_bits_AddRange : Den (chain (in_bits_AddRange.map PK.ty)) → Option (Den (chain (out_bits_AddRange.map OK.ty ++ statesOf in_bits_AddRange))) := fnK tab G_bits_AddRange an_bits_AddRange 1000000 Go.Proofs.Try.f100 (bodyOf Go.Proofs.Try.f100) in_bits_AddRange out_bits_AddRange
theorem S_bits_AddRange : Sound Go.Proofs.Try.prog 100 ⟨in_bits_AddRange, out_bits_AddRange, F_bits_AddRange⟩ := sound_fn tab_ok follows (Γ := G_bits_AddRange) (fun f con h => by
    unfold G_bits_AddRange at h
    split at h
    · rename_i e; subst e; cases h; exact S_bits_Right
    split at h
    · rename_i e; subst e; cases h; exact S_bits_draw
    split at h
    · rename_i e; subst e; cases h; exact S_bits_shape
    cases h) (by kernel_rfl) (by kernel_rfl) (by kernel_rfl) (by kernel_rfl)
/-- (*templ.writer).ranged -/
@[reducible] def in_templ_writer_ranged : List PK := [.p false (.cons (.cons (.sl (.int .u8)) (.cons (.int .i64) (.nil))) (.nil)), .v (.int .i64), .v (.int .i64)]
@[reducible] def out_templ_writer_ranged : List OK := []
def an_templ_writer_ranged : Anns := ⟨fun r => none, fun t => none, fun i => []⟩
noncomputable def G_templ_writer_ranged : Ctx := fun n => if n = 100 then some ⟨in_bits_AddRange, out_bits_AddRange, F_bits_AddRange⟩ else none
noncomputable def F_templ_writer_ranged : Den (chain (in_templ_writer_ranged.map PK.ty)) → Option (Den (chain (out_templ_writer_ranged.map OK.ty ++ statesOf in_templ_writer_ranged))) := fnK tab G_templ_writer_ranged an_templ_writer_ranged 1000000 Go.Proofs.Try.f83 (bodyOf Go.Proofs.Try.f83) in_templ_writer_ranged out_templ_writer_ranged
theorem S_templ_writer_ranged : Sound Go.Proofs.Try.prog 83 ⟨in_templ_writer_ranged, out_templ_writer_ranged, F_templ_writer_ranged⟩ := sound_fn tab_ok follows (Γ := G_templ_writer_ranged) (fun f con h => by
    unfold G_templ_writer_ranged at h
    split at h
    · rename_i e; subst e; cases h; exact S_bits_AddRange
    cases h) (by kernel_rfl) (by kernel_rfl) (by kernel_rfl) (by kernel_rfl)
/-- (*templ.writer).write -/
@[reducible] def in_templ_writer_write : List PK := [.p false (.cons (.cons (.sl (.int .u8)) (.cons (.int .i64) (.nil))) (.nil)), .v (.cons (.int .i64) (.cons (.int .i64) (.cons (.int .i64) (.cons (.sl (.int .i64)) (.cons (.sl (.cons (.int .i64) (.cons (.int .i64) (.cons (.sl (.int .i64)) (.cons (.sl (.int .i64)) (.cons (.sl (.int .i64)) (.nil))))))) (.cons (.sl (.cons (.int .i64) (.cons (.int .i64) (.nil)))) (.nil)))))))]
@[reducible] def out_templ_writer_write : List OK := []
def an_templ_writer_write : Anns := ⟨fun r => if r = 4 then some ⟨[.bx 1000 false [.v, .v], .bx 3 false [.v, .v, .v, .v, .v, .v], .cst 0 (.box 1000 0), .cst 3 (.box 3 0), .sv 33, .sv 34], (.cons (.sl (.int .u8)) (.cons (.int .i64) (.cons (.int .i64) (.cons (.int .i64) (.cons (.int .i64) (.cons (.sl (.int .i64)) (.cons (.sl (.cons (.int .i64) (.cons (.int .i64) (.cons (.sl (.int .i64)) (.cons (.sl (.int .i64)) (.cons (.sl (.int .i64)) (.nil))))))) (.cons (.sl (.cons (.int .i64) (.cons (.int .i64) (.nil)))) (.cons (.int .i64) (.cons (.int .i64) (.nil))))))))))), []⟩ else if r = 12 then some ⟨[.bx 1000 false [.v, .v], .bx 3 false [.v, .v, .v, .v, .v, .v], .cst 0 (.box 1000 0), .cst 3 (.box 3 0), .sv 60, .sv 61, .sv 62], (.cons (.sl (.int .u8)) (.cons (.int .i64) (.cons (.int .i64) (.cons (.int .i64) (.cons (.int .i64) (.cons (.sl (.int .i64)) (.cons (.sl (.cons (.int .i64) (.cons (.int .i64) (.cons (.sl (.int .i64)) (.cons (.sl (.int .i64)) (.cons (.sl (.int .i64)) (.nil))))))) (.cons (.sl (.cons (.int .i64) (.cons (.int .i64) (.nil)))) (.cons (.sl (.cons (.int .i64) (.cons (.int .i64) (.cons (.sl (.int .i64)) (.cons (.sl (.int .i64)) (.cons (.sl (.int .i64)) (.nil))))))) (.cons (.int .i64) (.cons (.int .i64) (.nil)))))))))))), []⟩ else if r = 15 then some ⟨[.bx 1000 false [.v, .v], .bx 3 false [.v, .v, .v, .v, .v, .v], .cst 0 (.box 1000 0), .cst 3 (.box 3 0), .sv 60, .sv 61, .sv 62, .sv 67, .sv 68, .sv 69], (.cons (.sl (.int .u8)) (.cons (.int .i64) (.cons (.int .i64) (.cons (.int .i64) (.cons (.int .i64) (.cons (.sl (.int .i64)) (.cons (.sl (.cons (.int .i64) (.cons (.int .i64) (.cons (.sl (.int .i64)) (.cons (.sl (.int .i64)) (.cons (.sl (.int .i64)) (.nil))))))) (.cons (.sl (.cons (.int .i64) (.cons (.int .i64) (.nil)))) (.cons (.sl (.cons (.int .i64) (.cons (.int .i64) (.cons (.sl (.int .i64)) (.cons (.sl (.int .i64)) (.cons (.sl (.int .i64)) (.nil))))))) (.cons (.int .i64) (.cons (.int .i64) (.cons (.sl (.int .i64)) (.cons (.int .i64) (.cons (.int .i64) (.nil))))))))))))))), []⟩ else if r = 21 then some ⟨[.bx 1000 false [.v, .v], .bx 3 false [.v, .v, .v, .v, .v, .v], .cst 0 (.box 1000 0), .cst 3 (.box 3 0), .sv 79, .sv 80, .sv 81], (.cons (.sl (.int .u8)) (.cons (.int .i64) (.cons (.int .i64) (.cons (.int .i64) (.cons (.int .i64) (.cons (.sl (.int .i64)) (.cons (.sl (.cons (.int .i64) (.cons (.int .i64) (.cons (.sl (.int .i64)) (.cons (.sl (.int .i64)) (.cons (.sl (.int .i64)) (.nil))))))) (.cons (.sl (.cons (.int .i64) (.cons (.int .i64) (.nil)))) (.cons (.sl (.cons (.int .i64) (.cons (.int .i64) (.cons (.sl (.int .i64)) (.cons (.sl (.int .i64)) (.cons (.sl (.int .i64)) (.nil))))))) (.cons (.int .i64) (.cons (.int .i64) (.nil)))))))))))), []⟩ else if r = 24 then some ⟨[.bx 1000 false [.v, .v], .bx 3 false [.v, .v, .v, .v, .v, .v], .cst 0 (.box 1000 0), .cst 3 (.box 3 0), .sv 79, .sv 80, .sv 81, .sv 86, .sv 87, .sv 88], (.cons (.sl (.int .u8)) (.cons (.int .i64) (.cons (.int .i64) (.cons (.int .i64) (.cons (.int .i64) (.cons (.sl (.int .i64)) (.cons (.sl (.cons (.int .i64) (.cons (.int .i64) (.cons (.sl (.int .i64)) (.cons (.sl (.int .i64)) (.cons (.sl (.int .i64)) (.nil))))))) (.cons (.sl (.cons (.int .i64) (.cons (.int .i64) (.nil)))) (.cons (.sl (.cons (.int .i64) (.cons (.int .i64) (.cons (.sl (.int .i64)) (.cons (.sl (.int .i64)) (.cons (.sl (.int .i64)) (.nil))))))) (.cons (.int .i64) (.cons (.int .i64) (.cons (.sl (.int .i64)) (.cons (.int .i64) (.cons (.int .i64) (.nil))))))))))))))), []⟩ else if r = 33 then some ⟨[.bx 1000 false [.v, .v], .bx 3 false [.v, .v, .v, .v, .v, .v], .cst 0 (.box 1000 0), .cst 3 (.box 3 0), .sv 110, .sv 111, .sv 112], (.cons (.sl (.int .u8)) (.cons (.int .i64) (.cons (.int .i64) (.cons (.int .i64) (.cons (.int .i64) (.cons (.sl (.int .i64)) (.cons (.sl (.cons (.int .i64) (.cons (.int .i64) (.cons (.sl (.int .i64)) (.cons (.sl (.int .i64)) (.cons (.sl (.int .i64)) (.nil))))))) (.cons (.sl (.cons (.int .i64) (.cons (.int .i64) (.nil)))) (.cons (.sl (.int .i64)) (.cons (.int .i64) (.cons (.int .i64) (.nil)))))))))))), []⟩ else if r = 38 then some ⟨[.bx 1000 false [.v, .v], .bx 3 false [.v, .v, .v, .v, .v, .v], .cst 0 (.box 1000 0), .cst 3 (.box 3 0), .sv 123, .sv 124, .sv 125], (.cons (.sl (.int .u8)) (.cons (.int .i64) (.cons (.int .i64) (.cons (.int .i64) (.cons (.int .i64) (.cons (.sl (.int .i64)) (.cons (.sl (.cons (.int .i64) (.cons (.int .i64) (.cons (.sl (.int .i64)) (.cons (.sl (.int .i64)) (.cons (.sl (.int .i64)) (.nil))))))) (.cons (.sl (.cons (.int .i64) (.cons (.int .i64) (.nil)))) (.cons (.sl (.cons (.int .i64) (.cons (.int .i64) (.cons (.sl (.int .i64)) (.cons (.sl (.int .i64)) (.cons (.sl (.int .i64)) (.nil))))))) (.cons (.int .i64) (.cons (.int .i64) (.nil)))))))))))), []⟩ else if r = 41 then some ⟨[.bx 1000 false [.v, .v], .bx 3 false [.v, .v, .v, .v, .v, .v], .cst 0 (.box 1000 0), .cst 3 (.box 3 0), .sv 123, .sv 124, .sv 125, .sv 130, .sv 131, .sv 132], (.cons (.sl (.int .u8)) (.cons (.int .i64) (.cons (.int .i64) (.cons (.int .i64) (.cons (.int .i64) (.cons (.sl (.int .i64)) (.cons (.sl (.cons (.int .i64) (.cons (.int .i64) (.cons (.sl (.int .i64)) (.cons (.sl (.int .i64)) (.cons (.sl (.int .i64)) (.nil))))))) (.cons (.sl (.cons (.int .i64) (.cons (.int .i64) (.nil)))) (.cons (.sl (.cons (.int .i64) (.cons (.int .i64) (.cons (.sl (.int .i64)) (.cons (.sl (.int .i64)) (.cons (.sl (.int .i64)) (.nil))))))) (.cons (.int .i64) (.cons (.int .i64) (.cons (.sl (.int .i64)) (.cons (.int .i64) (.cons (.int .i64) (.nil))))))))))))))), []⟩ else if r = 50 then some ⟨[.bx 1000 false [.v, .v], .cst 0 (.box 1000 0), .sv 150, .sv 151, .sv 152], (.cons (.sl (.int .u8)) (.cons (.int .i64) (.cons (.sl (.cons (.int .i64) (.cons (.int .i64) (.nil)))) (.cons (.int .i64) (.cons (.int .i64) (.nil)))))), []⟩ else none, fun t => if t = 42 then some (true, ⟨[.bx 1000 false [.v, .v], .bx 3 false [.v, .v, .v, .v, .v, .v], .cst 0 (.box 1000 0), .cst 3 (.box 3 0), .sv 5, .sv 33, .sv 34], (.cons (.sl (.int .u8)) (.cons (.int .i64) (.cons (.int .i64) (.cons (.int .i64) (.cons (.int .i64) (.cons (.sl (.int .i64)) (.cons (.sl (.cons (.int .i64) (.cons (.int .i64) (.cons (.sl (.int .i64)) (.cons (.sl (.int .i64)) (.cons (.sl (.int .i64)) (.nil))))))) (.cons (.sl (.cons (.int .i64) (.cons (.int .i64) (.nil)))) (.cons (.int .i64) (.cons (.int .i64) (.cons (.int .i64) (.nil)))))))))))), []⟩) else none, fun i => []⟩
noncomputable def G_templ_writer_write : Ctx := fun n => if n = 60 then some ⟨in_templ_follow, out_templ_follow, F_templ_follow⟩ else if n = 82 then some ⟨in_templ_writer_number, out_templ_writer_number, F_templ_writer_number⟩ else if n = 83 then some ⟨in_templ_writer_ranged, out_templ_writer_ranged, F_templ_writer_ranged⟩ else none
noncomputable def F_templ_writer_write : Den (chain (in_templ_writer_write.map PK.ty)) → Option (Den (chain (out_templ_writer_write.map OK.ty ++ statesOf in_templ_writer_write))) := fnK tab G_templ_writer_write an_templ_writer_write 1000000 Go.Proofs.Try.f69 (bodyOf Go.Proofs.Try.f69) in_templ_writer_write out_templ_writer_write
theorem S_templ_writer_write : Sound Go.Proofs.Try.prog 69 ⟨in_templ_writer_write, out_templ_writer_write, F_templ_writer_write⟩ := sound_fn tab_ok follows (Γ := G_templ_writer_write) (fun f con h => by
    unfold G_templ_writer_write at h
    split at h
    · rename_i e; subst e; cases h; exact S_templ_follow
    split at h
    · rename_i e; subst e; cases h; exact S_templ_writer_number
    split at h
    · rename_i e; subst e; cases h; exact S_templ_writer_ranged
    cases h) (by kernel_rfl) (by kernel_rfl) (by kernel_rfl) (by kernel_rfl)
/-- templ.join -/
@[reducible] def in_templ_join : List PK := [.v (.cons (.sl (.int .u8)) (.cons (.int .i64) (.nil))), .v (.cons (.sl (.int .u8)) (.cons (.int .i64) (.nil)))]
@[reducible] def out_templ_join : List OK := [.v (.cons (.sl (.int .u8)) (.cons (.int .i64) (.nil)))]
def an_templ_join : Anns := ⟨fun r => if r = 5 then some ⟨[.bx 2 false [.v, .v], .bx 3 false [.v, .v], .bx 4 false [.v, .v], .bx 6 false [.row 200600 5, .v], .cst 2 (.box 2 0), .cst 3 (.box 3 0), .cst 4 (.box 4 0), .cst 6 (.box 6 0), .sv 27, .sv 28], (.cons (.sl (.int .u8)) (.cons (.int .i64) (.cons (.sl (.int .u8)) (.cons (.int .i64) (.cons (.sl (.int .u8)) (.cons (.int .i64) (.cons (.sl (.int .u8)) (.cons (.int .i64) (.cons (.int .i64) (.cons (.int .i64) (.nil))))))))))), []⟩ else none, fun t => none, fun i => []⟩
noncomputable def G_templ_join : Ctx := fun n => none
noncomputable def F_templ_join : Den (chain (in_templ_join.map PK.ty)) → Option (Den (chain (out_templ_join.map OK.ty ++ statesOf in_templ_join))) := fnK tab G_templ_join an_templ_join 1000000 Go.Proofs.Try.f70 (bodyOf Go.Proofs.Try.f70) in_templ_join out_templ_join
theorem S_templ_join : Sound Go.Proofs.Try.prog 70 ⟨in_templ_join, out_templ_join, F_templ_join⟩ := sound_fn tab_ok follows (Γ := G_templ_join) (fun f con h => by
    unfold G_templ_join at h
    cases h) (by kernel_rfl) (by kernel_rfl) (by kernel_rfl) (by kernel_rfl)
/-- templ.Put -/
@[reducible] def in_templ_Put : List PK := [.v (.cons (.sl (.int .u8)) (.cons (.int .i64) (.nil))), .v (.cons (.int .i64) (.cons (.int .i64) (.cons (.int .i64) (.cons (.sl (.int .i64)) (.cons (.sl (.cons (.int .i64) (.cons (.int .i64) (.cons (.sl (.int .i64)) (.cons (.sl (.int .i64)) (.cons (.sl (.int .i64)) (.nil))))))) (.cons (.sl (.cons (.int .i64) (.cons (.int .i64) (.nil)))) (.nil)))))))]
@[reducible] def out_templ_Put : List OK := [.v (.cons (.sl (.int .u8)) (.cons (.int .i64) (.nil))), .v (.int .i64)]
def an_templ_Put : Anns := ⟨fun r => none, fun t => none, fun i => []⟩
noncomputable def G_templ_Put : Ctx := fun n => if n = 24 then some ⟨in_templ_Right, out_templ_Right, F_templ_Right⟩ else if n = 68 then some ⟨in_bits_Right, out_bits_Right, F_bits_Right⟩ else if n = 69 then some ⟨in_templ_writer_write, out_templ_writer_write, F_templ_writer_write⟩ else if n = 70 then some ⟨in_templ_join, out_templ_join, F_templ_join⟩ else none
noncomputable def F_templ_Put : Den (chain (in_templ_Put.map PK.ty)) → Option (Den (chain (out_templ_Put.map OK.ty ++ statesOf in_templ_Put))) := fnK tab G_templ_Put an_templ_Put 1000000 Go.Proofs.Try.f33 (bodyOf Go.Proofs.Try.f33) in_templ_Put out_templ_Put
theorem S_templ_Put : Sound Go.Proofs.Try.prog 33 ⟨in_templ_Put, out_templ_Put, F_templ_Put⟩ := sound_fn tab_ok follows (Γ := G_templ_Put) (fun f con h => by
    unfold G_templ_Put at h
    split at h
    · rename_i e; subst e; cases h; exact S_templ_Right
    split at h
    · rename_i e; subst e; cases h; exact S_bits_Right
    split at h
    · rename_i e; subst e; cases h; exact S_templ_writer_write
    split at h
    · rename_i e; subst e; cases h; exact S_templ_join
    cases h) (by kernel_rfl) (by kernel_rfl) (by kernel_rfl) (by kernel_rfl)
/-- (*av1.writer).diff -/
@[reducible] def in_av1_writer_diff : List PK := [.p false (.cons (.cons (.sl (.int .u8)) (.cons (.int .i64) (.nil))) (.nil)), .v (.int .i64)]
@[reducible] def out_av1_writer_diff : List OK := []
def an_av1_writer_diff : Anns := ⟨fun r => if r = 1 then some ⟨[.bx 1000 false [.v, .v], .cst 0 (.box 1000 0), .sv 1, .sv 4], (.cons (.sl (.int .u8)) (.cons (.int .i64) (.cons (.int .i64) (.cons (.int .i64) (.nil))))), []⟩ else none, fun t => none, fun i => []⟩
noncomputable def G_av1_writer_diff : Ctx := fun n => if n = 32 then some ⟨in_av1_writer_number, out_av1_writer_number, F_av1_writer_number⟩ else none
noncomputable def F_av1_writer_diff : Den (chain (in_av1_writer_diff.map PK.ty)) → Option (Den (chain (out_av1_writer_diff.map OK.ty ++ statesOf in_av1_writer_diff))) := fnK tab G_av1_writer_diff an_av1_writer_diff 1000000 Go.Proofs.Try.f34 (bodyOf Go.Proofs.Try.f34) in_av1_writer_diff out_av1_writer_diff
theorem S_av1_writer_diff : Sound Go.Proofs.Try.prog 34 ⟨in_av1_writer_diff, out_av1_writer_diff, F_av1_writer_diff⟩ := sound_fn tab_ok follows (Γ := G_av1_writer_diff) (fun f con h => by
    unfold G_av1_writer_diff at h
    split at h
    · rename_i e; subst e; cases h; exact S_av1_writer_number
    cases h) (by kernel_rfl) (by kernel_rfl) (by kernel_rfl) (by kernel_rfl)
/-- av1.Write -/
@[reducible] def in_av1_Write : List PK := [.v (.cons (.bool) (.cons (.bool) (.cons (.int .i64) (.cons (.int .i64) (.cons (.bool) (.cons (.cons (.int .i64) (.cons (.int .i64) (.cons (.int .i64) (.cons (.sl (.int .i64)) (.cons (.sl (.cons (.int .i64) (.cons (.int .i64) (.cons (.sl (.int .i64)) (.cons (.sl (.int .i64)) (.cons (.sl (.int .i64)) (.nil))))))) (.cons (.sl (.cons (.int .i64) (.cons (.int .i64) (.nil)))) (.nil))))))) (.cons (.bool) (.cons (.int .u32) (.cons (.bool) (.cons (.sl (.int .i64)) (.cons (.bool) (.cons (.sl (.int .i64)) (.cons (.bool) (.cons (.sl (.int .i64)) (.nil))))))))))))))), .v (.cons (.int .i64) (.cons (.int .i64) (.cons (.int .i64) (.cons (.sl (.int .i64)) (.cons (.sl (.cons (.int .i64) (.cons (.int .i64) (.cons (.sl (.int .i64)) (.cons (.sl (.int .i64)) (.cons (.sl (.int .i64)) (.nil))))))) (.cons (.sl (.cons (.int .i64) (.cons (.int .i64) (.nil)))) (.nil)))))))]
@[reducible] def out_av1_Write : List OK := [.v (.sl (.int .u8)), .v (.int .i64)]
def an_av1_Write : Anns := ⟨fun r => if r = 12 then some ⟨[.bx 2 false [.v, .v, .v, .v, .v, .v, .v, .v, .v, .v, .v, .v, .v, .v, .v, .v, .v, .v, .v], .bx 6 false [.v, .v, .v, .v, .v, .v], .bx 24 false [.v, .v], .cst 2 (.box 2 0), .cst 6 (.box 6 0), .cst 7 (.box 24 0), .row 81 100081 4, .sv 82, .sv 83], (.cons (.bool) (.cons (.bool) (.cons (.int .i64) (.cons (.int .i64) (.cons (.bool) (.cons (.int .i64) (.cons (.int .i64) (.cons (.int .i64) (.cons (.sl (.int .i64)) (.cons (.sl (.cons (.int .i64) (.cons (.int .i64) (.cons (.sl (.int .i64)) (.cons (.sl (.int .i64)) (.cons (.sl (.int .i64)) (.nil))))))) (.cons (.sl (.cons (.int .i64) (.cons (.int .i64) (.nil)))) (.cons (.bool) (.cons (.int .u32) (.cons (.bool) (.cons (.sl (.int .i64)) (.cons (.bool) (.cons (.sl (.int .i64)) (.cons (.bool) (.cons (.sl (.int .i64)) (.cons (.int .i64) (.cons (.int .i64) (.cons (.int .i64) (.cons (.sl (.int .i64)) (.cons (.sl (.cons (.int .i64) (.cons (.int .i64) (.cons (.sl (.int .i64)) (.cons (.sl (.int .i64)) (.cons (.sl (.int .i64)) (.nil))))))) (.cons (.sl (.cons (.int .i64) (.cons (.int .i64) (.nil)))) (.cons (.sl (.int .u8)) (.cons (.int .i64) (.cons (.sl (.bool)) (.cons (.int .i64) (.cons (.int .i64) (.nil))))))))))))))))))))))))))))))), []⟩ else if r = 21 then some ⟨[.bx 2 false [.v, .v, .v, .v, .v, .v, .v, .v, .v, .v, .v, .v, .v, .v, .v, .v, .v, .v, .v], .bx 24 false [.v, .v], .cst 2 (.box 2 0), .cst 7 (.box 24 0), .sv 116, .sv 117, .sv 118], (.cons (.bool) (.cons (.bool) (.cons (.int .i64) (.cons (.int .i64) (.cons (.bool) (.cons (.int .i64) (.cons (.int .i64) (.cons (.int .i64) (.cons (.sl (.int .i64)) (.cons (.sl (.cons (.int .i64) (.cons (.int .i64) (.cons (.sl (.int .i64)) (.cons (.sl (.int .i64)) (.cons (.sl (.int .i64)) (.nil))))))) (.cons (.sl (.cons (.int .i64) (.cons (.int .i64) (.nil)))) (.cons (.bool) (.cons (.int .u32) (.cons (.bool) (.cons (.sl (.int .i64)) (.cons (.bool) (.cons (.sl (.int .i64)) (.cons (.bool) (.cons (.sl (.int .i64)) (.cons (.sl (.int .u8)) (.cons (.int .i64) (.cons (.sl (.int .i64)) (.cons (.int .i64) (.cons (.int .i64) (.nil))))))))))))))))))))))))), []⟩ else if r = 26 then some ⟨[.bx 2 false [.v, .v, .v, .v, .v, .v, .v, .v, .v, .v, .v, .v, .v, .v, .v, .v, .v, .v, .v], .bx 24 false [.v, .v], .cst 2 (.box 2 0), .cst 7 (.box 24 0), .sv 128, .sv 129, .sv 130], (.cons (.bool) (.cons (.bool) (.cons (.int .i64) (.cons (.int .i64) (.cons (.bool) (.cons (.int .i64) (.cons (.int .i64) (.cons (.int .i64) (.cons (.sl (.int .i64)) (.cons (.sl (.cons (.int .i64) (.cons (.int .i64) (.cons (.sl (.int .i64)) (.cons (.sl (.int .i64)) (.cons (.sl (.int .i64)) (.nil))))))) (.cons (.sl (.cons (.int .i64) (.cons (.int .i64) (.nil)))) (.cons (.bool) (.cons (.int .u32) (.cons (.bool) (.cons (.sl (.int .i64)) (.cons (.bool) (.cons (.sl (.int .i64)) (.cons (.bool) (.cons (.sl (.int .i64)) (.cons (.sl (.int .u8)) (.cons (.int .i64) (.cons (.sl (.int .i64)) (.cons (.int .i64) (.cons (.int .i64) (.nil))))))))))))))))))))))))), []⟩ else if r = 33 then some ⟨[.bx 24 false [.v, .v], .cst 7 (.box 24 0), .sv 143, .sv 144, .sv 145], (.cons (.sl (.int .u8)) (.cons (.int .i64) (.cons (.sl (.int .i64)) (.cons (.int .i64) (.cons (.int .i64) (.nil)))))), []⟩ else none, fun t => if t = 92 then some (true, ⟨[.bx 2 false [.v, .v, .v, .v, .v, .v, .v, .v, .v, .v, .v, .v, .v, .v, .v, .v, .v, .v, .v], .bx 6 false [.v, .v, .v, .v, .v, .v], .bx 24 false [.v, .v], .cst 2 (.box 2 0), .cst 6 (.box 6 0), .cst 7 (.box 24 0)], (.cons (.bool) (.cons (.bool) (.cons (.int .i64) (.cons (.int .i64) (.cons (.bool) (.cons (.int .i64) (.cons (.int .i64) (.cons (.int .i64) (.cons (.sl (.int .i64)) (.cons (.sl (.cons (.int .i64) (.cons (.int .i64) (.cons (.sl (.int .i64)) (.cons (.sl (.int .i64)) (.cons (.sl (.int .i64)) (.nil))))))) (.cons (.sl (.cons (.int .i64) (.cons (.int .i64) (.nil)))) (.cons (.bool) (.cons (.int .u32) (.cons (.bool) (.cons (.sl (.int .i64)) (.cons (.bool) (.cons (.sl (.int .i64)) (.cons (.bool) (.cons (.sl (.int .i64)) (.cons (.int .i64) (.cons (.int .i64) (.cons (.int .i64) (.cons (.sl (.int .i64)) (.cons (.sl (.cons (.int .i64) (.cons (.int .i64) (.cons (.sl (.int .i64)) (.cons (.sl (.int .i64)) (.cons (.sl (.int .i64)) (.nil))))))) (.cons (.sl (.cons (.int .i64) (.cons (.int .i64) (.nil)))) (.cons (.sl (.int .u8)) (.cons (.int .i64) (.nil)))))))))))))))))))))))))))), []⟩) else if t = 107 then some (true, ⟨[.bx 2 false [.v, .v, .v, .v, .v, .v, .v, .v, .v, .v, .v, .v, .v, .v, .v, .v, .v, .v, .v], .bx 24 false [.v, .v], .cst 2 (.box 2 0), .cst 7 (.box 24 0)], (.cons (.bool) (.cons (.bool) (.cons (.int .i64) (.cons (.int .i64) (.cons (.bool) (.cons (.int .i64) (.cons (.int .i64) (.cons (.int .i64) (.cons (.sl (.int .i64)) (.cons (.sl (.cons (.int .i64) (.cons (.int .i64) (.cons (.sl (.int .i64)) (.cons (.sl (.int .i64)) (.cons (.sl (.int .i64)) (.nil))))))) (.cons (.sl (.cons (.int .i64) (.cons (.int .i64) (.nil)))) (.cons (.bool) (.cons (.int .u32) (.cons (.bool) (.cons (.sl (.int .i64)) (.cons (.bool) (.cons (.sl (.int .i64)) (.cons (.bool) (.cons (.sl (.int .i64)) (.cons (.sl (.int .u8)) (.cons (.int .i64) (.nil)))))))))))))))))))))), []⟩) else if t = 139 then some (true, ⟨[.bx 2 false [.v, .v, .v, .v, .v, .v, .v, .v, .v, .v, .v, .v, .v, .v, .v, .v, .v, .v, .v], .bx 24 false [.v, .v], .cst 2 (.box 2 0), .cst 7 (.box 24 0)], (.cons (.bool) (.cons (.bool) (.cons (.int .i64) (.cons (.int .i64) (.cons (.bool) (.cons (.int .i64) (.cons (.int .i64) (.cons (.int .i64) (.cons (.sl (.int .i64)) (.cons (.sl (.cons (.int .i64) (.cons (.int .i64) (.cons (.sl (.int .i64)) (.cons (.sl (.int .i64)) (.cons (.sl (.int .i64)) (.nil))))))) (.cons (.sl (.cons (.int .i64) (.cons (.int .i64) (.nil)))) (.cons (.bool) (.cons (.int .u32) (.cons (.bool) (.cons (.sl (.int .i64)) (.cons (.bool) (.cons (.sl (.int .i64)) (.cons (.bool) (.cons (.sl (.int .i64)) (.cons (.sl (.int .u8)) (.cons (.int .i64) (.nil)))))))))))))))))))))), []⟩) else none, fun i => []⟩
noncomputable def G_av1_Write : Ctx := fun n => if n = 18 then some ⟨in_av1_Right, out_av1_Right, F_av1_Right⟩ else if n = 30 then some ⟨in_av1_structure, out_av1_structure, F_av1_structure⟩ else if n = 31 then some ⟨in_av1_writer_truth, out_av1_writer_truth, F_av1_writer_truth⟩ else if n = 32 then some ⟨in_av1_writer_number, out_av1_writer_number, F_av1_writer_number⟩ else if n = 33 then some ⟨in_templ_Put, out_templ_Put, F_templ_Put⟩ else if n = 34 then some ⟨in_av1_writer_diff, out_av1_writer_diff, F_av1_writer_diff⟩ else none
noncomputable def F_av1_Write : Den (chain (in_av1_Write.map PK.ty)) → Option (Den (chain (out_av1_Write.map OK.ty ++ statesOf in_av1_Write))) := fnK tab G_av1_Write an_av1_Write 1000000 Go.Proofs.Try.f10 (bodyOf Go.Proofs.Try.f10) in_av1_Write out_av1_Write
theorem S_av1_Write : Sound Go.Proofs.Try.prog 10 ⟨in_av1_Write, out_av1_Write, F_av1_Write⟩ := sound_fn tab_ok follows (Γ := G_av1_Write) (fun f con h => by
    unfold G_av1_Write at h
    split at h
    · rename_i e; subst e; cases h; exact S_av1_Right
    split at h
    · rename_i e; subst e; cases h; exact S_av1_structure
    split at h
    · rename_i e; subst e; cases h; exact S_av1_writer_truth
    split at h
    · rename_i e; subst e; cases h; exact S_av1_writer_number
    split at h
    · rename_i e; subst e; cases h; exact S_templ_Put
    split at h
    · rename_i e; subst e; cases h; exact S_av1_writer_diff
    cases h) (by kernel_rfl) (by kernel_rfl) (by kernel_rfl) (by kernel_rfl)
/-- slices.Clone[[]int,int] -/
@[reducible] def in_slices_Clone_int_int : List PK := [.v (.sl (.int .i64))]
@[reducible] def out_slices_Clone_int_int : List OK := [.v (.sl (.int .i64))]
def F_slices_Clone_int_int : Den (chain (in_slices_Clone_int_int.map PK.ty)) → Option (Den (chain (out_slices_Clone_int_int.map OK.ty ++ statesOf in_slices_Clone_int_int))) := fun d => if decide (((([] : List (Den (.int .i64))).length + List.length (α := Den (.int .i64)) d.1) * 8 ≤ 140737488355328)) then some d else none
theorem S_slices_Clone_int_int : Sound Go.Proofs.Try.prog 54 ⟨in_slices_Clone_int_int, out_slices_Clone_int_int, F_slices_Clone_int_int⟩ := clone_sound_v (r0 := cl0 (bodyOf Go.Proofs.Try.f54)) (cA := clA (bodyOf Go.Proofs.Try.f54)) (cB := clB (bodyOf Go.Proofs.Try.f54)) (id := clI (bodyOf Go.Proofs.Try.f54)) (o1 := clO (bodyOf Go.Proofs.Try.f54) 0) (o2 := clO (bodyOf Go.Proofs.Try.f54) 1) (yt := clY (clO (bodyOf Go.Proofs.Try.f54) 1)) (T := 22) (e := 3) (τ := (.int .i64)) (fn := Go.Proofs.Try.f54) tab_ok follows (by kernel_rfl) (by kernel_rfl) (by kernel_rfl) ⟨by kernel_rfl, by kernel_rfl, by kernel_rfl⟩ ⟨by kernel_rfl, by kernel_rfl, by kernel_rfl⟩ (by kernel_rfl) (by kernel_rfl) (fun xs => mkSt (upd (upd (fun _ => .lf .bad) 0 (.lf (.sl (.int .i64) xs))) 2 (.lf .nilsl)) emptyH) (fun xs => ⟨fun _ => rfl, rfl, rfl, rfl⟩) (fun xs => by kernel_rfl) (by kernel_rfl) (fun xs => by kernel_rfl) (by kernel_rfl)
/-- av1.copyOf -/
@[reducible] def in_av1_copyOf : List PK := [.v (.cons (.int .i64) (.cons (.int .i64) (.cons (.sl (.int .i64)) (.cons (.sl (.int .i64)) (.cons (.sl (.int .i64)) (.nil))))))]
@[reducible] def out_av1_copyOf : List OK := [.v (.cons (.int .i64) (.cons (.int .i64) (.cons (.sl (.int .i64)) (.cons (.sl (.int .i64)) (.cons (.sl (.int .i64)) (.nil))))))]
def an_av1_copyOf : Anns := ⟨fun r => none, fun t => none, fun i => []⟩
noncomputable def G_av1_copyOf : Ctx := fun n => if n = 54 then some ⟨in_slices_Clone_int_int, out_slices_Clone_int_int, F_slices_Clone_int_int⟩ else none
noncomputable def F_av1_copyOf : Den (chain (in_av1_copyOf.map PK.ty)) → Option (Den (chain (out_av1_copyOf.map OK.ty ++ statesOf in_av1_copyOf))) := fnK tab G_av1_copyOf an_av1_copyOf 1000000 Go.Proofs.Try.f36 (bodyOf Go.Proofs.Try.f36) in_av1_copyOf out_av1_copyOf
theorem S_av1_copyOf : Sound Go.Proofs.Try.prog 36 ⟨in_av1_copyOf, out_av1_copyOf, F_av1_copyOf⟩ := sound_fn tab_ok follows (Γ := G_av1_copyOf) (fun f con h => by
    unfold G_av1_copyOf at h
    split at h
    · rename_i e; subst e; cases h; exact S_slices_Clone_int_int
    cases h) (by kernel_rfl) (by kernel_rfl) (by kernel_rfl) (by kernel_rfl)
/-- av1.Whole -/
@[reducible] def in_av1_Whole : List PK := [.v (.cons (.bool) (.cons (.bool) (.cons (.int .i64) (.cons (.int .i64) (.cons (.bool) (.cons (.cons (.int .i64) (.cons (.int .i64) (.cons (.int .i64) (.cons (.sl (.int .i64)) (.cons (.sl (.cons (.int .i64) (.cons (.int .i64) (.cons (.sl (.int .i64)) (.cons (.sl (.int .i64)) (.cons (.sl (.int .i64)) (.nil))))))) (.cons (.sl (.cons (.int .i64) (.cons (.int .i64) (.nil)))) (.nil))))))) (.cons (.bool) (.cons (.int .u32) (.cons (.bool) (.cons (.sl (.int .i64)) (.cons (.bool) (.cons (.sl (.int .i64)) (.cons (.bool) (.cons (.sl (.int .i64)) (.nil))))))))))))))), .v (.cons (.int .i64) (.cons (.int .i64) (.cons (.int .i64) (.cons (.sl (.int .i64)) (.cons (.sl (.cons (.int .i64) (.cons (.int .i64) (.cons (.sl (.int .i64)) (.cons (.sl (.int .i64)) (.cons (.sl (.int .i64)) (.nil))))))) (.cons (.sl (.cons (.int .i64) (.cons (.int .i64) (.nil)))) (.nil)))))))]
@[reducible] def out_av1_Whole : List OK := [.v (.cons (.int .i64) (.cons (.int .i64) (.cons (.sl (.int .i64)) (.cons (.sl (.int .i64)) (.cons (.sl (.int .i64)) (.nil)))))), .v (.int .i64)]
def an_av1_Whole : Anns := ⟨fun r => none, fun t => if t = 31 then some (true, ⟨[.bx 2 false [.v, .v, .v, .v, .v, .v, .v, .v, .v, .v, .v, .v, .v, .v, .v, .v, .v, .v, .v], .bx 4 false [.v, .v, .v, .v, .v], .bx 9 false [.v, .v, .v, .v, .v], .cst 2 (.box 2 0), .cst 4 (.box 4 0), .cst 9 (.box 9 0)], (.cons (.bool) (.cons (.bool) (.cons (.int .i64) (.cons (.int .i64) (.cons (.bool) (.cons (.int .i64) (.cons (.int .i64) (.cons (.int .i64) (.cons (.sl (.int .i64)) (.cons (.sl (.cons (.int .i64) (.cons (.int .i64) (.cons (.sl (.int .i64)) (.cons (.sl (.int .i64)) (.cons (.sl (.int .i64)) (.nil))))))) (.cons (.sl (.cons (.int .i64) (.cons (.int .i64) (.nil)))) (.cons (.bool) (.cons (.int .u32) (.cons (.bool) (.cons (.sl (.int .i64)) (.cons (.bool) (.cons (.sl (.int .i64)) (.cons (.bool) (.cons (.sl (.int .i64)) (.cons (.int .i64) (.cons (.int .i64) (.cons (.sl (.int .i64)) (.cons (.sl (.int .i64)) (.cons (.sl (.int .i64)) (.cons (.int .i64) (.cons (.int .i64) (.cons (.sl (.int .i64)) (.cons (.sl (.int .i64)) (.cons (.sl (.int .i64)) (.nil)))))))))))))))))))))))))))))), []⟩) else if t = 36 then some (true, ⟨[.bx 2 false [.v, .v, .v, .v, .v, .v, .v, .v, .v, .v, .v, .v, .v, .v, .v, .v, .v, .v, .v], .bx 4 false [.v, .v, .v, .v, .v], .bx 9 false [.v, .v, .v, .v, .v], .cst 2 (.box 2 0), .cst 4 (.box 4 0), .cst 9 (.box 9 0)], (.cons (.bool) (.cons (.bool) (.cons (.int .i64) (.cons (.int .i64) (.cons (.bool) (.cons (.int .i64) (.cons (.int .i64) (.cons (.int .i64) (.cons (.sl (.int .i64)) (.cons (.sl (.cons (.int .i64) (.cons (.int .i64) (.cons (.sl (.int .i64)) (.cons (.sl (.int .i64)) (.cons (.sl (.int .i64)) (.nil))))))) (.cons (.sl (.cons (.int .i64) (.cons (.int .i64) (.nil)))) (.cons (.bool) (.cons (.int .u32) (.cons (.bool) (.cons (.sl (.int .i64)) (.cons (.bool) (.cons (.sl (.int .i64)) (.cons (.bool) (.cons (.sl (.int .i64)) (.cons (.int .i64) (.cons (.int .i64) (.cons (.sl (.int .i64)) (.cons (.sl (.int .i64)) (.cons (.sl (.int .i64)) (.cons (.int .i64) (.cons (.int .i64) (.cons (.sl (.int .i64)) (.cons (.sl (.int .i64)) (.cons (.sl (.int .i64)) (.nil)))))))))))))))))))))))))))))), []⟩) else if t = 41 then some (true, ⟨[.bx 4 false [.v, .v, .v, .v, .v], .bx 9 false [.v, .v, .v, .v, .v], .cst 4 (.box 4 0), .cst 9 (.box 9 0)], (.cons (.int .i64) (.cons (.int .i64) (.cons (.sl (.int .i64)) (.cons (.sl (.int .i64)) (.cons (.sl (.int .i64)) (.cons (.int .i64) (.cons (.int .i64) (.cons (.sl (.int .i64)) (.cons (.sl (.int .i64)) (.cons (.sl (.int .i64)) (.nil))))))))))), []⟩) else none, fun i => []⟩
noncomputable def G_av1_Whole : Ctx := fun n => if n = 18 then some ⟨in_av1_Right, out_av1_Right, F_av1_Right⟩ else if n = 30 then some ⟨in_av1_structure, out_av1_structure, F_av1_structure⟩ else if n = 35 then some ⟨in_av1_place, out_av1_place, F_av1_place⟩ else if n = 36 then some ⟨in_av1_copyOf, out_av1_copyOf, F_av1_copyOf⟩ else none
noncomputable def F_av1_Whole : Den (chain (in_av1_Whole.map PK.ty)) → Option (Den (chain (out_av1_Whole.map OK.ty ++ statesOf in_av1_Whole))) := fnK tab G_av1_Whole an_av1_Whole 1000000 Go.Proofs.Try.f11 (bodyOf Go.Proofs.Try.f11) in_av1_Whole out_av1_Whole
theorem S_av1_Whole : Sound Go.Proofs.Try.prog 11 ⟨in_av1_Whole, out_av1_Whole, F_av1_Whole⟩ := sound_fn tab_ok follows (Γ := G_av1_Whole) (fun f con h => by
    unfold G_av1_Whole at h
    split at h
    · rename_i e; subst e; cases h; exact S_av1_Right
    split at h
    · rename_i e; subst e; cases h; exact S_av1_structure
    split at h
    · rename_i e; subst e; cases h; exact S_av1_place
    split at h
    · rename_i e; subst e; cases h; exact S_av1_copyOf
    cases h) (by kernel_rfl) (by kernel_rfl) (by kernel_rfl) (by kernel_rfl)
/-- bits.Start -/
@[reducible] def in_bits_Start : List PK := [.v (.sl (.int .u8))]
@[reducible] def out_bits_Start : List OK := [.v (.cons (.sl (.int .u8)) (.cons (.int .i64) (.cons (.int .i64) (.nil))))]
def an_bits_Start : Anns := ⟨fun r => none, fun t => none, fun i => []⟩
noncomputable def G_bits_Start : Ctx := fun n => none
noncomputable def F_bits_Start : Den (chain (in_bits_Start.map PK.ty)) → Option (Den (chain (out_bits_Start.map OK.ty ++ statesOf in_bits_Start))) := fnK tab G_bits_Start an_bits_Start 1000000 Go.Proofs.Try.f42 (bodyOf Go.Proofs.Try.f42) in_bits_Start out_bits_Start
theorem S_bits_Start : Sound Go.Proofs.Try.prog 42 ⟨in_bits_Start, out_bits_Start, F_bits_Start⟩ := sound_fn tab_ok follows (Γ := G_bits_Start) (fun f con h => by
    unfold G_bits_Start at h
    cases h) (by kernel_rfl) (by kernel_rfl) (by kernel_rfl) (by kernel_rfl)
/-- bits.right -/
@[reducible] def in_bits_right : List PK := [.v (.cons (.sl (.int .u8)) (.cons (.int .i64) (.cons (.int .i64) (.nil))))]
@[reducible] def out_bits_right : List OK := [.v (.bool)]
def an_bits_right : Anns := ⟨fun r => none, fun t => none, fun i => []⟩
noncomputable def G_bits_right : Ctx := fun n => none
noncomputable def F_bits_right : Den (chain (in_bits_right.map PK.ty)) → Option (Den (chain (out_bits_right.map OK.ty ++ statesOf in_bits_right))) := fnK tab G_bits_right an_bits_right 1000000 Go.Proofs.Try.f77 (bodyOf Go.Proofs.Try.f77) in_bits_right out_bits_right
theorem S_bits_right : Sound Go.Proofs.Try.prog 77 ⟨in_bits_right, out_bits_right, F_bits_right⟩ := sound_fn tab_ok follows (Γ := G_bits_right) (fun f con h => by
    unfold G_bits_right at h
    cases h) (by kernel_rfl) (by kernel_rfl) (by kernel_rfl) (by kernel_rfl)
/-- bits.Left -/
@[reducible] def in_bits_Left : List PK := [.v (.cons (.sl (.int .u8)) (.cons (.int .i64) (.cons (.int .i64) (.nil))))]
@[reducible] def out_bits_Left : List OK := [.v (.int .i64)]
def an_bits_Left : Anns := ⟨fun r => none, fun t => none, fun i => []⟩
noncomputable def G_bits_Left : Ctx := fun n => if n = 77 then some ⟨in_bits_right, out_bits_right, F_bits_right⟩ else none
noncomputable def F_bits_Left : Den (chain (in_bits_Left.map PK.ty)) → Option (Den (chain (out_bits_Left.map OK.ty ++ statesOf in_bits_Left))) := fnK tab G_bits_Left an_bits_Left 1000000 Go.Proofs.Try.f48 (bodyOf Go.Proofs.Try.f48) in_bits_Left out_bits_Left
theorem S_bits_Left : Sound Go.Proofs.Try.prog 48 ⟨in_bits_Left, out_bits_Left, F_bits_Left⟩ := sound_fn tab_ok follows (Γ := G_bits_Left) (fun f con h => by
    unfold G_bits_Left at h
    split at h
    · rename_i e; subst e; cases h; exact S_bits_right
    cases h) (by kernel_rfl) (by kernel_rfl) (by kernel_rfl) (by kernel_rfl)
/-- bits.fail -/
@[reducible] def in_bits_fail : List PK := [.v (.cons (.sl (.int .u8)) (.cons (.int .i64) (.cons (.int .i64) (.nil)))), .v (.int .i64)]
@[reducible] def out_bits_fail : List OK := [.v (.cons (.sl (.int .u8)) (.cons (.int .i64) (.cons (.int .i64) (.nil))))]
def an_bits_fail : Anns := ⟨fun r => none, fun t => if t = 7 then some (true, ⟨[.bx 2 false [.v, .v, .v], .bx 4 false [.v, .v, .v], .cst 2 (.box 2 0), .cst 4 (.box 4 0)], (.cons (.sl (.int .u8)) (.cons (.int .i64) (.cons (.int .i64) (.cons (.sl (.int .u8)) (.cons (.int .i64) (.cons (.int .i64) (.nil))))))), []⟩) else none, fun i => []⟩
noncomputable def G_bits_fail : Ctx := fun n => none
noncomputable def F_bits_fail : Den (chain (in_bits_fail.map PK.ty)) → Option (Den (chain (out_bits_fail.map OK.ty ++ statesOf in_bits_fail))) := fnK tab G_bits_fail an_bits_fail 1000000 Go.Proofs.Try.f86 (bodyOf Go.Proofs.Try.f86) in_bits_fail out_bits_fail
theorem S_bits_fail : Sound Go.Proofs.Try.prog 86 ⟨in_bits_fail, out_bits_fail, F_bits_fail⟩ := sound_fn tab_ok follows (Γ := G_bits_fail) (fun f con h => by
    unfold G_bits_fail at h
    cases h) (by kernel_rfl) (by kernel_rfl) (by kernel_rfl) (by kernel_rfl)
/-- bits.look -/
@[reducible] def in_bits_look : List PK := [.v (.sl (.int .u8)), .v (.int .i64), .v (.int .i64)]
@[reducible] def out_bits_look : List OK := [.v (.int .u64)]
def an_bits_look : Anns := ⟨fun r => if r = 2 then some ⟨[.sv 0, .sv 1, .sv 2, .sv 7], (.cons (.sl (.int .u8)) (.cons (.int .i64) (.cons (.int .i64) (.cons (.int .u64) (.nil))))), []⟩ else none, fun t => none, fun i => []⟩
noncomputable def G_bits_look : Ctx := fun n => none
noncomputable def F_bits_look : Den (chain (in_bits_look.map PK.ty)) → Option (Den (chain (out_bits_look.map OK.ty ++ statesOf in_bits_look))) := fnK tab G_bits_look an_bits_look 1000000 Go.Proofs.Try.f87 (bodyOf Go.Proofs.Try.f87) in_bits_look out_bits_look
theorem S_bits_look : Sound Go.Proofs.Try.prog 87 ⟨in_bits_look, out_bits_look, F_bits_look⟩ := sound_fn tab_ok follows (Γ := G_bits_look) (fun f con h => by
    unfold G_bits_look at h
    cases h) (by kernel_rfl) (by kernel_rfl) (by kernel_rfl) (by kernel_rfl)
/-- bits.Get -/
@[reducible] def in_bits_Get : List PK := [.v (.cons (.sl (.int .u8)) (.cons (.int .i64) (.cons (.int .i64) (.nil)))), .v (.int .i64)]
@[reducible] def out_bits_Get : List OK := [.v (.cons (.sl (.int .u8)) (.cons (.int .i64) (.cons (.int .i64) (.nil)))), .v (.int .u64)]
def an_bits_Get : Anns := ⟨fun r => none, fun t => none, fun i => []⟩
noncomputable def G_bits_Get : Ctx := fun n => if n = 48 then some ⟨in_bits_Left, out_bits_Left, F_bits_Left⟩ else if n = 77 then some ⟨in_bits_right, out_bits_right, F_bits_right⟩ else if n = 86 then some ⟨in_bits_fail, out_bits_fail, F_bits_fail⟩ else if n = 87 then some ⟨in_bits_look, out_bits_look, F_bits_look⟩ else none
noncomputable def F_bits_Get : Den (chain (in_bits_Get.map PK.ty)) → Option (Den (chain (out_bits_Get.map OK.ty ++ statesOf in_bits_Get))) := fnK tab G_bits_Get an_bits_Get 1000000 Go.Proofs.Try.f74 (bodyOf Go.Proofs.Try.f74) in_bits_Get out_bits_Get
theorem S_bits_Get : Sound Go.Proofs.Try.prog 74 ⟨in_bits_Get, out_bits_Get, F_bits_Get⟩ := sound_fn tab_ok follows (Γ := G_bits_Get) (fun f con h => by
    unfold G_bits_Get at h
    split at h
    · rename_i e; subst e; cases h; exact S_bits_Left
    split at h
    · rename_i e; subst e; cases h; exact S_bits_right
    split at h
    · rename_i e; subst e; cases h; exact S_bits_fail
    split at h
    · rename_i e; subst e; cases h; exact S_bits_look
    cases h) (by kernel_rfl) (by kernel_rfl) (by kernel_rfl) (by kernel_rfl)
/-- (*av1.reader).number -/
@[reducible] def in_av1_reader_number : List PK := [.p false (.cons (.cons (.sl (.int .u8)) (.cons (.int .i64) (.cons (.int .i64) (.nil)))) (.nil)), .v (.int .i64)]
@[reducible] def out_av1_reader_number : List OK := [.v (.int .i64)]
def an_av1_reader_number : Anns := ⟨fun r => none, fun t => none, fun i => []⟩
noncomputable def G_av1_reader_number : Ctx := fun n => if n = 74 then some ⟨in_bits_Get, out_bits_Get, F_bits_Get⟩ else none
noncomputable def F_av1_reader_number : Den (chain (in_av1_reader_number.map PK.ty)) → Option (Den (chain (out_av1_reader_number.map OK.ty ++ statesOf in_av1_reader_number))) := fnK tab G_av1_reader_number an_av1_reader_number 1000000 Go.Proofs.Try.f44 (bodyOf Go.Proofs.Try.f44) in_av1_reader_number out_av1_reader_number
theorem S_av1_reader_number : Sound Go.Proofs.Try.prog 44 ⟨in_av1_reader_number, out_av1_reader_number, F_av1_reader_number⟩ := sound_fn tab_ok follows (Γ := G_av1_reader_number) (fun f con h => by
    unfold G_av1_reader_number at h
    split at h
    · rename_i e; subst e; cases h; exact S_bits_Get
    cases h) (by kernel_rfl) (by kernel_rfl) (by kernel_rfl) (by kernel_rfl)
/-- (*av1.reader).truth -/
@[reducible] def in_av1_reader_truth : List PK := [.p false (.cons (.cons (.sl (.int .u8)) (.cons (.int .i64) (.cons (.int .i64) (.nil)))) (.nil))]
@[reducible] def out_av1_reader_truth : List OK := [.v (.bool)]
def an_av1_reader_truth : Anns := ⟨fun r => none, fun t => none, fun i => []⟩
noncomputable def G_av1_reader_truth : Ctx := fun n => if n = 44 then some ⟨in_av1_reader_number, out_av1_reader_number, F_av1_reader_number⟩ else none
noncomputable def F_av1_reader_truth : Den (chain (in_av1_reader_truth.map PK.ty)) → Option (Den (chain (out_av1_reader_truth.map OK.ty ++ statesOf in_av1_reader_truth))) := fnK tab G_av1_reader_truth an_av1_reader_truth 1000000 Go.Proofs.Try.f43 (bodyOf Go.Proofs.Try.f43) in_av1_reader_truth out_av1_reader_truth
theorem S_av1_reader_truth : Sound Go.Proofs.Try.prog 43 ⟨in_av1_reader_truth, out_av1_reader_truth, F_av1_reader_truth⟩ := sound_fn tab_ok follows (Γ := G_av1_reader_truth) (fun f con h => by
    unfold G_av1_reader_truth at h
    split at h
    · rename_i e; subst e; cases h; exact S_av1_reader_number
    cases h) (by kernel_rfl) (by kernel_rfl) (by kernel_rfl) (by kernel_rfl)
/-- (*templ.reader).number -/
@[reducible] def in_templ_reader_number : List PK := [.p false (.cons (.cons (.sl (.int .u8)) (.cons (.int .i64) (.cons (.int .i64) (.nil)))) (.nil)), .v (.int .i64)]
@[reducible] def out_templ_reader_number : List OK := [.v (.int .i64)]
def an_templ_reader_number : Anns := ⟨fun r => none, fun t => none, fun i => []⟩
noncomputable def G_templ_reader_number : Ctx := fun n => if n = 74 then some ⟨in_bits_Get, out_bits_Get, F_bits_Get⟩ else none
noncomputable def F_templ_reader_number : Den (chain (in_templ_reader_number.map PK.ty)) → Option (Den (chain (out_templ_reader_number.map OK.ty ++ statesOf in_templ_reader_number))) := fnK tab G_templ_reader_number an_templ_reader_number 1000000 Go.Proofs.Try.f88 (bodyOf Go.Proofs.Try.f88) in_templ_reader_number out_templ_reader_number
theorem S_templ_reader_number : Sound Go.Proofs.Try.prog 88 ⟨in_templ_reader_number, out_templ_reader_number, F_templ_reader_number⟩ := sound_fn tab_ok follows (Γ := G_templ_reader_number) (fun f con h => by
    unfold G_templ_reader_number at h
    split at h
    · rename_i e; subst e; cases h; exact S_bits_Get
    cases h) (by kernel_rfl) (by kernel_rfl) (by kernel_rfl) (by kernel_rfl)
/-- (*templ.reader).ok -/
@[reducible] def in_templ_reader_ok : List PK := [.p true (.cons (.cons (.sl (.int .u8)) (.cons (.int .i64) (.cons (.int .i64) (.nil)))) (.nil))]
@[reducible] def out_templ_reader_ok : List OK := [.v (.bool)]
def an_templ_reader_ok : Anns := ⟨fun r => none, fun t => none, fun i => []⟩
noncomputable def G_templ_reader_ok : Ctx := fun n => none
noncomputable def F_templ_reader_ok : Den (chain (in_templ_reader_ok.map PK.ty)) → Option (Den (chain (out_templ_reader_ok.map OK.ty ++ statesOf in_templ_reader_ok))) := fnK tab G_templ_reader_ok an_templ_reader_ok 1000000 Go.Proofs.Try.f76 (bodyOf Go.Proofs.Try.f76) in_templ_reader_ok out_templ_reader_ok
theorem S_templ_reader_ok : Sound Go.Proofs.Try.prog 76 ⟨in_templ_reader_ok, out_templ_reader_ok, F_templ_reader_ok⟩ := sound_fn tab_ok follows (Γ := G_templ_reader_ok) (fun f con h => by
    unfold G_templ_reader_ok at h
    cases h) (by kernel_rfl) (by kernel_rfl) (by kernel_rfl) (by kernel_rfl)
/-- (*templ.reader).wrong -/
@[reducible] def in_templ_reader_wrong : List PK := [.p false (.cons (.cons (.sl (.int .u8)) (.cons (.int .i64) (.cons (.int .i64) (.nil)))) (.nil))]
@[reducible] def out_templ_reader_wrong : List OK := []
def an_templ_reader_wrong : Anns := ⟨fun r => none, fun t => if t = 3 then some (true, ⟨[.bx 1000 false [.v, .v, .v], .cst 0 (.box 1000 0)], (.cons (.sl (.int .u8)) (.cons (.int .i64) (.cons (.int .i64) (.nil)))), []⟩) else none, fun i => []⟩
noncomputable def G_templ_reader_wrong : Ctx := fun n => if n = 76 then some ⟨in_templ_reader_ok, out_templ_reader_ok, F_templ_reader_ok⟩ else none
noncomputable def F_templ_reader_wrong : Den (chain (in_templ_reader_wrong.map PK.ty)) → Option (Den (chain (out_templ_reader_wrong.map OK.ty ++ statesOf in_templ_reader_wrong))) := fnK tab G_templ_reader_wrong an_templ_reader_wrong 1000000 Go.Proofs.Try.f101 (bodyOf Go.Proofs.Try.f101) in_templ_reader_wrong out_templ_reader_wrong
theorem S_templ_reader_wrong : Sound Go.Proofs.Try.prog 101 ⟨in_templ_reader_wrong, out_templ_reader_wrong, F_templ_reader_wrong⟩ := sound_fn tab_ok follows (Γ := G_templ_reader_wrong) (fun f con h => by
    unfold G_templ_reader_wrong at h
    split at h
    · rename_i e; subst e; cases h; exact S_templ_reader_ok
    cases h) (by kernel_rfl) (by kernel_rfl) (by kernel_rfl) (by kernel_rfl)
/-- (*templ.reader).layers -/
@[reducible] def in_templ_reader_layers : List PK := [.p false (.cons (.cons (.sl (.int .u8)) (.cons (.int .i64) (.cons (.int .i64) (.nil)))) (.nil))]
@[reducible] def out_templ_reader_layers : List OK := [.o 39 (.cons (.int .i64) (.cons (.int .i64) (.cons (.sl (.int .i64)) (.cons (.sl (.int .i64)) (.cons (.sl (.int .i64)) (.nil))))))]
def an_templ_reader_layers : Anns := ⟨fun r => if r = 2 then some ⟨[.bx 1000 false [.v, .v, .v], .cst 0 (.box 1000 0), .row 3 100003 39], (.cons (.sl (.int .u8)) (.cons (.int .i64) (.cons (.int .i64) (.cons (.sl (.cons (.int .i64) (.cons (.int .i64) (.cons (.sl (.int .i64)) (.cons (.sl (.int .i64)) (.cons (.sl (.int .i64)) (.nil))))))) (.nil))))), []⟩ else none, fun t => if t = 26 then some (true, ⟨[.bx 1000 false [.v, .v, .v], .bx 5 false [.v, .v, .v, .v, .v], .cst 0 (.box 1000 0), .row 3 100003 39, .sv 4, .cst 5 (.box 5 0)], (.cons (.sl (.int .u8)) (.cons (.int .i64) (.cons (.int .i64) (.cons (.int .i64) (.cons (.int .i64) (.cons (.sl (.int .i64)) (.cons (.sl (.int .i64)) (.cons (.sl (.int .i64)) (.cons (.sl (.cons (.int .i64) (.cons (.int .i64) (.cons (.sl (.int .i64)) (.cons (.sl (.int .i64)) (.cons (.sl (.int .i64)) (.nil))))))) (.cons (.int .i64) (.nil))))))))))), []⟩) else if t = 32 then some (true, ⟨[.bx 1000 false [.v, .v, .v], .bx 5 false [.v, .v, .v, .v, .v], .cst 0 (.box 1000 0), .row 3 100003 39, .sv 4, .cst 5 (.box 5 0)], (.cons (.sl (.int .u8)) (.cons (.int .i64) (.cons (.int .i64) (.cons (.int .i64) (.cons (.int .i64) (.cons (.sl (.int .i64)) (.cons (.sl (.int .i64)) (.cons (.sl (.int .i64)) (.cons (.sl (.cons (.int .i64) (.cons (.int .i64) (.cons (.sl (.int .i64)) (.cons (.sl (.int .i64)) (.cons (.sl (.int .i64)) (.nil))))))) (.cons (.int .i64) (.nil))))))))))), []⟩) else none, fun i => []⟩
noncomputable def G_templ_reader_layers : Ctx := fun n => if n = 76 then some ⟨in_templ_reader_ok, out_templ_reader_ok, F_templ_reader_ok⟩ else if n = 88 then some ⟨in_templ_reader_number, out_templ_reader_number, F_templ_reader_number⟩ else if n = 101 then some ⟨in_templ_reader_wrong, out_templ_reader_wrong, F_templ_reader_wrong⟩ else none
noncomputable def F_templ_reader_layers : Den (chain (in_templ_reader_layers.map PK.ty)) → Option (Den (chain (out_templ_reader_layers.map OK.ty ++ statesOf in_templ_reader_layers))) := fnK tab G_templ_reader_layers an_templ_reader_layers 1000000 Go.Proofs.Try.f89 (bodyOf Go.Proofs.Try.f89) in_templ_reader_layers out_templ_reader_layers
theorem S_templ_reader_layers : Sound Go.Proofs.Try.prog 89 ⟨in_templ_reader_layers, out_templ_reader_layers, F_templ_reader_layers⟩ := sound_fn tab_ok follows (Γ := G_templ_reader_layers) (fun f con h => by
    unfold G_templ_reader_layers at h
    split at h
    · rename_i e; subst e; cases h; exact S_templ_reader_ok
    split at h
    · rename_i e; subst e; cases h; exact S_templ_reader_number
    split at h
    · rename_i e; subst e; cases h; exact S_templ_reader_wrong
    cases h) (by kernel_rfl) (by kernel_rfl) (by kernel_rfl) (by kernel_rfl)
/-- (*templ.reader).diffs -/
@[reducible] def in_templ_reader_diffs : List PK := [.p false (.cons (.cons (.sl (.int .u8)) (.cons (.int .i64) (.cons (.int .i64) (.nil)))) (.nil))]
@[reducible] def out_templ_reader_diffs : List OK := [.v (.sl (.int .i64))]
def an_templ_reader_diffs : Anns := ⟨fun r => if r = 2 then some ⟨[.bx 1000 false [.v, .v, .v], .cst 0 (.box 1000 0), .row 3 100003 3], (.cons (.sl (.int .u8)) (.cons (.int .i64) (.cons (.int .i64) (.cons (.sl (.int .i64)) (.nil))))), []⟩ else none, fun t => none, fun i => []⟩
noncomputable def G_templ_reader_diffs : Ctx := fun n => if n = 88 then some ⟨in_templ_reader_number, out_templ_reader_number, F_templ_reader_number⟩ else if n = 101 then some ⟨in_templ_reader_wrong, out_templ_reader_wrong, F_templ_reader_wrong⟩ else none
noncomputable def F_templ_reader_diffs : Den (chain (in_templ_reader_diffs.map PK.ty)) → Option (Den (chain (out_templ_reader_diffs.map OK.ty ++ statesOf in_templ_reader_diffs))) := fnK tab G_templ_reader_diffs an_templ_reader_diffs 1000000 Go.Proofs.Try.f92 (bodyOf Go.Proofs.Try.f92) in_templ_reader_diffs out_templ_reader_diffs
theorem S_templ_reader_diffs : Sound Go.Proofs.Try.prog 92 ⟨in_templ_reader_diffs, out_templ_reader_diffs, F_templ_reader_diffs⟩ := sound_fn tab_ok follows (Γ := G_templ_reader_diffs) (fun f con h => by
    unfold G_templ_reader_diffs at h
    split at h
    · rename_i e; subst e; cases h; exact S_templ_reader_number
    split at h
    · rename_i e; subst e; cases h; exact S_templ_reader_wrong
    cases h) (by kernel_rfl) (by kernel_rfl) (by kernel_rfl) (by kernel_rfl)
/-- bits.Range -/
@[reducible] def in_bits_Range : List PK := [.v (.cons (.sl (.int .u8)) (.cons (.int .i64) (.cons (.int .i64) (.nil)))), .v (.int .u64)]
@[reducible] def out_bits_Range : List OK := [.v (.cons (.sl (.int .u8)) (.cons (.int .i64) (.cons (.int .i64) (.nil)))), .v (.int .u64)]
def an_bits_Range : Anns := ⟨fun r => none, fun t => none, fun i => []⟩
noncomputable def G_bits_Range : Ctx := fun n => if n = 48 then some ⟨in_bits_Left, out_bits_Left, F_bits_Left⟩ else if n = 77 then some ⟨in_bits_right, out_bits_right, F_bits_right⟩ else if n = 86 then some ⟨in_bits_fail, out_bits_fail, F_bits_fail⟩ else if n = 87 then some ⟨in_bits_look, out_bits_look, F_bits_look⟩ else if n = 104 then some ⟨in_bits_shape, out_bits_shape, F_bits_shape⟩ else none
noncomputable def F_bits_Range : Den (chain (in_bits_Range.map PK.ty)) → Option (Den (chain (out_bits_Range.map OK.ty ++ statesOf in_bits_Range))) := fnK tab G_bits_Range an_bits_Range 1000000 Go.Proofs.Try.f102 (bodyOf Go.Proofs.Try.f102) in_bits_Range out_bits_Range
theorem S_bits_Range : Sound Go.Proofs.Try.prog 102 ⟨in_bits_Range, out_bits_Range, F_bits_Range⟩ := sound_fn tab_ok follows (Γ := G_bits_Range) (fun f con h => by
    unfold G_bits_Range at h
    split at h
    · rename_i e; subst e; cases h; exact S_bits_Left
    split at h
    · rename_i e; subst e; cases h; exact S_bits_right
    split at h
    · rename_i e; subst e; cases h; exact S_bits_fail
    split at h
    · rename_i e; subst e; cases h; exact S_bits_look
    split at h
    · rename_i e; subst e; cases h; exact S_bits_shape
    cases h) (by kernel_rfl) (by kernel_rfl) (by kernel_rfl) (by kernel_rfl)
/-- (*templ.reader).ranged -/
@[reducible] def in_templ_reader_ranged : List PK := [.p false (.cons (.cons (.sl (.int .u8)) (.cons (.int .i64) (.cons (.int .i64) (.nil)))) (.nil)), .v (.int .i64)]
@[reducible] def out_templ_reader_ranged : List OK := [.v (.int .i64)]
def an_templ_reader_ranged : Anns := ⟨fun r => none, fun t => none, fun i => []⟩
noncomputable def G_templ_reader_ranged : Ctx := fun n => if n = 102 then some ⟨in_bits_Range, out_bits_Range, F_bits_Range⟩ else none
noncomputable def F_templ_reader_ranged : Den (chain (in_templ_reader_ranged.map PK.ty)) → Option (Den (chain (out_templ_reader_ranged.map OK.ty ++ statesOf in_templ_reader_ranged))) := fnK tab G_templ_reader_ranged an_templ_reader_ranged 1000000 Go.Proofs.Try.f93 (bodyOf Go.Proofs.Try.f93) in_templ_reader_ranged out_templ_reader_ranged
theorem S_templ_reader_ranged : Sound Go.Proofs.Try.prog 93 ⟨in_templ_reader_ranged, out_templ_reader_ranged, F_templ_reader_ranged⟩ := sound_fn tab_ok follows (Γ := G_templ_reader_ranged) (fun f con h => by
    unfold G_templ_reader_ranged at h
    split at h
    · rename_i e; subst e; cases h; exact S_bits_Range
    cases h) (by kernel_rfl) (by kernel_rfl) (by kernel_rfl) (by kernel_rfl)
/-- (*templ.reader).read$1 -/
@[reducible] def in_templ_reader_read_1 : List PK := [.p false (.cons (.cons (.sl (.int .u8)) (.cons (.int .i64) (.cons (.int .i64) (.nil)))) (.nil)), .q none [.ptr 0]]
@[reducible] def out_templ_reader_read_1 : List OK := [.v (.int .i64)]
def an_templ_reader_read_1 : Anns := ⟨fun r => none, fun t => none, fun i => []⟩
noncomputable def G_templ_reader_read_1 : Ctx := fun n => if n = 88 then some ⟨in_templ_reader_number, out_templ_reader_number, F_templ_reader_number⟩ else none
noncomputable def F_templ_reader_read_1 : Den (chain (in_templ_reader_read_1.map PK.ty)) → Option (Den (chain (out_templ_reader_read_1.map OK.ty ++ statesOf in_templ_reader_read_1))) := fnK tab G_templ_reader_read_1 an_templ_reader_read_1 1000000 Go.Proofs.Try.f91 (bodyOf Go.Proofs.Try.f91) in_templ_reader_read_1 out_templ_reader_read_1
theorem S_templ_reader_read_1 : Sound Go.Proofs.Try.prog 91 ⟨in_templ_reader_read_1, out_templ_reader_read_1, F_templ_reader_read_1⟩ := sound_fn tab_ok follows (Γ := G_templ_reader_read_1) (fun f con h => by
    unfold G_templ_reader_read_1 at h
    split at h
    · rename_i e; subst e; cases h; exact S_templ_reader_number
    cases h) (by kernel_rfl) (by kernel_rfl) (by kernel_rfl) (by kernel_rfl)
/-- (*templ.reader).list -/
@[reducible] def in_templ_reader_list__templ_reader_read_1 : List PK := [.p false (.cons (.cons (.sl (.int .u8)) (.cons (.int .i64) (.cons (.int .i64) (.nil)))) (.nil)), .v (.int .i64), .q (some 91) [.ptr 0]]
@[reducible] def out_templ_reader_list__templ_reader_read_1 : List OK := [.v (.sl (.int .i64))]
def an_templ_reader_list__templ_reader_read_1 : Anns := ⟨fun r => if r = 3 then some ⟨[.bx 1000 false [.v, .v, .v], .bx 820 true [.cst (.box 1000 0)], .cst 0 (.box 1000 0), .sv 1, .cst 2 (.clo 91 [820]), .row 7 100007 3, .sv 8], (.cons (.sl (.int .u8)) (.cons (.int .i64) (.cons (.int .i64) (.cons (.int .i64) (.cons (.sl (.int .i64)) (.cons (.int .i64) (.nil))))))), []⟩ else none, fun t => none, fun i => []⟩
noncomputable def G_templ_reader_list__templ_reader_read_1 : Ctx := fun n => if n = 76 then some ⟨in_templ_reader_ok, out_templ_reader_ok, F_templ_reader_ok⟩ else if n = 91 then some ⟨in_templ_reader_read_1, out_templ_reader_read_1, F_templ_reader_read_1⟩ else none
noncomputable def F_templ_reader_list__templ_reader_read_1 : Den (chain (in_templ_reader_list__templ_reader_read_1.map PK.ty)) → Option (Den (chain (out_templ_reader_list__templ_reader_read_1.map OK.ty ++ statesOf in_templ_reader_list__templ_reader_read_1))) := fnK tab G_templ_reader_list__templ_reader_read_1 an_templ_reader_list__templ_reader_read_1 1000000 Go.Proofs.Try.f90 (bodyOf Go.Proofs.Try.f90) in_templ_reader_list__templ_reader_read_1 out_templ_reader_list__templ_reader_read_1
theorem S_templ_reader_list__templ_reader_read_1 : Sound Go.Proofs.Try.prog 90 ⟨in_templ_reader_list__templ_reader_read_1, out_templ_reader_list__templ_reader_read_1, F_templ_reader_list__templ_reader_read_1⟩ := sound_fn tab_ok follows (Γ := G_templ_reader_list__templ_reader_read_1) (fun f con h => by
    unfold G_templ_reader_list__templ_reader_read_1 at h
    split at h
    · rename_i e; subst e; cases h; exact S_templ_reader_ok
    split at h
    · rename_i e; subst e; cases h; exact S_templ_reader_read_1
    cases h) (by kernel_rfl) (by kernel_rfl) (by kernel_rfl) (by kernel_rfl)
/-- (*templ.reader).read$2 -/
@[reducible] def in_templ_reader_read_2 : List PK := [.p false (.cons (.cons (.sl (.int .u8)) (.cons (.int .i64) (.cons (.int .i64) (.nil)))) (.nil)), .q none [.ptr 0], .q none [.dat [none, none, some (.int .i64), none, none, none]]]
@[reducible] def out_templ_reader_read_2 : List OK := [.v (.int .i64)]
def an_templ_reader_read_2 : Anns := ⟨fun r => none, fun t => none, fun i => []⟩
noncomputable def G_templ_reader_read_2 : Ctx := fun n => if n = 93 then some ⟨in_templ_reader_ranged, out_templ_reader_ranged, F_templ_reader_ranged⟩ else none
noncomputable def F_templ_reader_read_2 : Den (chain (in_templ_reader_read_2.map PK.ty)) → Option (Den (chain (out_templ_reader_read_2.map OK.ty ++ statesOf in_templ_reader_read_2))) := fnK tab G_templ_reader_read_2 an_templ_reader_read_2 1000000 Go.Proofs.Try.f94 (bodyOf Go.Proofs.Try.f94) in_templ_reader_read_2 out_templ_reader_read_2
theorem S_templ_reader_read_2 : Sound Go.Proofs.Try.prog 94 ⟨in_templ_reader_read_2, out_templ_reader_read_2, F_templ_reader_read_2⟩ := sound_fn tab_ok follows (Γ := G_templ_reader_read_2) (fun f con h => by
    unfold G_templ_reader_read_2 at h
    split at h
    · rename_i e; subst e; cases h; exact S_templ_reader_ranged
    cases h) (by kernel_rfl) (by kernel_rfl) (by kernel_rfl) (by kernel_rfl)
/-- (*templ.reader).list -/
@[reducible] def in_templ_reader_list__templ_reader_read_2 : List PK := [.p false (.cons (.cons (.sl (.int .u8)) (.cons (.int .i64) (.cons (.int .i64) (.nil)))) (.nil)), .v (.int .i64), .q (some 94) [.ptr 0, .dat [none, none, some (.int .i64), none, none, none]]]
@[reducible] def out_templ_reader_list__templ_reader_read_2 : List OK := [.v (.sl (.int .i64))]
def an_templ_reader_list__templ_reader_read_2 : Anns := ⟨fun r => if r = 3 then some ⟨[.bx 1000 false [.v, .v, .v], .bx 820 true [.cst (.box 1000 0)], .bx 821 true [.cst .bad, .cst .bad, .v, .cst .bad, .cst .bad, .cst .bad], .cst 0 (.box 1000 0), .sv 1, .cst 2 (.clo 94 [820, 821]), .row 7 100007 3, .sv 8], (.cons (.sl (.int .u8)) (.cons (.int .i64) (.cons (.int .i64) (.cons (.int .i64) (.cons (.int .i64) (.cons (.sl (.int .i64)) (.cons (.int .i64) (.nil)))))))), []⟩ else none, fun t => none, fun i => []⟩
noncomputable def G_templ_reader_list__templ_reader_read_2 : Ctx := fun n => if n = 76 then some ⟨in_templ_reader_ok, out_templ_reader_ok, F_templ_reader_ok⟩ else if n = 94 then some ⟨in_templ_reader_read_2, out_templ_reader_read_2, F_templ_reader_read_2⟩ else none
noncomputable def F_templ_reader_list__templ_reader_read_2 : Den (chain (in_templ_reader_list__templ_reader_read_2.map PK.ty)) → Option (Den (chain (out_templ_reader_list__templ_reader_read_2.map OK.ty ++ statesOf in_templ_reader_list__templ_reader_read_2))) := fnK tab G_templ_reader_list__templ_reader_read_2 an_templ_reader_list__templ_reader_read_2 1000000 Go.Proofs.Try.f90 (bodyOf Go.Proofs.Try.f90) in_templ_reader_list__templ_reader_read_2 out_templ_reader_list__templ_reader_read_2
theorem S_templ_reader_list__templ_reader_read_2 : Sound Go.Proofs.Try.prog 90 ⟨in_templ_reader_list__templ_reader_read_2, out_templ_reader_list__templ_reader_read_2, F_templ_reader_list__templ_reader_read_2⟩ := sound_fn tab_ok follows (Γ := G_templ_reader_list__templ_reader_read_2) (fun f con h => by
    unfold G_templ_reader_list__templ_reader_read_2 at h
    split at h
    · rename_i e; subst e; cases h; exact S_templ_reader_ok
    split at h
    · rename_i e; subst e; cases h; exact S_templ_reader_read_2
    cases h) (by kernel_rfl) (by kernel_rfl) (by kernel_rfl) (by kernel_rfl)
/-- (*templ.reader).read$3 -/
@[reducible] def in_templ_reader_read_3 : List PK := [.p false (.cons (.cons (.sl (.int .u8)) (.cons (.int .i64) (.cons (.int .i64) (.nil)))) (.nil)), .q none [.ptr 0]]
@[reducible] def out_templ_reader_read_3 : List OK := [.v (.int .i64)]
def an_templ_reader_read_3 : Anns := ⟨fun r => none, fun t => none, fun i => []⟩
noncomputable def G_templ_reader_read_3 : Ctx := fun n => if n = 88 then some ⟨in_templ_reader_number, out_templ_reader_number, F_templ_reader_number⟩ else none
noncomputable def F_templ_reader_read_3 : Den (chain (in_templ_reader_read_3.map PK.ty)) → Option (Den (chain (out_templ_reader_read_3.map OK.ty ++ statesOf in_templ_reader_read_3))) := fnK tab G_templ_reader_read_3 an_templ_reader_read_3 1000000 Go.Proofs.Try.f95 (bodyOf Go.Proofs.Try.f95) in_templ_reader_read_3 out_templ_reader_read_3
theorem S_templ_reader_read_3 : Sound Go.Proofs.Try.prog 95 ⟨in_templ_reader_read_3, out_templ_reader_read_3, F_templ_reader_read_3⟩ := sound_fn tab_ok follows (Γ := G_templ_reader_read_3) (fun f con h => by
    unfold G_templ_reader_read_3 at h
    split at h
    · rename_i e; subst e; cases h; exact S_templ_reader_number
    cases h) (by kernel_rfl) (by kernel_rfl) (by kernel_rfl) (by kernel_rfl)
/-- (*templ.reader).list -/
@[reducible] def in_templ_reader_list__templ_reader_read_3 : List PK := [.p false (.cons (.cons (.sl (.int .u8)) (.cons (.int .i64) (.cons (.int .i64) (.nil)))) (.nil)), .v (.int .i64), .q (some 95) [.ptr 0]]
@[reducible] def out_templ_reader_list__templ_reader_read_3 : List OK := [.v (.sl (.int .i64))]
def an_templ_reader_list__templ_reader_read_3 : Anns := ⟨fun r => if r = 3 then some ⟨[.bx 1000 false [.v, .v, .v], .bx 820 true [.cst (.box 1000 0)], .cst 0 (.box 1000 0), .sv 1, .cst 2 (.clo 95 [820]), .row 7 100007 3, .sv 8], (.cons (.sl (.int .u8)) (.cons (.int .i64) (.cons (.int .i64) (.cons (.int .i64) (.cons (.sl (.int .i64)) (.cons (.int .i64) (.nil))))))), []⟩ else none, fun t => none, fun i => []⟩
noncomputable def G_templ_reader_list__templ_reader_read_3 : Ctx := fun n => if n = 76 then some ⟨in_templ_reader_ok, out_templ_reader_ok, F_templ_reader_ok⟩ else if n = 95 then some ⟨in_templ_reader_read_3, out_templ_reader_read_3, F_templ_reader_read_3⟩ else none
noncomputable def F_templ_reader_list__templ_reader_read_3 : Den (chain (in_templ_reader_list__templ_reader_read_3.map PK.ty)) → Option (Den (chain (out_templ_reader_list__templ_reader_read_3.map OK.ty ++ statesOf in_templ_reader_list__templ_reader_read_3))) := fnK tab G_templ_reader_list__templ_reader_read_3 an_templ_reader_list__templ_reader_read_3 1000000 Go.Proofs.Try.f90 (bodyOf Go.Proofs.Try.f90) in_templ_reader_list__templ_reader_read_3 out_templ_reader_list__templ_reader_read_3
theorem S_templ_reader_list__templ_reader_read_3 : Sound Go.Proofs.Try.prog 90 ⟨in_templ_reader_list__templ_reader_read_3, out_templ_reader_list__templ_reader_read_3, F_templ_reader_list__templ_reader_read_3⟩ := sound_fn tab_ok follows (Γ := G_templ_reader_list__templ_reader_read_3) (fun f con h => by
    unfold G_templ_reader_list__templ_reader_read_3 at h
    split at h
    · rename_i e; subst e; cases h; exact S_templ_reader_ok
    split at h
    · rename_i e; subst e; cases h; exact S_templ_reader_read_3
    cases h) (by kernel_rfl) (by kernel_rfl) (by kernel_rfl) (by kernel_rfl)
/-- (*templ.reader).read -/
@[reducible] def in_templ_reader_read : List PK := [.p false (.cons (.cons (.sl (.int .u8)) (.cons (.int .i64) (.cons (.int .i64) (.nil)))) (.nil))]
@[reducible] def out_templ_reader_read : List OK := [.v (.cons (.int .i64) (.cons (.int .i64) (.cons (.int .i64) (.cons (.sl (.int .i64)) (.cons (.sl (.cons (.int .i64) (.cons (.int .i64) (.cons (.sl (.int .i64)) (.cons (.sl (.int .i64)) (.cons (.sl (.int .i64)) (.nil))))))) (.cons (.sl (.cons (.int .i64) (.cons (.int .i64) (.nil)))) (.nil)))))))]
def an_templ_reader_read : Anns := ⟨fun r => if r = 5 then some ⟨[.bx 1000 false [.v, .v, .v], .bx 1 false [.cst (.box 1000 0)], .bx 2 false [.v, .v, .v, .cst .nilsl, .cst .nilsl, .cst .nilsl], .bx 3 false [.v, .v, .v, .cst .nilsl, .row 200304 39, .cst .nilsl], .cst 0 (.box 1000 0), .cst 1 (.box 1 0), .cst 2 (.box 2 0), .cst 3 (.box 3 0), .sv 20, .sv 21], (.cons (.sl (.int .u8)) (.cons (.int .i64) (.cons (.int .i64) (.cons (.int .i64) (.cons (.int .i64) (.cons (.int .i64) (.cons (.int .i64) (.cons (.int .i64) (.cons (.int .i64) (.cons (.sl (.cons (.int .i64) (.cons (.int .i64) (.cons (.sl (.int .i64)) (.cons (.sl (.int .i64)) (.cons (.sl (.int .i64)) (.nil))))))) (.cons (.int .i64) (.cons (.int .i64) (.nil))))))))))))), []⟩ else if r = 10 then some ⟨[.bx 1000 false [.v, .v, .v], .bx 1 false [.cst (.box 1000 0)], .bx 2 false [.v, .v, .v, .cst .nilsl, .cst .nilsl, .cst .nilsl], .bx 3 false [.v, .v, .v, .cst .nilsl, .row 200304 39, .cst .nilsl], .cst 0 (.box 1000 0), .cst 1 (.box 1 0), .cst 2 (.box 2 0), .cst 3 (.box 3 0), .sv 37, .sv 38], (.cons (.sl (.int .u8)) (.cons (.int .i64) (.cons (.int .i64) (.cons (.int .i64) (.cons (.int .i64) (.cons (.int .i64) (.cons (.int .i64) (.cons (.int .i64) (.cons (.int .i64) (.cons (.sl (.cons (.int .i64) (.cons (.int .i64) (.cons (.sl (.int .i64)) (.cons (.sl (.int .i64)) (.cons (.sl (.int .i64)) (.nil))))))) (.cons (.int .i64) (.cons (.int .i64) (.nil))))))))))))), []⟩ else if r = 18 then some ⟨[.bx 1000 false [.v, .v, .v], .bx 1 false [.cst (.box 1000 0)], .bx 2 false [.v, .v, .v, .cst .nilsl, .cst .nilsl, .cst .nilsl], .bx 3 false [.v, .v, .v, .v, .row 200304 39, .cst .nilsl], .cst 0 (.box 1000 0), .cst 1 (.box 1 0), .cst 2 (.box 2 0), .cst 3 (.box 3 0), .sv 66, .sv 67], (.cons (.sl (.int .u8)) (.cons (.int .i64) (.cons (.int .i64) (.cons (.int .i64) (.cons (.int .i64) (.cons (.int .i64) (.cons (.int .i64) (.cons (.int .i64) (.cons (.int .i64) (.cons (.sl (.int .i64)) (.cons (.sl (.cons (.int .i64) (.cons (.int .i64) (.cons (.sl (.int .i64)) (.cons (.sl (.int .i64)) (.cons (.sl (.int .i64)) (.nil))))))) (.cons (.int .i64) (.cons (.int .i64) (.nil)))))))))))))), []⟩ else if r = 24 then some ⟨[.bx 1000 false [.v, .v, .v], .bx 1 false [.cst (.box 1000 0)], .bx 2 false [.v, .v, .v, .cst .nilsl, .cst .nilsl, .cst .nilsl], .bx 3 false [.v, .v, .v, .v, .v, .row 200305 94], .cst 0 (.box 1000 0), .cst 1 (.box 1 0), .cst 2 (.box 2 0), .cst 3 (.box 3 0), .sv 85, .sv 86], (.cons (.sl (.int .u8)) (.cons (.int .i64) (.cons (.int .i64) (.cons (.int .i64) (.cons (.int .i64) (.cons (.int .i64) (.cons (.int .i64) (.cons (.int .i64) (.cons (.int .i64) (.cons (.sl (.int .i64)) (.cons (.sl (.cons (.int .i64) (.cons (.int .i64) (.cons (.sl (.int .i64)) (.cons (.sl (.int .i64)) (.cons (.sl (.int .i64)) (.nil))))))) (.cons (.sl (.cons (.int .i64) (.cons (.int .i64) (.nil)))) (.cons (.int .i64) (.cons (.int .i64) (.nil))))))))))))))), []⟩ else none, fun t => if t = 57 then some (true, ⟨[.bx 1000 false [.v, .v, .v], .bx 1 false [.cst (.box 1000 0)], .bx 2 false [.v, .v, .v, .cst .nilsl, .cst .nilsl, .cst .nilsl], .bx 3 false [.v, .v, .v, .v, .row 200304 39, .cst .nilsl], .cst 0 (.box 1000 0), .cst 1 (.box 1 0), .cst 2 (.box 2 0), .cst 3 (.box 3 0)], (.cons (.sl (.int .u8)) (.cons (.int .i64) (.cons (.int .i64) (.cons (.int .i64) (.cons (.int .i64) (.cons (.int .i64) (.cons (.int .i64) (.cons (.int .i64) (.cons (.int .i64) (.cons (.sl (.int .i64)) (.cons (.sl (.cons (.int .i64) (.cons (.int .i64) (.cons (.sl (.int .i64)) (.cons (.sl (.int .i64)) (.cons (.sl (.int .i64)) (.nil))))))) (.nil)))))))))))), []⟩) else if t = 83 then some (true, ⟨[.bx 1000 false [.v, .v, .v], .bx 2 false [.v, .v, .v, .cst .nilsl, .cst .nilsl, .cst .nilsl], .bx 3 false [.v, .v, .v, .v, .v, .row 200305 94], .cst 0 (.box 1000 0), .cst 2 (.box 2 0), .cst 3 (.box 3 0)], (.cons (.sl (.int .u8)) (.cons (.int .i64) (.cons (.int .i64) (.cons (.int .i64) (.cons (.int .i64) (.cons (.int .i64) (.cons (.int .i64) (.cons (.int .i64) (.cons (.int .i64) (.cons (.sl (.int .i64)) (.cons (.sl (.cons (.int .i64) (.cons (.int .i64) (.cons (.sl (.int .i64)) (.cons (.sl (.int .i64)) (.cons (.sl (.int .i64)) (.nil))))))) (.cons (.sl (.cons (.int .i64) (.cons (.int .i64) (.nil)))) (.nil))))))))))))), []⟩) else none, fun i => if i = 22 then [3] else []⟩
noncomputable def G_templ_reader_read : Ctx := fun n => if n = 61 then some ⟨in_templ_sizes, out_templ_sizes, F_templ_sizes⟩ else if n = 88 then some ⟨in_templ_reader_number, out_templ_reader_number, F_templ_reader_number⟩ else if n = 89 then some ⟨in_templ_reader_layers, out_templ_reader_layers, F_templ_reader_layers⟩ else if n = 92 then some ⟨in_templ_reader_diffs, out_templ_reader_diffs, F_templ_reader_diffs⟩ else if n = 93 then some ⟨in_templ_reader_ranged, out_templ_reader_ranged, F_templ_reader_ranged⟩ else if n = 920090 then some ⟨in_templ_reader_list__templ_reader_read_1, out_templ_reader_list__templ_reader_read_1, F_templ_reader_list__templ_reader_read_1⟩ else if n = 950090 then some ⟨in_templ_reader_list__templ_reader_read_2, out_templ_reader_list__templ_reader_read_2, F_templ_reader_list__templ_reader_read_2⟩ else if n = 960090 then some ⟨in_templ_reader_list__templ_reader_read_3, out_templ_reader_list__templ_reader_read_3, F_templ_reader_list__templ_reader_read_3⟩ else none
noncomputable def F_templ_reader_read : Den (chain (in_templ_reader_read.map PK.ty)) → Option (Den (chain (out_templ_reader_read.map OK.ty ++ statesOf in_templ_reader_read))) := fnK tab G_templ_reader_read an_templ_reader_read 1000000 Go.Proofs.Try.f75 (bodyOf Go.Proofs.Try.f75) in_templ_reader_read out_templ_reader_read
theorem S_templ_reader_read : Sound Go.Proofs.Try.prog 75 ⟨in_templ_reader_read, out_templ_reader_read, F_templ_reader_read⟩ := sound_fn tab_ok follows (Γ := G_templ_reader_read) (fun f con h => by
    unfold G_templ_reader_read at h
    split at h
    · rename_i e; subst e; cases h; exact S_templ_sizes
    split at h
    · rename_i e; subst e; cases h; exact S_templ_reader_number
    split at h
    · rename_i e; subst e; cases h; exact S_templ_reader_layers
    split at h
    · rename_i e; subst e; cases h; exact S_templ_reader_diffs
    split at h
    · rename_i e; subst e; cases h; exact S_templ_reader_ranged
    split at h
    · rename_i e; subst e; cases h; exact S_templ_reader_list__templ_reader_read_1
    split at h
    · rename_i e; subst e; cases h; exact S_templ_reader_list__templ_reader_read_2
    split at h
    · rename_i e; subst e; cases h; exact S_templ_reader_list__templ_reader_read_3
    cases h) (by kernel_rfl) (by kernel_rfl) (by kernel_rfl) (by kernel_rfl)
/-- templ.Get -/
@[reducible] def in_templ_Get : List PK := [.v (.cons (.sl (.int .u8)) (.cons (.int .i64) (.cons (.int .i64) (.nil))))]
@[reducible] def out_templ_Get : List OK := [.v (.cons (.sl (.int .u8)) (.cons (.int .i64) (.cons (.int .i64) (.nil)))), .v (.cons (.int .i64) (.cons (.int .i64) (.cons (.int .i64) (.cons (.sl (.int .i64)) (.cons (.sl (.cons (.int .i64) (.cons (.int .i64) (.cons (.sl (.int .i64)) (.cons (.sl (.int .i64)) (.cons (.sl (.int .i64)) (.nil))))))) (.cons (.sl (.cons (.int .i64) (.cons (.int .i64) (.nil)))) (.nil)))))))]
def an_templ_Get : Anns := ⟨fun r => none, fun t => none, fun i => []⟩
noncomputable def G_templ_Get : Ctx := fun n => if n = 75 then some ⟨in_templ_reader_read, out_templ_reader_read, F_templ_reader_read⟩ else if n = 76 then some ⟨in_templ_reader_ok, out_templ_reader_ok, F_templ_reader_ok⟩ else none
noncomputable def F_templ_Get : Den (chain (in_templ_Get.map PK.ty)) → Option (Den (chain (out_templ_Get.map OK.ty ++ statesOf in_templ_Get))) := fnK tab G_templ_Get an_templ_Get 1000000 Go.Proofs.Try.f45 (bodyOf Go.Proofs.Try.f45) in_templ_Get out_templ_Get
theorem S_templ_Get : Sound Go.Proofs.Try.prog 45 ⟨in_templ_Get, out_templ_Get, F_templ_Get⟩ := sound_fn tab_ok follows (Γ := G_templ_Get) (fun f con h => by
    unfold G_templ_Get at h
    split at h
    · rename_i e; subst e; cases h; exact S_templ_reader_read
    split at h
    · rename_i e; subst e; cases h; exact S_templ_reader_ok
    cases h) (by kernel_rfl) (by kernel_rfl) (by kernel_rfl) (by kernel_rfl)
/-- (*av1.reader).list -/
@[reducible] def in_av1_reader_list : List PK := [.p false (.cons (.cons (.sl (.int .u8)) (.cons (.int .i64) (.cons (.int .i64) (.nil)))) (.nil)), .v (.bool), .v (.int .i64), .v (.int .i64)]
@[reducible] def out_av1_reader_list : List OK := [.v (.sl (.int .i64))]
def an_av1_reader_list : Anns := ⟨fun r => if r = 5 then some ⟨[.bx 1000 false [.v, .v, .v], .cst 0 (.box 1000 0), .sv 2, .sv 3, .row 9 100009 3, .sv 10], (.cons (.sl (.int .u8)) (.cons (.int .i64) (.cons (.int .i64) (.cons (.int .i64) (.cons (.int .i64) (.cons (.sl (.int .i64)) (.cons (.int .i64) (.nil)))))))), []⟩ else none, fun t => none, fun i => []⟩
noncomputable def G_av1_reader_list : Ctx := fun n => if n = 44 then some ⟨in_av1_reader_number, out_av1_reader_number, F_av1_reader_number⟩ else none
noncomputable def F_av1_reader_list : Den (chain (in_av1_reader_list.map PK.ty)) → Option (Den (chain (out_av1_reader_list.map OK.ty ++ statesOf in_av1_reader_list))) := fnK tab G_av1_reader_list an_av1_reader_list 1000000 Go.Proofs.Try.f46 (bodyOf Go.Proofs.Try.f46) in_av1_reader_list out_av1_reader_list
theorem S_av1_reader_list : Sound Go.Proofs.Try.prog 46 ⟨in_av1_reader_list, out_av1_reader_list, F_av1_reader_list⟩ := sound_fn tab_ok follows (Γ := G_av1_reader_list) (fun f con h => by
    unfold G_av1_reader_list at h
    split at h
    · rename_i e; subst e; cases h; exact S_av1_reader_number
    cases h) (by kernel_rfl) (by kernel_rfl) (by kernel_rfl) (by kernel_rfl)
/-- (*av1.reader).diffs -/
@[reducible] def in_av1_reader_diffs : List PK := [.p false (.cons (.cons (.sl (.int .u8)) (.cons (.int .i64) (.cons (.int .i64) (.nil)))) (.nil)), .v (.bool)]
@[reducible] def out_av1_reader_diffs : List OK := [.v (.sl (.int .i64))]
def an_av1_reader_diffs : Anns := ⟨fun r => if r = 4 then some ⟨[.bx 1000 false [.v, .v, .v], .cst 0 (.box 1000 0), .row 5 100005 3], (.cons (.sl (.int .u8)) (.cons (.int .i64) (.cons (.int .i64) (.cons (.sl (.int .i64)) (.nil))))), []⟩ else none, fun t => none, fun i => []⟩
noncomputable def G_av1_reader_diffs : Ctx := fun n => if n = 44 then some ⟨in_av1_reader_number, out_av1_reader_number, F_av1_reader_number⟩ else none
noncomputable def F_av1_reader_diffs : Den (chain (in_av1_reader_diffs.map PK.ty)) → Option (Den (chain (out_av1_reader_diffs.map OK.ty ++ statesOf in_av1_reader_diffs))) := fnK tab G_av1_reader_diffs an_av1_reader_diffs 1000000 Go.Proofs.Try.f47 (bodyOf Go.Proofs.Try.f47) in_av1_reader_diffs out_av1_reader_diffs
theorem S_av1_reader_diffs : Sound Go.Proofs.Try.prog 47 ⟨in_av1_reader_diffs, out_av1_reader_diffs, F_av1_reader_diffs⟩ := sound_fn tab_ok follows (Γ := G_av1_reader_diffs) (fun f con h => by
    unfold G_av1_reader_diffs at h
    split at h
    · rename_i e; subst e; cases h; exact S_av1_reader_number
    cases h) (by kernel_rfl) (by kernel_rfl) (by kernel_rfl) (by kernel_rfl)
/-- av1.Read -/
@[reducible] def in_av1_Read : List PK := [.v (.sl (.int .u8)), .v (.cons (.int .i64) (.cons (.int .i64) (.cons (.int .i64) (.cons (.sl (.int .i64)) (.cons (.sl (.cons (.int .i64) (.cons (.int .i64) (.cons (.sl (.int .i64)) (.cons (.sl (.int .i64)) (.cons (.sl (.int .i64)) (.nil))))))) (.cons (.sl (.cons (.int .i64) (.cons (.int .i64) (.nil)))) (.nil)))))))]
@[reducible] def out_av1_Read : List OK := [.v (.cons (.bool) (.cons (.bool) (.cons (.int .i64) (.cons (.int .i64) (.cons (.bool) (.cons (.cons (.int .i64) (.cons (.int .i64) (.cons (.int .i64) (.cons (.sl (.int .i64)) (.cons (.sl (.cons (.int .i64) (.cons (.int .i64) (.cons (.sl (.int .i64)) (.cons (.sl (.int .i64)) (.cons (.sl (.int .i64)) (.nil))))))) (.cons (.sl (.cons (.int .i64) (.cons (.int .i64) (.nil)))) (.nil))))))) (.cons (.bool) (.cons (.int .u32) (.cons (.bool) (.cons (.sl (.int .i64)) (.cons (.bool) (.cons (.sl (.int .i64)) (.cons (.bool) (.cons (.sl (.int .i64)) (.nil))))))))))))))), .v (.int .i64)]
def an_av1_Read : Anns := ⟨fun r => none, fun t => if t = 39 then some (true, ⟨[.bx 3 false [.v, .v, .v, .v, .v, .v], .bx 4 false [.v, .v, .v, .v, .v, .v, .v, .v, .v, .v, .v, .v, .v, .v, .v, .v, .v, .v, .v], .bx 27 false [.v, .v, .v], .bx 7 false [.v, .v, .v, .v, .v, .v, .v, .v, .v, .v, .v, .v, .v, .v, .v, .v, .v, .v, .v], .cst 3 (.box 3 0), .cst 4 (.box 4 0), .cst 6 (.box 27 0), .cst 7 (.box 7 0)], (.cons (.int .i64) (.cons (.int .i64) (.cons (.int .i64) (.cons (.sl (.int .i64)) (.cons (.sl (.cons (.int .i64) (.cons (.int .i64) (.cons (.sl (.int .i64)) (.cons (.sl (.int .i64)) (.cons (.sl (.int .i64)) (.nil))))))) (.cons (.sl (.cons (.int .i64) (.cons (.int .i64) (.nil)))) (.cons (.bool) (.cons (.bool) (.cons (.int .i64) (.cons (.int .i64) (.cons (.bool) (.cons (.int .i64) (.cons (.int .i64) (.cons (.int .i64) (.cons (.sl (.int .i64)) (.cons (.sl (.cons (.int .i64) (.cons (.int .i64) (.cons (.sl (.int .i64)) (.cons (.sl (.int .i64)) (.cons (.sl (.int .i64)) (.nil))))))) (.cons (.sl (.cons (.int .i64) (.cons (.int .i64) (.nil)))) (.cons (.bool) (.cons (.int .u32) (.cons (.bool) (.cons (.sl (.int .i64)) (.cons (.bool) (.cons (.sl (.int .i64)) (.cons (.bool) (.cons (.sl (.int .i64)) (.cons (.sl (.int .u8)) (.cons (.int .i64) (.cons (.int .i64) (.cons (.bool) (.cons (.bool) (.cons (.int .i64) (.cons (.int .i64) (.cons (.bool) (.cons (.int .i64) (.cons (.int .i64) (.cons (.int .i64) (.cons (.sl (.int .i64)) (.cons (.sl (.cons (.int .i64) (.cons (.int .i64) (.cons (.sl (.int .i64)) (.cons (.sl (.int .i64)) (.cons (.sl (.int .i64)) (.nil))))))) (.cons (.sl (.cons (.int .i64) (.cons (.int .i64) (.nil)))) (.cons (.bool) (.cons (.int .u32) (.cons (.bool) (.cons (.sl (.int .i64)) (.cons (.bool) (.cons (.sl (.int .i64)) (.cons (.bool) (.cons (.sl (.int .i64)) (.nil)))))))))))))))))))))))))))))))))))))))))))))))), []⟩) else if t = 56 then some (true, ⟨[.bx 3 false [.v, .v, .v, .v, .v, .v], .bx 4 false [.v, .v, .v, .v, .v, .v, .v, .v, .v, .v, .v, .v, .v, .v, .v, .v, .v, .v, .v], .bx 27 false [.v, .v, .v], .bx 7 false [.v, .v, .v, .v, .v, .v, .v, .v, .v, .v, .v, .v, .v, .v, .v, .v, .v, .v, .v], .cst 3 (.box 3 0), .cst 4 (.box 4 0), .cst 6 (.box 27 0), .cst 7 (.box 7 0)], (.cons (.int .i64) (.cons (.int .i64) (.cons (.int .i64) (.cons (.sl (.int .i64)) (.cons (.sl (.cons (.int .i64) (.cons (.int .i64) (.cons (.sl (.int .i64)) (.cons (.sl (.int .i64)) (.cons (.sl (.int .i64)) (.nil))))))) (.cons (.sl (.cons (.int .i64) (.cons (.int .i64) (.nil)))) (.cons (.bool) (.cons (.bool) (.cons (.int .i64) (.cons (.int .i64) (.cons (.bool) (.cons (.int .i64) (.cons (.int .i64) (.cons (.int .i64) (.cons (.sl (.int .i64)) (.cons (.sl (.cons (.int .i64) (.cons (.int .i64) (.cons (.sl (.int .i64)) (.cons (.sl (.int .i64)) (.cons (.sl (.int .i64)) (.nil))))))) (.cons (.sl (.cons (.int .i64) (.cons (.int .i64) (.nil)))) (.cons (.bool) (.cons (.int .u32) (.cons (.bool) (.cons (.sl (.int .i64)) (.cons (.bool) (.cons (.sl (.int .i64)) (.cons (.bool) (.cons (.sl (.int .i64)) (.cons (.sl (.int .u8)) (.cons (.int .i64) (.cons (.int .i64) (.cons (.bool) (.cons (.bool) (.cons (.int .i64) (.cons (.int .i64) (.cons (.bool) (.cons (.int .i64) (.cons (.int .i64) (.cons (.int .i64) (.cons (.sl (.int .i64)) (.cons (.sl (.cons (.int .i64) (.cons (.int .i64) (.cons (.sl (.int .i64)) (.cons (.sl (.int .i64)) (.cons (.sl (.int .i64)) (.nil))))))) (.cons (.sl (.cons (.int .i64) (.cons (.int .i64) (.nil)))) (.cons (.bool) (.cons (.int .u32) (.cons (.bool) (.cons (.sl (.int .i64)) (.cons (.bool) (.cons (.sl (.int .i64)) (.cons (.bool) (.cons (.sl (.int .i64)) (.nil)))))))))))))))))))))))))))))))))))))))))))))))), []⟩) else if t = 98 then some (true, ⟨[.bx 4 false [.v, .v, .v, .v, .v, .v, .v, .v, .v, .v, .v, .v, .v, .v, .v, .v, .v, .v, .v], .bx 27 false [.v, .v, .v], .bx 7 false [.v, .v, .v, .v, .v, .v, .v, .v, .v, .v, .v, .v, .v, .v, .v, .v, .v, .v, .v], .bx 8 false [.v, .v, .v, .v, .v, .v], .cst 4 (.box 4 0), .cst 6 (.box 27 0), .cst 7 (.box 7 0), .cst 8 (.box 8 0)], (.cons (.bool) (.cons (.bool) (.cons (.int .i64) (.cons (.int .i64) (.cons (.bool) (.cons (.int .i64) (.cons (.int .i64) (.cons (.int .i64) (.cons (.sl (.int .i64)) (.cons (.sl (.cons (.int .i64) (.cons (.int .i64) (.cons (.sl (.int .i64)) (.cons (.sl (.int .i64)) (.cons (.sl (.int .i64)) (.nil))))))) (.cons (.sl (.cons (.int .i64) (.cons (.int .i64) (.nil)))) (.cons (.bool) (.cons (.int .u32) (.cons (.bool) (.cons (.sl (.int .i64)) (.cons (.bool) (.cons (.sl (.int .i64)) (.cons (.bool) (.cons (.sl (.int .i64)) (.cons (.sl (.int .u8)) (.cons (.int .i64) (.cons (.int .i64) (.cons (.bool) (.cons (.bool) (.cons (.int .i64) (.cons (.int .i64) (.cons (.bool) (.cons (.int .i64) (.cons (.int .i64) (.cons (.int .i64) (.cons (.sl (.int .i64)) (.cons (.sl (.cons (.int .i64) (.cons (.int .i64) (.cons (.sl (.int .i64)) (.cons (.sl (.int .i64)) (.cons (.sl (.int .i64)) (.nil))))))) (.cons (.sl (.cons (.int .i64) (.cons (.int .i64) (.nil)))) (.cons (.bool) (.cons (.int .u32) (.cons (.bool) (.cons (.sl (.int .i64)) (.cons (.bool) (.cons (.sl (.int .i64)) (.cons (.bool) (.cons (.sl (.int .i64)) (.cons (.int .i64) (.cons (.int .i64) (.cons (.int .i64) (.cons (.sl (.int .i64)) (.cons (.sl (.cons (.int .i64) (.cons (.int .i64) (.cons (.sl (.int .i64)) (.cons (.sl (.int .i64)) (.cons (.sl (.int .i64)) (.nil))))))) (.cons (.sl (.cons (.int .i64) (.cons (.int .i64) (.nil)))) (.nil)))))))))))))))))))))))))))))))))))))))))))))))), []⟩) else none, fun i => []⟩
noncomputable def G_av1_Read : Ctx := fun n => if n = 24 then some ⟨in_templ_Right, out_templ_Right, F_templ_Right⟩ else if n = 30 then some ⟨in_av1_structure, out_av1_structure, F_av1_structure⟩ else if n = 35 then some ⟨in_av1_place, out_av1_place, F_av1_place⟩ else if n = 41 then some ⟨in_av1_nothing, out_av1_nothing, F_av1_nothing⟩ else if n = 42 then some ⟨in_bits_Start, out_bits_Start, F_bits_Start⟩ else if n = 43 then some ⟨in_av1_reader_truth, out_av1_reader_truth, F_av1_reader_truth⟩ else if n = 44 then some ⟨in_av1_reader_number, out_av1_reader_number, F_av1_reader_number⟩ else if n = 45 then some ⟨in_templ_Get, out_templ_Get, F_templ_Get⟩ else if n = 46 then some ⟨in_av1_reader_list, out_av1_reader_list, F_av1_reader_list⟩ else if n = 47 then some ⟨in_av1_reader_diffs, out_av1_reader_diffs, F_av1_reader_diffs⟩ else if n = 48 then some ⟨in_bits_Left, out_bits_Left, F_bits_Left⟩ else none
noncomputable def F_av1_Read : Den (chain (in_av1_Read.map PK.ty)) → Option (Den (chain (out_av1_Read.map OK.ty ++ statesOf in_av1_Read))) := fnK tab G_av1_Read an_av1_Read 1000000 Go.Proofs.Try.f16 (bodyOf Go.Proofs.Try.f16) in_av1_Read out_av1_Read
theorem S_av1_Read : Sound Go.Proofs.Try.prog 16 ⟨in_av1_Read, out_av1_Read, F_av1_Read⟩ := sound_fn tab_ok follows (Γ := G_av1_Read) (fun f con h => by
    unfold G_av1_Read at h
    split at h
    · rename_i e; subst e; cases h; exact S_templ_Right
    split at h
    · rename_i e; subst e; cases h; exact S_av1_structure
    split at h
    · rename_i e; subst e; cases h; exact S_av1_place
    split at h
    · rename_i e; subst e; cases h; exact S_av1_nothing
    split at h
    · rename_i e; subst e; cases h; exact S_bits_Start
    split at h
    · rename_i e; subst e; cases h; exact S_av1_reader_truth
    split at h
    · rename_i e; subst e; cases h; exact S_av1_reader_number
    split at h
    · rename_i e; subst e; cases h; exact S_templ_Get
    split at h
    · rename_i e; subst e; cases h; exact S_av1_reader_list
    split at h
    · rename_i e; subst e; cases h; exact S_av1_reader_diffs
    split at h
    · rename_i e; subst e; cases h; exact S_bits_Left
    cases h) (by kernel_rfl) (by kernel_rfl) (by kernel_rfl) (by kernel_rfl)
/-- slices.Clone[[]api.Size,api.Size] -/
@[reducible] def in_slices_Clone_api_Size_api_Size : List PK := [.v (.sl (.cons (.int .i64) (.cons (.int .i64) (.nil))))]
@[reducible] def out_slices_Clone_api_Size_api_Size : List OK := [.v (.sl (.cons (.int .i64) (.cons (.int .i64) (.nil))))]
def F_slices_Clone_api_Size_api_Size : Den (chain (in_slices_Clone_api_Size_api_Size.map PK.ty)) → Option (Den (chain (out_slices_Clone_api_Size_api_Size.map OK.ty ++ statesOf in_slices_Clone_api_Size_api_Size))) := fun d => if decide (((([] : List (Den (.cons (.int .i64) (.cons (.int .i64) (.nil))))).length + List.length (α := Den (.cons (.int .i64) (.cons (.int .i64) (.nil)))) d.1) * 16 ≤ 140737488355328)) then some d else none
theorem S_slices_Clone_api_Size_api_Size : Sound Go.Proofs.Try.prog 55 ⟨in_slices_Clone_api_Size_api_Size, out_slices_Clone_api_Size_api_Size, F_slices_Clone_api_Size_api_Size⟩ := clone_sound_v (r0 := cl0 (bodyOf Go.Proofs.Try.f55)) (cA := clA (bodyOf Go.Proofs.Try.f55)) (cB := clB (bodyOf Go.Proofs.Try.f55)) (id := clI (bodyOf Go.Proofs.Try.f55)) (o1 := clO (bodyOf Go.Proofs.Try.f55) 0) (o2 := clO (bodyOf Go.Proofs.Try.f55) 1) (yt := clY (clO (bodyOf Go.Proofs.Try.f55) 1)) (T := 24) (e := 94) (τ := (.cons (.int .i64) (.cons (.int .i64) (.nil)))) (fn := Go.Proofs.Try.f55) tab_ok follows (by kernel_rfl) (by kernel_rfl) (by kernel_rfl) ⟨by kernel_rfl, by kernel_rfl, by kernel_rfl⟩ ⟨by kernel_rfl, by kernel_rfl, by kernel_rfl⟩ (by kernel_rfl) (by kernel_rfl) (fun xs => mkSt (upd (upd (fun _ => .lf .bad) 0 (.lf (.sl (.cons (.int .i64) (.cons (.int .i64) (.nil))) xs))) 2 (.lf .nilsl)) emptyH) (fun xs => ⟨fun _ => rfl, rfl, rfl, rfl⟩) (fun xs => by kernel_rfl) (by kernel_rfl) (fun xs => by kernel_rfl) (by kernel_rfl)
/-- slices.Clone[[]api.Template,api.Template] -/
@[reducible] def in_slices_Clone_api_Template_api_Template : List PK := [.v (.sl (.cons (.int .i64) (.cons (.int .i64) (.cons (.sl (.int .i64)) (.cons (.sl (.int .i64)) (.cons (.sl (.int .i64)) (.nil)))))))]
@[reducible] def out_slices_Clone_api_Template_api_Template : List OK := [.o 39 (.cons (.int .i64) (.cons (.int .i64) (.cons (.sl (.int .i64)) (.cons (.sl (.int .i64)) (.cons (.sl (.int .i64)) (.nil))))))]
def F_slices_Clone_api_Template_api_Template : Den (chain (in_slices_Clone_api_Template_api_Template.map PK.ty)) → Option (Den (chain (out_slices_Clone_api_Template_api_Template.map OK.ty ++ statesOf in_slices_Clone_api_Template_api_Template))) := fun d => if decide (((([] : List (Den (.cons (.int .i64) (.cons (.int .i64) (.cons (.sl (.int .i64)) (.cons (.sl (.int .i64)) (.cons (.sl (.int .i64)) (.nil)))))))).length + List.length (α := Den (.cons (.int .i64) (.cons (.int .i64) (.cons (.sl (.int .i64)) (.cons (.sl (.int .i64)) (.cons (.sl (.int .i64)) (.nil))))))) d.1) * 88 ≤ 140737488355328)) then some d else none
theorem S_slices_Clone_api_Template_api_Template : Sound Go.Proofs.Try.prog 56 ⟨in_slices_Clone_api_Template_api_Template, out_slices_Clone_api_Template_api_Template, F_slices_Clone_api_Template_api_Template⟩ := clone_sound (r0 := cl0 (bodyOf Go.Proofs.Try.f56)) (cA := clA (bodyOf Go.Proofs.Try.f56)) (cB := clB (bodyOf Go.Proofs.Try.f56)) (id := clI (bodyOf Go.Proofs.Try.f56)) (o1 := clO (bodyOf Go.Proofs.Try.f56) 0) (o2 := clO (bodyOf Go.Proofs.Try.f56) 1) (yt := clY (clO (bodyOf Go.Proofs.Try.f56) 1)) (T := 23) (e := 39) (τ := (.cons (.int .i64) (.cons (.int .i64) (.cons (.sl (.int .i64)) (.cons (.sl (.int .i64)) (.cons (.sl (.int .i64)) (.nil))))))) (fn := Go.Proofs.Try.f56) tab_ok follows (by kernel_rfl) (by kernel_rfl) (by kernel_rfl) ⟨by kernel_rfl, by kernel_rfl, by kernel_rfl⟩ ⟨by kernel_rfl, by kernel_rfl, by kernel_rfl⟩ (by kernel_rfl) (by kernel_rfl) (fun xs => mkSt (upd (upd (fun _ => .lf .bad) 0 (.lf (.sl (.cons (.int .i64) (.cons (.int .i64) (.cons (.sl (.int .i64)) (.cons (.sl (.int .i64)) (.cons (.sl (.int .i64)) (.nil)))))) xs))) 2 (.lf .nilsl)) emptyH) (fun xs => ⟨fun _ => rfl, rfl, rfl, rfl⟩) (fun xs => by kernel_rfl) (by kernel_rfl) (fun xs => by kernel_rfl) (by kernel_rfl)
/-- av1.Known -/
@[reducible] def in_av1_Known : List PK := [.v (.cons (.bool) (.cons (.bool) (.cons (.int .i64) (.cons (.int .i64) (.cons (.bool) (.cons (.cons (.int .i64) (.cons (.int .i64) (.cons (.int .i64) (.cons (.sl (.int .i64)) (.cons (.sl (.cons (.int .i64) (.cons (.int .i64) (.cons (.sl (.int .i64)) (.cons (.sl (.int .i64)) (.cons (.sl (.int .i64)) (.nil))))))) (.cons (.sl (.cons (.int .i64) (.cons (.int .i64) (.nil)))) (.nil))))))) (.cons (.bool) (.cons (.int .u32) (.cons (.bool) (.cons (.sl (.int .i64)) (.cons (.bool) (.cons (.sl (.int .i64)) (.cons (.bool) (.cons (.sl (.int .i64)) (.nil))))))))))))))), .v (.cons (.int .i64) (.cons (.int .i64) (.cons (.int .i64) (.cons (.sl (.int .i64)) (.cons (.sl (.cons (.int .i64) (.cons (.int .i64) (.cons (.sl (.int .i64)) (.cons (.sl (.int .i64)) (.cons (.sl (.int .i64)) (.nil))))))) (.cons (.sl (.cons (.int .i64) (.cons (.int .i64) (.nil)))) (.nil)))))))]
@[reducible] def out_av1_Known : List OK := [.v (.cons (.int .i64) (.cons (.int .i64) (.cons (.int .i64) (.cons (.sl (.int .i64)) (.cons (.sl (.cons (.int .i64) (.cons (.int .i64) (.cons (.sl (.int .i64)) (.cons (.sl (.int .i64)) (.cons (.sl (.int .i64)) (.nil))))))) (.cons (.sl (.cons (.int .i64) (.cons (.int .i64) (.nil)))) (.nil)))))))]
def an_av1_Known : Anns := ⟨fun r => if r = 7 then some ⟨[.bx 4 false [.v, .v, .v, .v, .v, .v], .bx 5 false [.v, .v, .v, .v, .row 200504 39, .v], .cst 4 (.box 4 0), .cst 5 (.box 5 0), .sv 29, .sv 30], (.cons (.int .i64) (.cons (.int .i64) (.cons (.int .i64) (.cons (.sl (.int .i64)) (.cons (.sl (.cons (.int .i64) (.cons (.int .i64) (.cons (.sl (.int .i64)) (.cons (.sl (.int .i64)) (.cons (.sl (.int .i64)) (.nil))))))) (.cons (.sl (.cons (.int .i64) (.cons (.int .i64) (.nil)))) (.cons (.int .i64) (.cons (.int .i64) (.cons (.int .i64) (.cons (.sl (.int .i64)) (.cons (.sl (.cons (.int .i64) (.cons (.int .i64) (.cons (.sl (.int .i64)) (.cons (.sl (.int .i64)) (.cons (.sl (.int .i64)) (.nil))))))) (.cons (.sl (.cons (.int .i64) (.cons (.int .i64) (.nil)))) (.cons (.int .i64) (.cons (.int .i64) (.nil))))))))))))))), [(28, 5, 4)]⟩ else none, fun t => if t = 11 then some (true, ⟨[.bx 4 false [.v, .v, .v, .v, .v, .v], .bx 5 false [.v, .v, .v, .v, .v, .v], .cst 4 (.box 4 0), .cst 5 (.box 5 0)], (.cons (.int .i64) (.cons (.int .i64) (.cons (.int .i64) (.cons (.sl (.int .i64)) (.cons (.sl (.cons (.int .i64) (.cons (.int .i64) (.cons (.sl (.int .i64)) (.cons (.sl (.int .i64)) (.cons (.sl (.int .i64)) (.nil))))))) (.cons (.sl (.cons (.int .i64) (.cons (.int .i64) (.nil)))) (.cons (.int .i64) (.cons (.int .i64) (.cons (.int .i64) (.cons (.sl (.int .i64)) (.cons (.sl (.cons (.int .i64) (.cons (.int .i64) (.cons (.sl (.int .i64)) (.cons (.sl (.int .i64)) (.cons (.sl (.int .i64)) (.nil))))))) (.cons (.sl (.cons (.int .i64) (.cons (.int .i64) (.nil)))) (.nil))))))))))))), []⟩) else none, fun i => []⟩
noncomputable def G_av1_Known : Ctx := fun n => if n = 18 then some ⟨in_av1_Right, out_av1_Right, F_av1_Right⟩ else if n = 30 then some ⟨in_av1_structure, out_av1_structure, F_av1_structure⟩ else if n = 36 then some ⟨in_av1_copyOf, out_av1_copyOf, F_av1_copyOf⟩ else if n = 54 then some ⟨in_slices_Clone_int_int, out_slices_Clone_int_int, F_slices_Clone_int_int⟩ else if n = 55 then some ⟨in_slices_Clone_api_Size_api_Size, out_slices_Clone_api_Size_api_Size, F_slices_Clone_api_Size_api_Size⟩ else if n = 56 then some ⟨in_slices_Clone_api_Template_api_Template, out_slices_Clone_api_Template_api_Template, F_slices_Clone_api_Template_api_Template⟩ else none
noncomputable def F_av1_Known : Den (chain (in_av1_Known.map PK.ty)) → Option (Den (chain (out_av1_Known.map OK.ty ++ statesOf in_av1_Known))) := fnK tab G_av1_Known an_av1_Known 1000000 Go.Proofs.Try.f20 (bodyOf Go.Proofs.Try.f20) in_av1_Known out_av1_Known
theorem S_av1_Known : Sound Go.Proofs.Try.prog 20 ⟨in_av1_Known, out_av1_Known, F_av1_Known⟩ := sound_fn tab_ok follows (Γ := G_av1_Known) (fun f con h => by
    unfold G_av1_Known at h
    split at h
    · rename_i e; subst e; cases h; exact S_av1_Right
    split at h
    · rename_i e; subst e; cases h; exact S_av1_structure
    split at h
    · rename_i e; subst e; cases h; exact S_av1_copyOf
    split at h
    · rename_i e; subst e; cases h; exact S_slices_Clone_int_int
    split at h
    · rename_i e; subst e; cases h; exact S_slices_Clone_api_Size_api_Size
    split at h
    · rename_i e; subst e; cases h; exact S_slices_Clone_api_Template_api_Template
    cases h) (by kernel_rfl) (by kernel_rfl) (by kernel_rfl) (by kernel_rfl)
/-- crossbarref24.Ints -/
@[reducible] def in_crossbarref24_Ints : List PK := [.v (.sl (.int .i64)), .v (.sl (.int .i64))]
@[reducible] def out_crossbarref24_Ints : List OK := [.v (.bool)]
def an_crossbarref24_Ints : Anns := ⟨fun r => if r = 4 then some ⟨[.sv 0, .sv 1, .sv 5], (.cons (.sl (.int .i64)) (.cons (.sl (.int .i64)) (.cons (.int .i64) (.nil)))), []⟩ else none, fun t => none, fun i => []⟩
noncomputable def G_crossbarref24_Ints : Ctx := fun n => none
noncomputable def F_crossbarref24_Ints : Den (chain (in_crossbarref24_Ints.map PK.ty)) → Option (Den (chain (out_crossbarref24_Ints.map OK.ty ++ statesOf in_crossbarref24_Ints))) := fnK tab G_crossbarref24_Ints an_crossbarref24_Ints 1000000 Go.Proofs.Try.f40 (bodyOf Go.Proofs.Try.f40) in_crossbarref24_Ints out_crossbarref24_Ints
theorem S_crossbarref24_Ints : Sound Go.Proofs.Try.prog 40 ⟨in_crossbarref24_Ints, out_crossbarref24_Ints, F_crossbarref24_Ints⟩ := sound_fn tab_ok follows (Γ := G_crossbarref24_Ints) (fun f con h => by
    unfold G_crossbarref24_Ints at h
    cases h) (by kernel_rfl) (by kernel_rfl) (by kernel_rfl) (by kernel_rfl)
/-- crossbarref26.Same -/
@[reducible] def in_crossbarref26_Same : List PK := [.v (.cons (.int .i64) (.cons (.int .i64) (.cons (.int .i64) (.cons (.sl (.int .i64)) (.cons (.sl (.cons (.int .i64) (.cons (.int .i64) (.cons (.sl (.int .i64)) (.cons (.sl (.int .i64)) (.cons (.sl (.int .i64)) (.nil))))))) (.cons (.sl (.cons (.int .i64) (.cons (.int .i64) (.nil)))) (.nil))))))), .v (.cons (.int .i64) (.cons (.int .i64) (.cons (.int .i64) (.cons (.sl (.int .i64)) (.cons (.sl (.cons (.int .i64) (.cons (.int .i64) (.cons (.sl (.int .i64)) (.cons (.sl (.int .i64)) (.cons (.sl (.int .i64)) (.nil))))))) (.cons (.sl (.cons (.int .i64) (.cons (.int .i64) (.nil)))) (.nil)))))))]
@[reducible] def out_crossbarref26_Same : List OK := [.v (.bool)]
def an_crossbarref26_Same : Anns := ⟨fun r => if r = 4 then some ⟨[.bx 2 false [.v, .v, .v, .v, .v, .v], .bx 3 false [.v, .v, .v, .v, .v, .v], .cst 2 (.box 2 0), .cst 3 (.box 3 0), .sv 5], (.cons (.int .i64) (.cons (.int .i64) (.cons (.int .i64) (.cons (.sl (.int .i64)) (.cons (.sl (.cons (.int .i64) (.cons (.int .i64) (.cons (.sl (.int .i64)) (.cons (.sl (.int .i64)) (.cons (.sl (.int .i64)) (.nil))))))) (.cons (.sl (.cons (.int .i64) (.cons (.int .i64) (.nil)))) (.cons (.int .i64) (.cons (.int .i64) (.cons (.int .i64) (.cons (.sl (.int .i64)) (.cons (.sl (.cons (.int .i64) (.cons (.int .i64) (.cons (.sl (.int .i64)) (.cons (.sl (.int .i64)) (.cons (.sl (.int .i64)) (.nil))))))) (.cons (.sl (.cons (.int .i64) (.cons (.int .i64) (.nil)))) (.cons (.int .i64) (.nil)))))))))))))), []⟩ else if r = 9 then some ⟨[.bx 2 false [.v, .v, .v, .v, .v, .v], .bx 3 false [.v, .v, .v, .v, .v, .v], .cst 2 (.box 2 0), .cst 3 (.box 3 0), .sv 6], (.cons (.int .i64) (.cons (.int .i64) (.cons (.int .i64) (.cons (.sl (.int .i64)) (.cons (.sl (.cons (.int .i64) (.cons (.int .i64) (.cons (.sl (.int .i64)) (.cons (.sl (.int .i64)) (.cons (.sl (.int .i64)) (.nil))))))) (.cons (.sl (.cons (.int .i64) (.cons (.int .i64) (.nil)))) (.cons (.int .i64) (.cons (.int .i64) (.cons (.int .i64) (.cons (.sl (.int .i64)) (.cons (.sl (.cons (.int .i64) (.cons (.int .i64) (.cons (.sl (.int .i64)) (.cons (.sl (.int .i64)) (.cons (.sl (.int .i64)) (.nil))))))) (.cons (.sl (.cons (.int .i64) (.cons (.int .i64) (.nil)))) (.cons (.int .i64) (.nil)))))))))))))), []⟩ else none, fun t => none, fun i => []⟩
noncomputable def G_crossbarref26_Same : Ctx := fun n => if n = 40 then some ⟨in_crossbarref24_Ints, out_crossbarref24_Ints, F_crossbarref24_Ints⟩ else none
noncomputable def F_crossbarref26_Same : Den (chain (in_crossbarref26_Same.map PK.ty)) → Option (Den (chain (out_crossbarref26_Same.map OK.ty ++ statesOf in_crossbarref26_Same))) := fnK tab G_crossbarref26_Same an_crossbarref26_Same 1000000 Go.Proofs.Try.f19 (bodyOf Go.Proofs.Try.f19) in_crossbarref26_Same out_crossbarref26_Same
theorem S_crossbarref26_Same : Sound Go.Proofs.Try.prog 19 ⟨in_crossbarref26_Same, out_crossbarref26_Same, F_crossbarref26_Same⟩ := sound_fn tab_ok follows (Γ := G_crossbarref26_Same) (fun f con h => by
    unfold G_crossbarref26_Same at h
    split at h
    · rename_i e; subst e; cases h; exact S_crossbarref24_Ints
    cases h) (by kernel_rfl) (by kernel_rfl) (by kernel_rfl) (by kernel_rfl)
/-- crossbarref27.Same -/
@[reducible] def in_crossbarref27_Same : List PK := [.v (.cons (.bool) (.cons (.bool) (.cons (.int .i64) (.cons (.int .i64) (.cons (.bool) (.cons (.cons (.int .i64) (.cons (.int .i64) (.cons (.int .i64) (.cons (.sl (.int .i64)) (.cons (.sl (.cons (.int .i64) (.cons (.int .i64) (.cons (.sl (.int .i64)) (.cons (.sl (.int .i64)) (.cons (.sl (.int .i64)) (.nil))))))) (.cons (.sl (.cons (.int .i64) (.cons (.int .i64) (.nil)))) (.nil))))))) (.cons (.bool) (.cons (.int .u32) (.cons (.bool) (.cons (.sl (.int .i64)) (.cons (.bool) (.cons (.sl (.int .i64)) (.cons (.bool) (.cons (.sl (.int .i64)) (.nil))))))))))))))), .v (.cons (.bool) (.cons (.bool) (.cons (.int .i64) (.cons (.int .i64) (.cons (.bool) (.cons (.cons (.int .i64) (.cons (.int .i64) (.cons (.int .i64) (.cons (.sl (.int .i64)) (.cons (.sl (.cons (.int .i64) (.cons (.int .i64) (.cons (.sl (.int .i64)) (.cons (.sl (.int .i64)) (.cons (.sl (.int .i64)) (.nil))))))) (.cons (.sl (.cons (.int .i64) (.cons (.int .i64) (.nil)))) (.nil))))))) (.cons (.bool) (.cons (.int .u32) (.cons (.bool) (.cons (.sl (.int .i64)) (.cons (.bool) (.cons (.sl (.int .i64)) (.cons (.bool) (.cons (.sl (.int .i64)) (.nil)))))))))))))))]
@[reducible] def out_crossbarref27_Same : List OK := [.v (.bool)]
def an_crossbarref27_Same : Anns := ⟨fun r => none, fun t => none, fun i => []⟩
noncomputable def G_crossbarref27_Same : Ctx := fun n => if n = 19 then some ⟨in_crossbarref26_Same, out_crossbarref26_Same, F_crossbarref26_Same⟩ else if n = 40 then some ⟨in_crossbarref24_Ints, out_crossbarref24_Ints, F_crossbarref24_Ints⟩ else none
noncomputable def F_crossbarref27_Same : Den (chain (in_crossbarref27_Same.map PK.ty)) → Option (Den (chain (out_crossbarref27_Same.map OK.ty ++ statesOf in_crossbarref27_Same))) := fnK tab G_crossbarref27_Same an_crossbarref27_Same 1000000 Go.Proofs.Try.f21 (bodyOf Go.Proofs.Try.f21) in_crossbarref27_Same out_crossbarref27_Same
theorem S_crossbarref27_Same : Sound Go.Proofs.Try.prog 21 ⟨in_crossbarref27_Same, out_crossbarref27_Same, F_crossbarref27_Same⟩ := sound_fn tab_ok follows (Γ := G_crossbarref27_Same) (fun f con h => by
    unfold G_crossbarref27_Same at h
    split at h
    · rename_i e; subst e; cases h; exact S_crossbarref26_Same
    split at h
    · rename_i e; subst e; cases h; exact S_crossbarref24_Ints
    cases h) (by kernel_rfl) (by kernel_rfl) (by kernel_rfl) (by kernel_rfl)
/-- bytes.Equal -/
@[reducible] def in_bytes_Equal : List PK := [.v (.sl (.int .u8)), .v (.sl (.int .u8))]
@[reducible] def out_bytes_Equal : List OK := [.v (.bool)]
def an_bytes_Equal : Anns := ⟨fun r => none, fun t => none, fun i => []⟩
noncomputable def G_bytes_Equal : Ctx := fun n => none
noncomputable def F_bytes_Equal : Den (chain (in_bytes_Equal.map PK.ty)) → Option (Den (chain (out_bytes_Equal.map OK.ty ++ statesOf in_bytes_Equal))) := fnK tab G_bytes_Equal an_bytes_Equal 1000000 Go.Proofs.Try.f57 (bodyOf Go.Proofs.Try.f57) in_bytes_Equal out_bytes_Equal
theorem S_bytes_Equal : Sound Go.Proofs.Try.prog 57 ⟨in_bytes_Equal, out_bytes_Equal, F_bytes_Equal⟩ := sound_fn tab_ok follows (Γ := G_bytes_Equal) (fun f con h => by
    unfold G_bytes_Equal at h
    cases h) (by kernel_rfl) (by kernel_rfl) (by kernel_rfl) (by kernel_rfl)
/-- av1.Canon -/
@[reducible] def in_av1_Canon : List PK := [.v (.sl (.int .u8)), .v (.cons (.int .i64) (.cons (.int .i64) (.cons (.int .i64) (.cons (.sl (.int .i64)) (.cons (.sl (.cons (.int .i64) (.cons (.int .i64) (.cons (.sl (.int .i64)) (.cons (.sl (.int .i64)) (.cons (.sl (.int .i64)) (.nil))))))) (.cons (.sl (.cons (.int .i64) (.cons (.int .i64) (.nil)))) (.nil)))))))]
@[reducible] def out_av1_Canon : List OK := [.v (.bool)]
def an_av1_Canon : Anns := ⟨fun r => none, fun t => none, fun i => []⟩
noncomputable def G_av1_Canon : Ctx := fun n => if n = 10 then some ⟨in_av1_Write, out_av1_Write, F_av1_Write⟩ else if n = 16 then some ⟨in_av1_Read, out_av1_Read, F_av1_Read⟩ else if n = 57 then some ⟨in_bytes_Equal, out_bytes_Equal, F_bytes_Equal⟩ else none
noncomputable def F_av1_Canon : Den (chain (in_av1_Canon.map PK.ty)) → Option (Den (chain (out_av1_Canon.map OK.ty ++ statesOf in_av1_Canon))) := fnK tab G_av1_Canon an_av1_Canon 1000000 Go.Proofs.Try.f22 (bodyOf Go.Proofs.Try.f22) in_av1_Canon out_av1_Canon
theorem S_av1_Canon : Sound Go.Proofs.Try.prog 22 ⟨in_av1_Canon, out_av1_Canon, F_av1_Canon⟩ := sound_fn tab_ok follows (Γ := G_av1_Canon) (fun f con h => by
    unfold G_av1_Canon at h
    split at h
    · rename_i e; subst e; cases h; exact S_av1_Write
    split at h
    · rename_i e; subst e; cases h; exact S_av1_Read
    split at h
    · rename_i e; subst e; cases h; exact S_bytes_Equal
    cases h) (by kernel_rfl) (by kernel_rfl) (by kernel_rfl) (by kernel_rfl)
/-- crossbarlaw27.awake -/
@[reducible] def in_crossbarlaw27_awake : List PK := []
@[reducible] def out_crossbarlaw27_awake : List OK := [.v (.bool)]
def an_crossbarlaw27_awake : Anns := ⟨fun r => none, fun t => none, fun i => if i = 1 then [1] else if i = 2 then [2] else []⟩
noncomputable def G_crossbarlaw27_awake : Ctx := fun n => if n = 10 then some ⟨in_av1_Write, out_av1_Write, F_av1_Write⟩ else if n = 11 then some ⟨in_av1_Whole, out_av1_Whole, F_av1_Whole⟩ else if n = 16 then some ⟨in_av1_Read, out_av1_Read, F_av1_Read⟩ else if n = 18 then some ⟨in_av1_Right, out_av1_Right, F_av1_Right⟩ else if n = 20 then some ⟨in_av1_Known, out_av1_Known, F_av1_Known⟩ else if n = 21 then some ⟨in_crossbarref27_Same, out_crossbarref27_Same, F_crossbarref27_Same⟩ else if n = 22 then some ⟨in_av1_Canon, out_av1_Canon, F_av1_Canon⟩ else if n = 25 then some ⟨in_templ_Same, out_templ_Same, F_templ_Same⟩ else none
noncomputable def F_crossbarlaw27_awake : Den (chain (in_crossbarlaw27_awake.map PK.ty)) → Option (Den (chain (out_crossbarlaw27_awake.map OK.ty ++ statesOf in_crossbarlaw27_awake))) := fnK tab G_crossbarlaw27_awake an_crossbarlaw27_awake 1000000 Go.Proofs.Try.f6 (bodyOf Go.Proofs.Try.f6) in_crossbarlaw27_awake out_crossbarlaw27_awake
theorem S_crossbarlaw27_awake : Sound Go.Proofs.Try.prog 6 ⟨in_crossbarlaw27_awake, out_crossbarlaw27_awake, F_crossbarlaw27_awake⟩ := sound_fn tab_ok follows (Γ := G_crossbarlaw27_awake) (fun f con h => by
    unfold G_crossbarlaw27_awake at h
    split at h
    · rename_i e; subst e; cases h; exact S_av1_Write
    split at h
    · rename_i e; subst e; cases h; exact S_av1_Whole
    split at h
    · rename_i e; subst e; cases h; exact S_av1_Read
    split at h
    · rename_i e; subst e; cases h; exact S_av1_Right
    split at h
    · rename_i e; subst e; cases h; exact S_av1_Known
    split at h
    · rename_i e; subst e; cases h; exact S_crossbarref27_Same
    split at h
    · rename_i e; subst e; cases h; exact S_av1_Canon
    split at h
    · rename_i e; subst e; cases h; exact S_templ_Same
    cases h) (by kernel_rfl) (by kernel_rfl) (by kernel_rfl) (by kernel_rfl)
/-- crossbarref26.Short -/
@[reducible] def in_crossbarref26_Short : List PK := [.v (.cons (.int .i64) (.cons (.int .i64) (.cons (.int .i64) (.cons (.sl (.int .i64)) (.cons (.sl (.cons (.int .i64) (.cons (.int .i64) (.cons (.sl (.int .i64)) (.cons (.sl (.int .i64)) (.cons (.sl (.int .i64)) (.nil))))))) (.cons (.sl (.cons (.int .i64) (.cons (.int .i64) (.nil)))) (.nil)))))))]
@[reducible] def out_crossbarref26_Short : List OK := [.v (.bool)]
def an_crossbarref26_Short : Anns := ⟨fun r => if r = 2 then some ⟨[.bx 1 false [.v, .v, .v, .v, .v, .v], .cst 1 (.box 1 0), .sv 3], (.cons (.int .i64) (.cons (.int .i64) (.cons (.int .i64) (.cons (.sl (.int .i64)) (.cons (.sl (.cons (.int .i64) (.cons (.int .i64) (.cons (.sl (.int .i64)) (.cons (.sl (.int .i64)) (.cons (.sl (.int .i64)) (.nil))))))) (.cons (.sl (.cons (.int .i64) (.cons (.int .i64) (.nil)))) (.cons (.int .i64) (.nil)))))))), []⟩ else none, fun t => none, fun i => []⟩
noncomputable def G_crossbarref26_Short : Ctx := fun n => none
noncomputable def F_crossbarref26_Short : Den (chain (in_crossbarref26_Short.map PK.ty)) → Option (Den (chain (out_crossbarref26_Short.map OK.ty ++ statesOf in_crossbarref26_Short))) := fnK tab G_crossbarref26_Short an_crossbarref26_Short 1000000 Go.Proofs.Try.f8 (bodyOf Go.Proofs.Try.f8) in_crossbarref26_Short out_crossbarref26_Short
theorem S_crossbarref26_Short : Sound Go.Proofs.Try.prog 8 ⟨in_crossbarref26_Short, out_crossbarref26_Short, F_crossbarref26_Short⟩ := sound_fn tab_ok follows (Γ := G_crossbarref26_Short) (fun f con h => by
    unfold G_crossbarref26_Short at h
    cases h) (by kernel_rfl) (by kernel_rfl) (by kernel_rfl) (by kernel_rfl)
/-- crossbarref27.Short -/
@[reducible] def in_crossbarref27_Short : List PK := [.v (.cons (.bool) (.cons (.bool) (.cons (.int .i64) (.cons (.int .i64) (.cons (.bool) (.cons (.cons (.int .i64) (.cons (.int .i64) (.cons (.int .i64) (.cons (.sl (.int .i64)) (.cons (.sl (.cons (.int .i64) (.cons (.int .i64) (.cons (.sl (.int .i64)) (.cons (.sl (.int .i64)) (.cons (.sl (.int .i64)) (.nil))))))) (.cons (.sl (.cons (.int .i64) (.cons (.int .i64) (.nil)))) (.nil))))))) (.cons (.bool) (.cons (.int .u32) (.cons (.bool) (.cons (.sl (.int .i64)) (.cons (.bool) (.cons (.sl (.int .i64)) (.cons (.bool) (.cons (.sl (.int .i64)) (.nil)))))))))))))))]
@[reducible] def out_crossbarref27_Short : List OK := [.v (.bool)]
def an_crossbarref27_Short : Anns := ⟨fun r => none, fun t => none, fun i => []⟩
noncomputable def G_crossbarref27_Short : Ctx := fun n => if n = 8 then some ⟨in_crossbarref26_Short, out_crossbarref26_Short, F_crossbarref26_Short⟩ else none
noncomputable def F_crossbarref27_Short : Den (chain (in_crossbarref27_Short.map PK.ty)) → Option (Den (chain (out_crossbarref27_Short.map OK.ty ++ statesOf in_crossbarref27_Short))) := fnK tab G_crossbarref27_Short an_crossbarref27_Short 1000000 Go.Proofs.Try.f7 (bodyOf Go.Proofs.Try.f7) in_crossbarref27_Short out_crossbarref27_Short
theorem S_crossbarref27_Short : Sound Go.Proofs.Try.prog 7 ⟨in_crossbarref27_Short, out_crossbarref27_Short, F_crossbarref27_Short⟩ := sound_fn tab_ok follows (Γ := G_crossbarref27_Short) (fun f con h => by
    unfold G_crossbarref27_Short at h
    split at h
    · rename_i e; subst e; cases h; exact S_crossbarref26_Short
    cases h) (by kernel_rfl) (by kernel_rfl) (by kernel_rfl) (by kernel_rfl)
/-- crossbarlaw27.Av1Known -/
@[reducible] def in_crossbarlaw27_Av1Known : List PK := [.v (.cons (.bool) (.cons (.bool) (.cons (.int .i64) (.cons (.int .i64) (.cons (.bool) (.cons (.cons (.int .i64) (.cons (.int .i64) (.cons (.int .i64) (.cons (.sl (.int .i64)) (.cons (.sl (.cons (.int .i64) (.cons (.int .i64) (.cons (.sl (.int .i64)) (.cons (.sl (.int .i64)) (.cons (.sl (.int .i64)) (.nil))))))) (.cons (.sl (.cons (.int .i64) (.cons (.int .i64) (.nil)))) (.nil))))))) (.cons (.bool) (.cons (.int .u32) (.cons (.bool) (.cons (.sl (.int .i64)) (.cons (.bool) (.cons (.sl (.int .i64)) (.cons (.bool) (.cons (.sl (.int .i64)) (.nil))))))))))))))), .v (.cons (.int .i64) (.cons (.int .i64) (.cons (.int .i64) (.cons (.sl (.int .i64)) (.cons (.sl (.cons (.int .i64) (.cons (.int .i64) (.cons (.sl (.int .i64)) (.cons (.sl (.int .i64)) (.cons (.sl (.int .i64)) (.nil))))))) (.cons (.sl (.cons (.int .i64) (.cons (.int .i64) (.nil)))) (.nil)))))))]
@[reducible] def out_crossbarlaw27_Av1Known : List OK := [.v (.bool)]
def an_crossbarlaw27_Av1Known : Anns := ⟨fun r => if r = 19 then some ⟨[.bx 2 false [.v, .v, .v, .v, .v, .v, .v, .v, .v, .v, .v, .v, .v, .v, .v, .v, .v, .v, .v], .bx 7 false [.v, .v, .v, .v, .v, .v], .bx 10 false [.v, .v, .v, .v, .v], .cst 2 (.box 2 0), .cst 7 (.box 7 0), .cst 10 (.box 10 0), .sv 12], (.cons (.bool) (.cons (.bool) (.cons (.int .i64) (.cons (.int .i64) (.cons (.bool) (.cons (.int .i64) (.cons (.int .i64) (.cons (.int .i64) (.cons (.sl (.int .i64)) (.cons (.sl (.cons (.int .i64) (.cons (.int .i64) (.cons (.sl (.int .i64)) (.cons (.sl (.int .i64)) (.cons (.sl (.int .i64)) (.nil))))))) (.cons (.sl (.cons (.int .i64) (.cons (.int .i64) (.nil)))) (.cons (.bool) (.cons (.int .u32) (.cons (.bool) (.cons (.sl (.int .i64)) (.cons (.bool) (.cons (.sl (.int .i64)) (.cons (.bool) (.cons (.sl (.int .i64)) (.cons (.int .i64) (.cons (.int .i64) (.cons (.int .i64) (.cons (.sl (.int .i64)) (.cons (.sl (.cons (.int .i64) (.cons (.int .i64) (.cons (.sl (.int .i64)) (.cons (.sl (.int .i64)) (.cons (.sl (.int .i64)) (.nil))))))) (.cons (.sl (.cons (.int .i64) (.cons (.int .i64) (.nil)))) (.cons (.int .i64) (.cons (.int .i64) (.cons (.sl (.int .i64)) (.cons (.sl (.int .i64)) (.cons (.sl (.int .i64)) (.cons (.int .i64) (.nil)))))))))))))))))))))))))))))))), []⟩ else none, fun t => if t = 42 then some (false, ⟨[.bx 2 false [.v, .v, .v, .v, .v, .v, .v, .v, .v, .v, .v, .v, .v, .v, .v, .v, .v, .v, .v], .bx 3 false [.v, .v, .v, .v, .v, .v], .bx 7 false [.v, .v, .v, .v, .v, .v], .cst 2 (.box 2 0), .cst 3 (.box 3 0), .sv 6, .cst 7 (.box 7 0)], (.cons (.bool) (.cons (.bool) (.cons (.int .i64) (.cons (.int .i64) (.cons (.bool) (.cons (.int .i64) (.cons (.int .i64) (.cons (.int .i64) (.cons (.sl (.int .i64)) (.cons (.sl (.cons (.int .i64) (.cons (.int .i64) (.cons (.sl (.int .i64)) (.cons (.sl (.int .i64)) (.cons (.sl (.int .i64)) (.nil))))))) (.cons (.sl (.cons (.int .i64) (.cons (.int .i64) (.nil)))) (.cons (.bool) (.cons (.int .u32) (.cons (.bool) (.cons (.sl (.int .i64)) (.cons (.bool) (.cons (.sl (.int .i64)) (.cons (.bool) (.cons (.sl (.int .i64)) (.cons (.int .i64) (.cons (.int .i64) (.cons (.int .i64) (.cons (.sl (.int .i64)) (.cons (.sl (.cons (.int .i64) (.cons (.int .i64) (.cons (.sl (.int .i64)) (.cons (.sl (.int .i64)) (.cons (.sl (.int .i64)) (.nil))))))) (.cons (.sl (.cons (.int .i64) (.cons (.int .i64) (.nil)))) (.cons (.int .i64) (.cons (.int .i64) (.cons (.int .i64) (.cons (.sl (.int .i64)) (.cons (.sl (.cons (.int .i64) (.cons (.int .i64) (.cons (.sl (.int .i64)) (.cons (.sl (.int .i64)) (.cons (.sl (.int .i64)) (.nil))))))) (.cons (.sl (.cons (.int .i64) (.cons (.int .i64) (.nil)))) (.cons (.int .i64) (.nil))))))))))))))))))))))))))))))))), []⟩) else none, fun i => []⟩
noncomputable def G_crossbarlaw27_Av1Known : Ctx := fun n => if n = 6 then some ⟨in_crossbarlaw27_awake, out_crossbarlaw27_awake, F_crossbarlaw27_awake⟩ else if n = 7 then some ⟨in_crossbarref27_Short, out_crossbarref27_Short, F_crossbarref27_Short⟩ else if n = 8 then some ⟨in_crossbarref26_Short, out_crossbarref26_Short, F_crossbarref26_Short⟩ else if n = 10 then some ⟨in_av1_Write, out_av1_Write, F_av1_Write⟩ else if n = 11 then some ⟨in_av1_Whole, out_av1_Whole, F_av1_Whole⟩ else if n = 20 then some ⟨in_av1_Known, out_av1_Known, F_av1_Known⟩ else if n = 24 then some ⟨in_templ_Right, out_templ_Right, F_templ_Right⟩ else if n = 25 then some ⟨in_templ_Same, out_templ_Same, F_templ_Same⟩ else none
noncomputable def F_crossbarlaw27_Av1Known : Den (chain (in_crossbarlaw27_Av1Known.map PK.ty)) → Option (Den (chain (out_crossbarlaw27_Av1Known.map OK.ty ++ statesOf in_crossbarlaw27_Av1Known))) := fnK tab G_crossbarlaw27_Av1Known an_crossbarlaw27_Av1Known 1000000 Go.Proofs.Try.f5 (bodyOf Go.Proofs.Try.f5) in_crossbarlaw27_Av1Known out_crossbarlaw27_Av1Known
theorem S_crossbarlaw27_Av1Known : Sound Go.Proofs.Try.prog 5 ⟨in_crossbarlaw27_Av1Known, out_crossbarlaw27_Av1Known, F_crossbarlaw27_Av1Known⟩ := sound_fn tab_ok follows (Γ := G_crossbarlaw27_Av1Known) (fun f con h => by
    unfold G_crossbarlaw27_Av1Known at h
    split at h
    · rename_i e; subst e; cases h; exact S_crossbarlaw27_awake
    split at h
    · rename_i e; subst e; cases h; exact S_crossbarref27_Short
    split at h
    · rename_i e; subst e; cases h; exact S_crossbarref26_Short
    split at h
    · rename_i e; subst e; cases h; exact S_av1_Write
    split at h
    · rename_i e; subst e; cases h; exact S_av1_Whole
    split at h
    · rename_i e; subst e; cases h; exact S_av1_Known
    split at h
    · rename_i e; subst e; cases h; exact S_templ_Right
    split at h
    · rename_i e; subst e; cases h; exact S_templ_Same
    cases h) (by kernel_rfl) (by kernel_rfl) (by kernel_rfl) (by kernel_rfl)
/-- crossbarref27.Of -/
@[reducible] def in_crossbarref27_Of : List PK := [.v (.cons (.bool) (.cons (.bool) (.cons (.int .i64) (.cons (.int .i64) (.cons (.bool) (.cons (.cons (.int .i64) (.cons (.int .i64) (.cons (.int .i64) (.cons (.sl (.int .i64)) (.cons (.sl (.cons (.int .i64) (.cons (.int .i64) (.cons (.sl (.int .i64)) (.cons (.sl (.int .i64)) (.cons (.sl (.int .i64)) (.nil))))))) (.cons (.sl (.cons (.int .i64) (.cons (.int .i64) (.nil)))) (.nil))))))) (.cons (.bool) (.cons (.int .u32) (.cons (.bool) (.cons (.sl (.int .i64)) (.cons (.bool) (.cons (.sl (.int .i64)) (.cons (.bool) (.cons (.sl (.int .i64)) (.nil))))))))))))))), .v (.cons (.int .i64) (.cons (.int .i64) (.cons (.int .i64) (.cons (.sl (.int .i64)) (.cons (.sl (.cons (.int .i64) (.cons (.int .i64) (.cons (.sl (.int .i64)) (.cons (.sl (.int .i64)) (.cons (.sl (.int .i64)) (.nil))))))) (.cons (.sl (.cons (.int .i64) (.cons (.int .i64) (.nil)))) (.nil)))))))]
@[reducible] def out_crossbarref27_Of : List OK := [.v (.cons (.int .i64) (.cons (.int .i64) (.cons (.int .i64) (.cons (.sl (.int .i64)) (.cons (.sl (.cons (.int .i64) (.cons (.int .i64) (.cons (.sl (.int .i64)) (.cons (.sl (.int .i64)) (.cons (.sl (.int .i64)) (.nil))))))) (.cons (.sl (.cons (.int .i64) (.cons (.int .i64) (.nil)))) (.nil)))))))]
def an_crossbarref27_Of : Anns := ⟨fun r => none, fun t => none, fun i => []⟩
noncomputable def G_crossbarref27_Of : Ctx := fun n => none
noncomputable def F_crossbarref27_Of : Den (chain (in_crossbarref27_Of.map PK.ty)) → Option (Den (chain (out_crossbarref27_Of.map OK.ty ++ statesOf in_crossbarref27_Of))) := fnK tab G_crossbarref27_Of an_crossbarref27_Of 1000000 Go.Proofs.Try.f12 (bodyOf Go.Proofs.Try.f12) in_crossbarref27_Of out_crossbarref27_Of
theorem S_crossbarref27_Of : Sound Go.Proofs.Try.prog 12 ⟨in_crossbarref27_Of, out_crossbarref27_Of, F_crossbarref27_Of⟩ := sound_fn tab_ok follows (Γ := G_crossbarref27_Of) (fun f con h => by
    unfold G_crossbarref27_Of at h
    cases h) (by kernel_rfl) (by kernel_rfl) (by kernel_rfl) (by kernel_rfl)
/-- crossbarref26.all -/
@[reducible] def in_crossbarref26_all : List PK := [.v (.sl (.int .i64)), .v (.int .i64), .v (.int .i64)]
@[reducible] def out_crossbarref26_all : List OK := [.v (.bool)]
def an_crossbarref26_all : Anns := ⟨fun r => if r = 2 then some ⟨[.sv 0, .sv 1, .sv 2, .sv 7], (.cons (.sl (.int .i64)) (.cons (.int .i64) (.cons (.int .i64) (.cons (.int .i64) (.nil))))), []⟩ else none, fun t => none, fun i => []⟩
noncomputable def G_crossbarref26_all : Ctx := fun n => none
noncomputable def F_crossbarref26_all : Den (chain (in_crossbarref26_all.map PK.ty)) → Option (Den (chain (out_crossbarref26_all.map OK.ty ++ statesOf in_crossbarref26_all))) := fnK tab G_crossbarref26_all an_crossbarref26_all 1000000 Go.Proofs.Try.f66 (bodyOf Go.Proofs.Try.f66) in_crossbarref26_all out_crossbarref26_all
theorem S_crossbarref26_all : Sound Go.Proofs.Try.prog 66 ⟨in_crossbarref26_all, out_crossbarref26_all, F_crossbarref26_all⟩ := sound_fn tab_ok follows (Γ := G_crossbarref26_all) (fun f con h => by
    unfold G_crossbarref26_all at h
    cases h) (by kernel_rfl) (by kernel_rfl) (by kernel_rfl) (by kernel_rfl)
/-- crossbarref26.Right -/
@[reducible] def in_crossbarref26_Right : List PK := [.v (.cons (.int .i64) (.cons (.int .i64) (.cons (.int .i64) (.cons (.sl (.int .i64)) (.cons (.sl (.cons (.int .i64) (.cons (.int .i64) (.cons (.sl (.int .i64)) (.cons (.sl (.int .i64)) (.cons (.sl (.int .i64)) (.nil))))))) (.cons (.sl (.cons (.int .i64) (.cons (.int .i64) (.nil)))) (.nil)))))))]
@[reducible] def out_crossbarref26_Right : List OK := [.v (.bool)]
def an_crossbarref26_Right : Anns := ⟨fun r => if r = 7 then some ⟨[.bx 1 false [.v, .v, .v, .v, .v, .v], .cst 1 (.box 1 0), .sv 3, .sv 4, .sv 5], (.cons (.int .i64) (.cons (.int .i64) (.cons (.int .i64) (.cons (.sl (.int .i64)) (.cons (.sl (.cons (.int .i64) (.cons (.int .i64) (.cons (.sl (.int .i64)) (.cons (.sl (.int .i64)) (.cons (.sl (.int .i64)) (.nil))))))) (.cons (.sl (.cons (.int .i64) (.cons (.int .i64) (.nil)))) (.cons (.int .i64) (.cons (.int .i64) (.cons (.int .i64) (.nil)))))))))), []⟩ else if r = 20 then some ⟨[.bx 1 false [.v, .v, .v, .v, .v, .v], .cst 1 (.box 1 0), .sv 3, .sv 9], (.cons (.int .i64) (.cons (.int .i64) (.cons (.int .i64) (.cons (.sl (.int .i64)) (.cons (.sl (.cons (.int .i64) (.cons (.int .i64) (.cons (.sl (.int .i64)) (.cons (.sl (.int .i64)) (.cons (.sl (.int .i64)) (.nil))))))) (.cons (.sl (.cons (.int .i64) (.cons (.int .i64) (.nil)))) (.cons (.int .i64) (.cons (.int .i64) (.nil))))))))), []⟩ else none, fun t => none, fun i => []⟩
noncomputable def G_crossbarref26_Right : Ctx := fun n => if n = 66 then some ⟨in_crossbarref26_all, out_crossbarref26_all, F_crossbarref26_all⟩ else none
noncomputable def F_crossbarref26_Right : Den (chain (in_crossbarref26_Right.map PK.ty)) → Option (Den (chain (out_crossbarref26_Right.map OK.ty ++ statesOf in_crossbarref26_Right))) := fnK tab G_crossbarref26_Right an_crossbarref26_Right 1000000 Go.Proofs.Try.f27 (bodyOf Go.Proofs.Try.f27) in_crossbarref26_Right out_crossbarref26_Right
theorem S_crossbarref26_Right : Sound Go.Proofs.Try.prog 27 ⟨in_crossbarref26_Right, out_crossbarref26_Right, F_crossbarref26_Right⟩ := sound_fn tab_ok follows (Γ := G_crossbarref26_Right) (fun f con h => by
    unfold G_crossbarref26_Right at h
    split at h
    · rename_i e; subst e; cases h; exact S_crossbarref26_all
    cases h) (by kernel_rfl) (by kernel_rfl) (by kernel_rfl) (by kernel_rfl)
/-- crossbarref27.May -/
@[reducible] def in_crossbarref27_May : List PK := [.v (.cons (.int .i64) (.cons (.int .i64) (.cons (.int .i64) (.cons (.sl (.int .i64)) (.cons (.sl (.cons (.int .i64) (.cons (.int .i64) (.cons (.sl (.int .i64)) (.cons (.sl (.int .i64)) (.cons (.sl (.int .i64)) (.nil))))))) (.cons (.sl (.cons (.int .i64) (.cons (.int .i64) (.nil)))) (.nil)))))))]
@[reducible] def out_crossbarref27_May : List OK := [.v (.bool)]
def an_crossbarref27_May : Anns := ⟨fun r => none, fun t => none, fun i => []⟩
noncomputable def G_crossbarref27_May : Ctx := fun n => if n = 19 then some ⟨in_crossbarref26_Same, out_crossbarref26_Same, F_crossbarref26_Same⟩ else if n = 27 then some ⟨in_crossbarref26_Right, out_crossbarref26_Right, F_crossbarref26_Right⟩ else none
noncomputable def F_crossbarref27_May : Den (chain (in_crossbarref27_May.map PK.ty)) → Option (Den (chain (out_crossbarref27_May.map OK.ty ++ statesOf in_crossbarref27_May))) := fnK tab G_crossbarref27_May an_crossbarref27_May 1000000 Go.Proofs.Try.f26 (bodyOf Go.Proofs.Try.f26) in_crossbarref27_May out_crossbarref27_May
theorem S_crossbarref27_May : Sound Go.Proofs.Try.prog 26 ⟨in_crossbarref27_May, out_crossbarref27_May, F_crossbarref27_May⟩ := sound_fn tab_ok follows (Γ := G_crossbarref27_May) (fun f con h => by
    unfold G_crossbarref27_May at h
    split at h
    · rename_i e; subst e; cases h; exact S_crossbarref26_Same
    split at h
    · rename_i e; subst e; cases h; exact S_crossbarref26_Right
    cases h) (by kernel_rfl) (by kernel_rfl) (by kernel_rfl) (by kernel_rfl)
/-- crossbarref27.Place -/
@[reducible] def in_crossbarref27_Place : List PK := [.v (.int .i64), .v (.cons (.int .i64) (.cons (.int .i64) (.cons (.int .i64) (.cons (.sl (.int .i64)) (.cons (.sl (.cons (.int .i64) (.cons (.int .i64) (.cons (.sl (.int .i64)) (.cons (.sl (.int .i64)) (.cons (.sl (.int .i64)) (.nil))))))) (.cons (.sl (.cons (.int .i64) (.cons (.int .i64) (.nil)))) (.nil)))))))]
@[reducible] def out_crossbarref27_Place : List OK := [.v (.int .i64)]
def an_crossbarref27_Place : Anns := ⟨fun r => if r = 2 then some ⟨[.bx 3 false [.v, .v, .v, .v, .v, .v], .sv 0, .cst 3 (.box 3 0), .sv 5], (.cons (.int .i64) (.cons (.int .i64) (.cons (.int .i64) (.cons (.sl (.int .i64)) (.cons (.sl (.cons (.int .i64) (.cons (.int .i64) (.cons (.sl (.int .i64)) (.cons (.sl (.int .i64)) (.cons (.sl (.int .i64)) (.nil))))))) (.cons (.sl (.cons (.int .i64) (.cons (.int .i64) (.nil)))) (.cons (.int .i64) (.cons (.int .i64) (.nil))))))))), []⟩ else none, fun t => none, fun i => []⟩
noncomputable def G_crossbarref27_Place : Ctx := fun n => none
noncomputable def F_crossbarref27_Place : Den (chain (in_crossbarref27_Place.map PK.ty)) → Option (Den (chain (out_crossbarref27_Place.map OK.ty ++ statesOf in_crossbarref27_Place))) := fnK tab G_crossbarref27_Place an_crossbarref27_Place 1000000 Go.Proofs.Try.f28 (bodyOf Go.Proofs.Try.f28) in_crossbarref27_Place out_crossbarref27_Place
theorem S_crossbarref27_Place : Sound Go.Proofs.Try.prog 28 ⟨in_crossbarref27_Place, out_crossbarref27_Place, F_crossbarref27_Place⟩ := sound_fn tab_ok follows (Γ := G_crossbarref27_Place) (fun f con h => by
    unfold G_crossbarref27_Place at h
    cases h) (by kernel_rfl) (by kernel_rfl) (by kernel_rfl) (by kernel_rfl)
/-- crossbarref27.all -/
@[reducible] def in_crossbarref27_all : List PK := [.v (.sl (.int .i64)), .v (.int .i64), .v (.int .i64)]
@[reducible] def out_crossbarref27_all : List OK := [.v (.bool)]
def an_crossbarref27_all : Anns := ⟨fun r => if r = 2 then some ⟨[.sv 0, .sv 1, .sv 2, .sv 7], (.cons (.sl (.int .i64)) (.cons (.int .i64) (.cons (.int .i64) (.cons (.int .i64) (.nil))))), []⟩ else none, fun t => none, fun i => []⟩
noncomputable def G_crossbarref27_all : Ctx := fun n => none
noncomputable def F_crossbarref27_all : Den (chain (in_crossbarref27_all.map PK.ty)) → Option (Den (chain (out_crossbarref27_all.map OK.ty ++ statesOf in_crossbarref27_all))) := fnK tab G_crossbarref27_all an_crossbarref27_all 1000000 Go.Proofs.Try.f29 (bodyOf Go.Proofs.Try.f29) in_crossbarref27_all out_crossbarref27_all
theorem S_crossbarref27_all : Sound Go.Proofs.Try.prog 29 ⟨in_crossbarref27_all, out_crossbarref27_all, F_crossbarref27_all⟩ := sound_fn tab_ok follows (Γ := G_crossbarref27_all) (fun f con h => by
    unfold G_crossbarref27_all at h
    cases h) (by kernel_rfl) (by kernel_rfl) (by kernel_rfl) (by kernel_rfl)
/-- crossbarref27.Right -/
@[reducible] def in_crossbarref27_Right : List PK := [.v (.cons (.bool) (.cons (.bool) (.cons (.int .i64) (.cons (.int .i64) (.cons (.bool) (.cons (.cons (.int .i64) (.cons (.int .i64) (.cons (.int .i64) (.cons (.sl (.int .i64)) (.cons (.sl (.cons (.int .i64) (.cons (.int .i64) (.cons (.sl (.int .i64)) (.cons (.sl (.int .i64)) (.cons (.sl (.int .i64)) (.nil))))))) (.cons (.sl (.cons (.int .i64) (.cons (.int .i64) (.nil)))) (.nil))))))) (.cons (.bool) (.cons (.int .u32) (.cons (.bool) (.cons (.sl (.int .i64)) (.cons (.bool) (.cons (.sl (.int .i64)) (.cons (.bool) (.cons (.sl (.int .i64)) (.nil))))))))))))))), .v (.cons (.int .i64) (.cons (.int .i64) (.cons (.int .i64) (.cons (.sl (.int .i64)) (.cons (.sl (.cons (.int .i64) (.cons (.int .i64) (.cons (.sl (.int .i64)) (.cons (.sl (.int .i64)) (.cons (.sl (.int .i64)) (.nil))))))) (.cons (.sl (.cons (.int .i64) (.cons (.int .i64) (.nil)))) (.nil)))))))]
@[reducible] def out_crossbarref27_Right : List OK := [.v (.bool)]
def an_crossbarref27_Right : Anns := ⟨fun r => if r = 8 then some ⟨[.bx 2 false [.v, .v, .v, .v, .v, .v, .v, .v, .v, .v, .v, .v, .v, .v, .v, .v, .v, .v, .v], .bx 5 false [.v, .v, .v, .v, .v, .v], .cst 2 (.box 2 0), .cst 5 (.box 5 0), .sv 6, .sv 7], (.cons (.bool) (.cons (.bool) (.cons (.int .i64) (.cons (.int .i64) (.cons (.bool) (.cons (.int .i64) (.cons (.int .i64) (.cons (.int .i64) (.cons (.sl (.int .i64)) (.cons (.sl (.cons (.int .i64) (.cons (.int .i64) (.cons (.sl (.int .i64)) (.cons (.sl (.int .i64)) (.cons (.sl (.int .i64)) (.nil))))))) (.cons (.sl (.cons (.int .i64) (.cons (.int .i64) (.nil)))) (.cons (.bool) (.cons (.int .u32) (.cons (.bool) (.cons (.sl (.int .i64)) (.cons (.bool) (.cons (.sl (.int .i64)) (.cons (.bool) (.cons (.sl (.int .i64)) (.cons (.int .i64) (.cons (.int .i64) (.cons (.int .i64) (.cons (.sl (.int .i64)) (.cons (.sl (.cons (.int .i64) (.cons (.int .i64) (.cons (.sl (.int .i64)) (.cons (.sl (.int .i64)) (.cons (.sl (.int .i64)) (.nil))))))) (.cons (.sl (.cons (.int .i64) (.cons (.int .i64) (.nil)))) (.cons (.int .u64) (.cons (.int .i64) (.nil)))))))))))))))))))))))))))), []⟩ else none, fun t => none, fun i => []⟩
noncomputable def G_crossbarref27_Right : Ctx := fun n => if n = 12 then some ⟨in_crossbarref27_Of, out_crossbarref27_Of, F_crossbarref27_Of⟩ else if n = 19 then some ⟨in_crossbarref26_Same, out_crossbarref26_Same, F_crossbarref26_Same⟩ else if n = 26 then some ⟨in_crossbarref27_May, out_crossbarref27_May, F_crossbarref27_May⟩ else if n = 27 then some ⟨in_crossbarref26_Right, out_crossbarref26_Right, F_crossbarref26_Right⟩ else if n = 28 then some ⟨in_crossbarref27_Place, out_crossbarref27_Place, F_crossbarref27_Place⟩ else if n = 29 then some ⟨in_crossbarref27_all, out_crossbarref27_all, F_crossbarref27_all⟩ else none
noncomputable def F_crossbarref27_Right : Den (chain (in_crossbarref27_Right.map PK.ty)) → Option (Den (chain (out_crossbarref27_Right.map OK.ty ++ statesOf in_crossbarref27_Right))) := fnK tab G_crossbarref27_Right an_crossbarref27_Right 1000000 Go.Proofs.Try.f9 (bodyOf Go.Proofs.Try.f9) in_crossbarref27_Right out_crossbarref27_Right
theorem S_crossbarref27_Right : Sound Go.Proofs.Try.prog 9 ⟨in_crossbarref27_Right, out_crossbarref27_Right, F_crossbarref27_Right⟩ := sound_fn tab_ok follows (Γ := G_crossbarref27_Right) (fun f con h => by
    unfold G_crossbarref27_Right at h
    split at h
    · rename_i e; subst e; cases h; exact S_crossbarref27_Of
    split at h
    · rename_i e; subst e; cases h; exact S_crossbarref26_Same
    split at h
    · rename_i e; subst e; cases h; exact S_crossbarref27_May
    split at h
    · rename_i e; subst e; cases h; exact S_crossbarref26_Right
    split at h
    · rename_i e; subst e; cases h; exact S_crossbarref27_Place
    split at h
    · rename_i e; subst e; cases h; exact S_crossbarref27_all
    cases h) (by kernel_rfl) (by kernel_rfl) (by kernel_rfl) (by kernel_rfl)
/-- crossbarref02.bit -/
@[reducible] def in_crossbarref02_bit : List PK := [.v (.sl (.int .u8)), .v (.int .i64)]
@[reducible] def out_crossbarref02_bit : List OK := [.v (.int .u64)]
def an_crossbarref02_bit : Anns := ⟨fun r => if r = 3 then some ⟨[.sv 1, .sv 5, .sv 6], (.cons (.int .i64) (.cons (.int .u8) (.cons (.int .i64) (.nil)))), []⟩ else none, fun t => none, fun i => []⟩
noncomputable def G_crossbarref02_bit : Ctx := fun n => none
noncomputable def F_crossbarref02_bit : Den (chain (in_crossbarref02_bit.map PK.ty)) → Option (Den (chain (out_crossbarref02_bit.map OK.ty ++ statesOf in_crossbarref02_bit))) := fnK tab G_crossbarref02_bit an_crossbarref02_bit 1000000 Go.Proofs.Try.f98 (bodyOf Go.Proofs.Try.f98) in_crossbarref02_bit out_crossbarref02_bit
theorem S_crossbarref02_bit : Sound Go.Proofs.Try.prog 98 ⟨in_crossbarref02_bit, out_crossbarref02_bit, F_crossbarref02_bit⟩ := sound_fn tab_ok follows (Γ := G_crossbarref02_bit) (fun f con h => by
    unfold G_crossbarref02_bit at h
    cases h) (by kernel_rfl) (by kernel_rfl) (by kernel_rfl) (by kernel_rfl)
/-- crossbarref02.Ink -/
@[reducible] def in_crossbarref02_Ink : List PK := [.v (.cons (.sl (.int .u8)) (.cons (.int .i64) (.nil)))]
@[reducible] def out_crossbarref02_Ink : List OK := [.v (.bool)]
def an_crossbarref02_Ink : Anns := ⟨fun r => if r = 4 then some ⟨[.bx 1 false [.v, .v], .cst 1 (.box 1 0), .sv 3], (.cons (.sl (.int .u8)) (.cons (.int .i64) (.cons (.int .i64) (.nil)))), []⟩ else none, fun t => none, fun i => []⟩
noncomputable def G_crossbarref02_Ink : Ctx := fun n => if n = 98 then some ⟨in_crossbarref02_bit, out_crossbarref02_bit, F_crossbarref02_bit⟩ else none
noncomputable def F_crossbarref02_Ink : Den (chain (in_crossbarref02_Ink.map PK.ty)) → Option (Den (chain (out_crossbarref02_Ink.map OK.ty ++ statesOf in_crossbarref02_Ink))) := fnK tab G_crossbarref02_Ink an_crossbarref02_Ink 1000000 Go.Proofs.Try.f84 (bodyOf Go.Proofs.Try.f84) in_crossbarref02_Ink out_crossbarref02_Ink
theorem S_crossbarref02_Ink : Sound Go.Proofs.Try.prog 84 ⟨in_crossbarref02_Ink, out_crossbarref02_Ink, F_crossbarref02_Ink⟩ := sound_fn tab_ok follows (Γ := G_crossbarref02_Ink) (fun f con h => by
    unfold G_crossbarref02_Ink at h
    split at h
    · rename_i e; subst e; cases h; exact S_crossbarref02_bit
    cases h) (by kernel_rfl) (by kernel_rfl) (by kernel_rfl) (by kernel_rfl)
/-- crossbarref02.Add -/
@[reducible] def in_crossbarref02_Add : List PK := [.v (.cons (.sl (.int .u8)) (.cons (.int .i64) (.nil))), .v (.int .u64), .v (.int .i64)]
@[reducible] def out_crossbarref02_Add : List OK := [.v (.cons (.sl (.int .u8)) (.cons (.int .i64) (.nil))), .v (.int .i64)]
def an_crossbarref02_Add : Anns := ⟨fun r => if r = 5 then some ⟨[.bx 3 false [.v, .v], .bx 6 false [.v, .v], .sv 1, .sv 2, .cst 3 (.box 3 0), .cst 6 (.box 6 0), .row 8 100008 5, .sv 9], (.cons (.sl (.int .u8)) (.cons (.int .i64) (.cons (.sl (.int .u8)) (.cons (.int .i64) (.cons (.int .u64) (.cons (.int .i64) (.cons (.sl (.int .u8)) (.cons (.int .i64) (.nil))))))))), []⟩ else if r = 13 then some ⟨[.bx 6 false [.v, .v], .bx 10 false [.row 201000 5, .v], .cst 6 (.box 6 0), .row 8 100008 5, .cst 10 (.box 10 0), .sv 11], (.cons (.sl (.int .u8)) (.cons (.int .i64) (.cons (.sl (.int .u8)) (.cons (.int .i64) (.cons (.sl (.int .u8)) (.cons (.int .i64) (.nil))))))), []⟩ else if r = 19 then some ⟨[.bx 6 false [.v, .v], .bx 10 false [.row 201000 5, .v], .cst 6 (.box 6 0), .row 8 100008 5, .cst 10 (.box 10 0), .sv 11, .sv 12, .sv 13], (.cons (.sl (.int .u8)) (.cons (.int .i64) (.cons (.sl (.int .u8)) (.cons (.int .i64) (.cons (.sl (.int .u8)) (.cons (.int .i64) (.cons (.int .u8) (.cons (.int .i64) (.nil))))))))), []⟩ else none, fun t => if t = 58 then some (true, ⟨[.bx 6 false [.v, .v], .bx 10 false [.row 201000 5, .v], .cst 6 (.box 6 0), .row 8 100008 5, .cst 10 (.box 10 0), .sv 11], (.cons (.sl (.int .u8)) (.cons (.int .i64) (.cons (.sl (.int .u8)) (.cons (.int .i64) (.cons (.sl (.int .u8)) (.cons (.int .i64) (.nil))))))), []⟩) else none, fun i => []⟩
noncomputable def G_crossbarref02_Add : Ctx := fun n => if n = 84 then some ⟨in_crossbarref02_Ink, out_crossbarref02_Ink, F_crossbarref02_Ink⟩ else none
noncomputable def F_crossbarref02_Add : Den (chain (in_crossbarref02_Add.map PK.ty)) → Option (Den (chain (out_crossbarref02_Add.map OK.ty ++ statesOf in_crossbarref02_Add))) := fnK tab G_crossbarref02_Add an_crossbarref02_Add 1000000 Go.Proofs.Try.f71 (bodyOf Go.Proofs.Try.f71) in_crossbarref02_Add out_crossbarref02_Add
theorem S_crossbarref02_Add : Sound Go.Proofs.Try.prog 71 ⟨in_crossbarref02_Add, out_crossbarref02_Add, F_crossbarref02_Add⟩ := sound_fn tab_ok follows (Γ := G_crossbarref02_Add) (fun f con h => by
    unfold G_crossbarref02_Add at h
    split at h
    · rename_i e; subst e; cases h; exact S_crossbarref02_Ink
    cases h) (by kernel_rfl) (by kernel_rfl) (by kernel_rfl) (by kernel_rfl)
/-- crossbarref27.add -/
@[reducible] def in_crossbarref27_add : List PK := [.v (.cons (.sl (.int .u8)) (.cons (.int .i64) (.nil))), .v (.int .i64), .v (.int .i64)]
@[reducible] def out_crossbarref27_add : List OK := [.v (.cons (.sl (.int .u8)) (.cons (.int .i64) (.nil)))]
def an_crossbarref27_add : Anns := ⟨fun r => none, fun t => none, fun i => []⟩
noncomputable def G_crossbarref27_add : Ctx := fun n => if n = 71 then some ⟨in_crossbarref02_Add, out_crossbarref02_Add, F_crossbarref02_Add⟩ else none
noncomputable def F_crossbarref27_add : Den (chain (in_crossbarref27_add.map PK.ty)) → Option (Den (chain (out_crossbarref27_add.map OK.ty ++ statesOf in_crossbarref27_add))) := fnK tab G_crossbarref27_add an_crossbarref27_add 1000000 Go.Proofs.Try.f37 (bodyOf Go.Proofs.Try.f37) in_crossbarref27_add out_crossbarref27_add
theorem S_crossbarref27_add : Sound Go.Proofs.Try.prog 37 ⟨in_crossbarref27_add, out_crossbarref27_add, F_crossbarref27_add⟩ := sound_fn tab_ok follows (Γ := G_crossbarref27_add) (fun f con h => by
    unfold G_crossbarref27_add at h
    split at h
    · rename_i e; subst e; cases h; exact S_crossbarref02_Add
    cases h) (by kernel_rfl) (by kernel_rfl) (by kernel_rfl) (by kernel_rfl)
/-- crossbarref27.one -/
@[reducible] def in_crossbarref27_one : List PK := [.v (.bool)]
@[reducible] def out_crossbarref27_one : List OK := [.v (.int .i64)]
def an_crossbarref27_one : Anns := ⟨fun r => none, fun t => none, fun i => []⟩
noncomputable def G_crossbarref27_one : Ctx := fun n => none
noncomputable def F_crossbarref27_one : Den (chain (in_crossbarref27_one.map PK.ty)) → Option (Den (chain (out_crossbarref27_one.map OK.ty ++ statesOf in_crossbarref27_one))) := fnK tab G_crossbarref27_one an_crossbarref27_one 1000000 Go.Proofs.Try.f38 (bodyOf Go.Proofs.Try.f38) in_crossbarref27_one out_crossbarref27_one
theorem S_crossbarref27_one : Sound Go.Proofs.Try.prog 38 ⟨in_crossbarref27_one, out_crossbarref27_one, F_crossbarref27_one⟩ := sound_fn tab_ok follows (Γ := G_crossbarref27_one) (fun f con h => by
    unfold G_crossbarref27_one at h
    cases h) (by kernel_rfl) (by kernel_rfl) (by kernel_rfl) (by kernel_rfl)
/-- crossbarref26.add -/
@[reducible] def in_crossbarref26_add : List PK := [.v (.cons (.sl (.int .u8)) (.cons (.int .i64) (.nil))), .v (.int .i64), .v (.int .i64)]
@[reducible] def out_crossbarref26_add : List OK := [.v (.cons (.sl (.int .u8)) (.cons (.int .i64) (.nil)))]
def an_crossbarref26_add : Anns := ⟨fun r => none, fun t => none, fun i => []⟩
noncomputable def G_crossbarref26_add : Ctx := fun n => if n = 71 then some ⟨in_crossbarref02_Add, out_crossbarref02_Add, F_crossbarref02_Add⟩ else none
noncomputable def F_crossbarref26_add : Den (chain (in_crossbarref26_add.map PK.ty)) → Option (Den (chain (out_crossbarref26_add.map OK.ty ++ statesOf in_crossbarref26_add))) := fnK tab G_crossbarref26_add an_crossbarref26_add 1000000 Go.Proofs.Try.f72 (bodyOf Go.Proofs.Try.f72) in_crossbarref26_add out_crossbarref26_add
theorem S_crossbarref26_add : Sound Go.Proofs.Try.prog 72 ⟨in_crossbarref26_add, out_crossbarref26_add, F_crossbarref26_add⟩ := sound_fn tab_ok follows (Γ := G_crossbarref26_add) (fun f con h => by
    unfold G_crossbarref26_add at h
    split at h
    · rename_i e; subst e; cases h; exact S_crossbarref02_Add
    cases h) (by kernel_rfl) (by kernel_rfl) (by kernel_rfl) (by kernel_rfl)
/-- crossbarref02.Spread -/
@[reducible] def in_crossbarref02_Spread : List PK := [.v (.int .u64)]
@[reducible] def out_crossbarref02_Spread : List OK := [.v (.int .i64), .v (.int .u64)]
def an_crossbarref02_Spread : Anns := ⟨fun r => if r = 3 then some ⟨[.sv 0, .sv 4, .sv 5], (.cons (.int .u64) (.cons (.int .i64) (.cons (.int .u64) (.nil)))), []⟩ else none, fun t => none, fun i => []⟩
noncomputable def G_crossbarref02_Spread : Ctx := fun n => none
noncomputable def F_crossbarref02_Spread : Den (chain (in_crossbarref02_Spread.map PK.ty)) → Option (Den (chain (out_crossbarref02_Spread.map OK.ty ++ statesOf in_crossbarref02_Spread))) := fnK tab G_crossbarref02_Spread an_crossbarref02_Spread 1000000 Go.Proofs.Try.f85 (bodyOf Go.Proofs.Try.f85) in_crossbarref02_Spread out_crossbarref02_Spread
theorem S_crossbarref02_Spread : Sound Go.Proofs.Try.prog 85 ⟨in_crossbarref02_Spread, out_crossbarref02_Spread, F_crossbarref02_Spread⟩ := sound_fn tab_ok follows (Γ := G_crossbarref02_Spread) (fun f con h => by
    unfold G_crossbarref02_Spread at h
    cases h) (by kernel_rfl) (by kernel_rfl) (by kernel_rfl) (by kernel_rfl)
/-- crossbarref02.AddRange -/
@[reducible] def in_crossbarref02_AddRange : List PK := [.v (.cons (.sl (.int .u8)) (.cons (.int .i64) (.nil))), .v (.int .u64), .v (.int .u64)]
@[reducible] def out_crossbarref02_AddRange : List OK := [.v (.cons (.sl (.int .u8)) (.cons (.int .i64) (.nil))), .v (.int .i64)]
def an_crossbarref02_AddRange : Anns := ⟨fun r => none, fun t => none, fun i => []⟩
noncomputable def G_crossbarref02_AddRange : Ctx := fun n => if n = 71 then some ⟨in_crossbarref02_Add, out_crossbarref02_Add, F_crossbarref02_Add⟩ else if n = 84 then some ⟨in_crossbarref02_Ink, out_crossbarref02_Ink, F_crossbarref02_Ink⟩ else if n = 85 then some ⟨in_crossbarref02_Spread, out_crossbarref02_Spread, F_crossbarref02_Spread⟩ else none
noncomputable def F_crossbarref02_AddRange : Den (chain (in_crossbarref02_AddRange.map PK.ty)) → Option (Den (chain (out_crossbarref02_AddRange.map OK.ty ++ statesOf in_crossbarref02_AddRange))) := fnK tab G_crossbarref02_AddRange an_crossbarref02_AddRange 1000000 Go.Proofs.Try.f73 (bodyOf Go.Proofs.Try.f73) in_crossbarref02_AddRange out_crossbarref02_AddRange
theorem S_crossbarref02_AddRange : Sound Go.Proofs.Try.prog 73 ⟨in_crossbarref02_AddRange, out_crossbarref02_AddRange, F_crossbarref02_AddRange⟩ := sound_fn tab_ok follows (Γ := G_crossbarref02_AddRange) (fun f con h => by
    unfold G_crossbarref02_AddRange at h
    split at h
    · rename_i e; subst e; cases h; exact S_crossbarref02_Add
    split at h
    · rename_i e; subst e; cases h; exact S_crossbarref02_Ink
    split at h
    · rename_i e; subst e; cases h; exact S_crossbarref02_Spread
    cases h) (by kernel_rfl) (by kernel_rfl) (by kernel_rfl) (by kernel_rfl)
/-- crossbarref26.Put -/
@[reducible] def in_crossbarref26_Put : List PK := [.v (.cons (.sl (.int .u8)) (.cons (.int .i64) (.nil))), .v (.cons (.int .i64) (.cons (.int .i64) (.cons (.int .i64) (.cons (.sl (.int .i64)) (.cons (.sl (.cons (.int .i64) (.cons (.int .i64) (.cons (.sl (.int .i64)) (.cons (.sl (.int .i64)) (.cons (.sl (.int .i64)) (.nil))))))) (.cons (.sl (.cons (.int .i64) (.cons (.int .i64) (.nil)))) (.nil)))))))]
@[reducible] def out_crossbarref26_Put : List OK := [.v (.cons (.sl (.int .u8)) (.cons (.int .i64) (.nil)))]
def an_crossbarref26_Put : Anns := ⟨fun r => if r = 4 then some ⟨[.bx 2 false [.v, .v], .bx 3 false [.v, .v, .v, .v, .v, .v], .bx 4 false [.v, .v], .cst 2 (.box 2 0), .cst 3 (.box 3 0), .cst 4 (.box 4 0), .sv 5, .sv 6], (.cons (.sl (.int .u8)) (.cons (.int .i64) (.cons (.int .i64) (.cons (.int .i64) (.cons (.int .i64) (.cons (.sl (.int .i64)) (.cons (.sl (.cons (.int .i64) (.cons (.int .i64) (.cons (.sl (.int .i64)) (.cons (.sl (.int .i64)) (.cons (.sl (.int .i64)) (.nil))))))) (.cons (.sl (.cons (.int .i64) (.cons (.int .i64) (.nil)))) (.cons (.sl (.int .u8)) (.cons (.int .i64) (.cons (.int .i64) (.cons (.int .i64) (.nil))))))))))))), []⟩ else if r = 16 then some ⟨[.bx 2 false [.v, .v], .bx 3 false [.v, .v, .v, .v, .v, .v], .bx 4 false [.v, .v], .cst 2 (.box 2 0), .cst 3 (.box 3 0), .cst 4 (.box 4 0), .sv 5, .sv 10], (.cons (.sl (.int .u8)) (.cons (.int .i64) (.cons (.int .i64) (.cons (.int .i64) (.cons (.int .i64) (.cons (.sl (.int .i64)) (.cons (.sl (.cons (.int .i64) (.cons (.int .i64) (.cons (.sl (.int .i64)) (.cons (.sl (.int .i64)) (.cons (.sl (.int .i64)) (.nil))))))) (.cons (.sl (.cons (.int .i64) (.cons (.int .i64) (.nil)))) (.cons (.sl (.int .u8)) (.cons (.int .i64) (.cons (.int .i64) (.cons (.int .i64) (.nil))))))))))))), []⟩ else if r = 19 then some ⟨[.bx 2 false [.v, .v], .bx 3 false [.v, .v, .v, .v, .v, .v], .bx 4 false [.v, .v], .cst 2 (.box 2 0), .cst 3 (.box 3 0), .cst 4 (.box 4 0), .sv 5, .sv 10, .sv 11], (.cons (.sl (.int .u8)) (.cons (.int .i64) (.cons (.int .i64) (.cons (.int .i64) (.cons (.int .i64) (.cons (.sl (.int .i64)) (.cons (.sl (.cons (.int .i64) (.cons (.int .i64) (.cons (.sl (.int .i64)) (.cons (.sl (.int .i64)) (.cons (.sl (.int .i64)) (.nil))))))) (.cons (.sl (.cons (.int .i64) (.cons (.int .i64) (.nil)))) (.cons (.sl (.int .u8)) (.cons (.int .i64) (.cons (.int .i64) (.cons (.int .i64) (.cons (.int .i64) (.nil)))))))))))))), []⟩ else if r = 23 then some ⟨[.bx 2 false [.v, .v], .bx 3 false [.v, .v, .v, .v, .v, .v], .bx 4 false [.v, .v], .cst 2 (.box 2 0), .cst 3 (.box 3 0), .cst 4 (.box 4 0), .sv 5, .sv 12], (.cons (.sl (.int .u8)) (.cons (.int .i64) (.cons (.int .i64) (.cons (.int .i64) (.cons (.int .i64) (.cons (.sl (.int .i64)) (.cons (.sl (.cons (.int .i64) (.cons (.int .i64) (.cons (.sl (.int .i64)) (.cons (.sl (.int .i64)) (.cons (.sl (.int .i64)) (.nil))))))) (.cons (.sl (.cons (.int .i64) (.cons (.int .i64) (.nil)))) (.cons (.sl (.int .u8)) (.cons (.int .i64) (.cons (.int .i64) (.cons (.int .i64) (.nil))))))))))))), []⟩ else if r = 27 then some ⟨[.bx 2 false [.v, .v], .bx 3 false [.v, .v, .v, .v, .v, .v], .bx 4 false [.v, .v], .cst 2 (.box 2 0), .cst 3 (.box 3 0), .cst 4 (.box 4 0), .sv 5, .sv 12, .sv 13, .sv 14], (.cons (.sl (.int .u8)) (.cons (.int .i64) (.cons (.int .i64) (.cons (.int .i64) (.cons (.int .i64) (.cons (.sl (.int .i64)) (.cons (.sl (.cons (.int .i64) (.cons (.int .i64) (.cons (.sl (.int .i64)) (.cons (.sl (.int .i64)) (.cons (.sl (.int .i64)) (.nil))))))) (.cons (.sl (.cons (.int .i64) (.cons (.int .i64) (.nil)))) (.cons (.sl (.int .u8)) (.cons (.int .i64) (.cons (.int .i64) (.cons (.int .i64) (.cons (.sl (.int .i64)) (.cons (.int .i64) (.nil))))))))))))))), []⟩ else if r = 33 then some ⟨[.bx 2 false [.v, .v], .bx 3 false [.v, .v, .v, .v, .v, .v], .bx 4 false [.v, .v], .cst 2 (.box 2 0), .cst 3 (.box 3 0), .cst 4 (.box 4 0), .sv 5, .sv 15], (.cons (.sl (.int .u8)) (.cons (.int .i64) (.cons (.int .i64) (.cons (.int .i64) (.cons (.int .i64) (.cons (.sl (.int .i64)) (.cons (.sl (.cons (.int .i64) (.cons (.int .i64) (.cons (.sl (.int .i64)) (.cons (.sl (.int .i64)) (.cons (.sl (.int .i64)) (.nil))))))) (.cons (.sl (.cons (.int .i64) (.cons (.int .i64) (.nil)))) (.cons (.sl (.int .u8)) (.cons (.int .i64) (.cons (.int .i64) (.cons (.int .i64) (.nil))))))))))))), []⟩ else if r = 37 then some ⟨[.bx 2 false [.v, .v], .bx 3 false [.v, .v, .v, .v, .v, .v], .bx 4 false [.v, .v], .cst 2 (.box 2 0), .cst 3 (.box 3 0), .cst 4 (.box 4 0), .sv 5, .sv 16], (.cons (.sl (.int .u8)) (.cons (.int .i64) (.cons (.int .i64) (.cons (.int .i64) (.cons (.int .i64) (.cons (.sl (.int .i64)) (.cons (.sl (.cons (.int .i64) (.cons (.int .i64) (.cons (.sl (.int .i64)) (.cons (.sl (.int .i64)) (.cons (.sl (.int .i64)) (.nil))))))) (.cons (.sl (.cons (.int .i64) (.cons (.int .i64) (.nil)))) (.cons (.sl (.int .u8)) (.cons (.int .i64) (.cons (.int .i64) (.cons (.int .i64) (.nil))))))))))))), []⟩ else if r = 40 then some ⟨[.bx 2 false [.v, .v], .bx 3 false [.v, .v, .v, .v, .v, .v], .bx 4 false [.v, .v], .cst 2 (.box 2 0), .cst 3 (.box 3 0), .cst 4 (.box 4 0), .sv 5, .sv 16, .sv 17], (.cons (.sl (.int .u8)) (.cons (.int .i64) (.cons (.int .i64) (.cons (.int .i64) (.cons (.int .i64) (.cons (.sl (.int .i64)) (.cons (.sl (.cons (.int .i64) (.cons (.int .i64) (.cons (.sl (.int .i64)) (.cons (.sl (.int .i64)) (.cons (.sl (.int .i64)) (.nil))))))) (.cons (.sl (.cons (.int .i64) (.cons (.int .i64) (.nil)))) (.cons (.sl (.int .u8)) (.cons (.int .i64) (.cons (.int .i64) (.cons (.int .i64) (.cons (.int .i64) (.nil)))))))))))))), []⟩ else if r = 47 then some ⟨[.bx 2 false [.v, .v], .bx 3 false [.v, .v, .v, .v, .v, .v], .bx 4 false [.v, .v], .cst 2 (.box 2 0), .cst 3 (.box 3 0), .cst 4 (.box 4 0), .sv 18], (.cons (.sl (.int .u8)) (.cons (.int .i64) (.cons (.int .i64) (.cons (.int .i64) (.cons (.int .i64) (.cons (.sl (.int .i64)) (.cons (.sl (.cons (.int .i64) (.cons (.int .i64) (.cons (.sl (.int .i64)) (.cons (.sl (.int .i64)) (.cons (.sl (.int .i64)) (.nil))))))) (.cons (.sl (.cons (.int .i64) (.cons (.int .i64) (.nil)))) (.cons (.sl (.int .u8)) (.cons (.int .i64) (.cons (.int .i64) (.nil)))))))))))), []⟩ else none, fun t => if t = 38 then some (true, ⟨[.bx 2 false [.v, .v], .bx 3 false [.v, .v, .v, .v, .v, .v], .bx 4 false [.v, .v], .cst 2 (.box 2 0), .cst 3 (.box 3 0), .cst 4 (.box 4 0), .sv 5, .sv 6, .sv 7], (.cons (.sl (.int .u8)) (.cons (.int .i64) (.cons (.int .i64) (.cons (.int .i64) (.cons (.int .i64) (.cons (.sl (.int .i64)) (.cons (.sl (.cons (.int .i64) (.cons (.int .i64) (.cons (.sl (.int .i64)) (.cons (.sl (.int .i64)) (.cons (.sl (.int .i64)) (.nil))))))) (.cons (.sl (.cons (.int .i64) (.cons (.int .i64) (.nil)))) (.cons (.sl (.int .u8)) (.cons (.int .i64) (.cons (.int .i64) (.cons (.int .i64) (.cons (.int .i64) (.nil)))))))))))))), []⟩) else if t = 54 then some (true, ⟨[.bx 2 false [.v, .v], .bx 3 false [.v, .v, .v, .v, .v, .v], .bx 4 false [.v, .v], .cst 2 (.box 2 0), .cst 3 (.box 3 0), .cst 4 (.box 4 0), .sv 5, .sv 6, .sv 7], (.cons (.sl (.int .u8)) (.cons (.int .i64) (.cons (.int .i64) (.cons (.int .i64) (.cons (.int .i64) (.cons (.sl (.int .i64)) (.cons (.sl (.cons (.int .i64) (.cons (.int .i64) (.cons (.sl (.int .i64)) (.cons (.sl (.int .i64)) (.cons (.sl (.int .i64)) (.nil))))))) (.cons (.sl (.cons (.int .i64) (.cons (.int .i64) (.nil)))) (.cons (.sl (.int .u8)) (.cons (.int .i64) (.cons (.int .i64) (.cons (.int .i64) (.cons (.int .i64) (.nil)))))))))))))), []⟩) else if t = 59 then some (true, ⟨[.bx 2 false [.v, .v], .bx 3 false [.v, .v, .v, .v, .v, .v], .bx 4 false [.v, .v], .cst 2 (.box 2 0), .cst 3 (.box 3 0), .cst 4 (.box 4 0), .sv 5, .sv 6, .sv 7], (.cons (.sl (.int .u8)) (.cons (.int .i64) (.cons (.int .i64) (.cons (.int .i64) (.cons (.int .i64) (.cons (.sl (.int .i64)) (.cons (.sl (.cons (.int .i64) (.cons (.int .i64) (.cons (.sl (.int .i64)) (.cons (.sl (.int .i64)) (.cons (.sl (.int .i64)) (.nil))))))) (.cons (.sl (.cons (.int .i64) (.cons (.int .i64) (.nil)))) (.cons (.sl (.int .u8)) (.cons (.int .i64) (.cons (.int .i64) (.cons (.int .i64) (.cons (.int .i64) (.nil)))))))))))))), []⟩) else none, fun i => []⟩
noncomputable def G_crossbarref26_Put : Ctx := fun n => if n = 72 then some ⟨in_crossbarref26_add, out_crossbarref26_add, F_crossbarref26_add⟩ else if n = 73 then some ⟨in_crossbarref02_AddRange, out_crossbarref02_AddRange, F_crossbarref02_AddRange⟩ else none
noncomputable def F_crossbarref26_Put : Den (chain (in_crossbarref26_Put.map PK.ty)) → Option (Den (chain (out_crossbarref26_Put.map OK.ty ++ statesOf in_crossbarref26_Put))) := fnK tab G_crossbarref26_Put an_crossbarref26_Put 1000000 Go.Proofs.Try.f39 (bodyOf Go.Proofs.Try.f39) in_crossbarref26_Put out_crossbarref26_Put
theorem S_crossbarref26_Put : Sound Go.Proofs.Try.prog 39 ⟨in_crossbarref26_Put, out_crossbarref26_Put, F_crossbarref26_Put⟩ := sound_fn tab_ok follows (Γ := G_crossbarref26_Put) (fun f con h => by
    unfold G_crossbarref26_Put at h
    split at h
    · rename_i e; subst e; cases h; exact S_crossbarref26_add
    split at h
    · rename_i e; subst e; cases h; exact S_crossbarref02_AddRange
    cases h) (by kernel_rfl) (by kernel_rfl) (by kernel_rfl) (by kernel_rfl)
/-- crossbarref27.Write -/
@[reducible] def in_crossbarref27_Write : List PK := [.v (.cons (.bool) (.cons (.bool) (.cons (.int .i64) (.cons (.int .i64) (.cons (.bool) (.cons (.cons (.int .i64) (.cons (.int .i64) (.cons (.int .i64) (.cons (.sl (.int .i64)) (.cons (.sl (.cons (.int .i64) (.cons (.int .i64) (.cons (.sl (.int .i64)) (.cons (.sl (.int .i64)) (.cons (.sl (.int .i64)) (.nil))))))) (.cons (.sl (.cons (.int .i64) (.cons (.int .i64) (.nil)))) (.nil))))))) (.cons (.bool) (.cons (.int .u32) (.cons (.bool) (.cons (.sl (.int .i64)) (.cons (.bool) (.cons (.sl (.int .i64)) (.cons (.bool) (.cons (.sl (.int .i64)) (.nil))))))))))))))), .v (.cons (.int .i64) (.cons (.int .i64) (.cons (.int .i64) (.cons (.sl (.int .i64)) (.cons (.sl (.cons (.int .i64) (.cons (.int .i64) (.cons (.sl (.int .i64)) (.cons (.sl (.int .i64)) (.cons (.sl (.int .i64)) (.nil))))))) (.cons (.sl (.cons (.int .i64) (.cons (.int .i64) (.nil)))) (.nil)))))))]
@[reducible] def out_crossbarref27_Write : List OK := [.v (.sl (.int .u8))]
def an_crossbarref27_Write : Anns := ⟨fun r => if r = 11 then some ⟨[.bx 2 false [.v, .v, .v, .v, .v, .v, .v, .v, .v, .v, .v, .v, .v, .v, .v, .v, .v, .v, .v], .bx 5 false [.v, .v], .cst 2 (.box 2 0), .cst 5 (.box 5 0), .sv 7], (.cons (.bool) (.cons (.bool) (.cons (.int .i64) (.cons (.int .i64) (.cons (.bool) (.cons (.int .i64) (.cons (.int .i64) (.cons (.int .i64) (.cons (.sl (.int .i64)) (.cons (.sl (.cons (.int .i64) (.cons (.int .i64) (.cons (.sl (.int .i64)) (.cons (.sl (.int .i64)) (.cons (.sl (.int .i64)) (.nil))))))) (.cons (.sl (.cons (.int .i64) (.cons (.int .i64) (.nil)))) (.cons (.bool) (.cons (.int .u32) (.cons (.bool) (.cons (.sl (.int .i64)) (.cons (.bool) (.cons (.sl (.int .i64)) (.cons (.bool) (.cons (.sl (.int .i64)) (.cons (.sl (.int .u8)) (.cons (.int .i64) (.cons (.int .i64) (.nil))))))))))))))))))))))), []⟩ else if r = 15 then some ⟨[.bx 2 false [.v, .v, .v, .v, .v, .v, .v, .v, .v, .v, .v, .v, .v, .v, .v, .v, .v, .v, .v], .bx 5 false [.v, .v], .cst 2 (.box 2 0), .cst 5 (.box 5 0), .sv 8], (.cons (.bool) (.cons (.bool) (.cons (.int .i64) (.cons (.int .i64) (.cons (.bool) (.cons (.int .i64) (.cons (.int .i64) (.cons (.int .i64) (.cons (.sl (.int .i64)) (.cons (.sl (.cons (.int .i64) (.cons (.int .i64) (.cons (.sl (.int .i64)) (.cons (.sl (.int .i64)) (.cons (.sl (.int .i64)) (.nil))))))) (.cons (.sl (.cons (.int .i64) (.cons (.int .i64) (.nil)))) (.cons (.bool) (.cons (.int .u32) (.cons (.bool) (.cons (.sl (.int .i64)) (.cons (.bool) (.cons (.sl (.int .i64)) (.cons (.bool) (.cons (.sl (.int .i64)) (.cons (.sl (.int .u8)) (.cons (.int .i64) (.cons (.int .i64) (.nil))))))))))))))))))))))), []⟩ else if r = 26 then some ⟨[.bx 2 false [.v, .v, .v, .v, .v, .v, .v, .v, .v, .v, .v, .v, .v, .v, .v, .v, .v, .v, .v], .bx 5 false [.v, .v], .cst 2 (.box 2 0), .cst 5 (.box 5 0), .sv 10], (.cons (.bool) (.cons (.bool) (.cons (.int .i64) (.cons (.int .i64) (.cons (.bool) (.cons (.int .i64) (.cons (.int .i64) (.cons (.int .i64) (.cons (.sl (.int .i64)) (.cons (.sl (.cons (.int .i64) (.cons (.int .i64) (.cons (.sl (.int .i64)) (.cons (.sl (.int .i64)) (.cons (.sl (.int .i64)) (.nil))))))) (.cons (.sl (.cons (.int .i64) (.cons (.int .i64) (.nil)))) (.cons (.bool) (.cons (.int .u32) (.cons (.bool) (.cons (.sl (.int .i64)) (.cons (.bool) (.cons (.sl (.int .i64)) (.cons (.bool) (.cons (.sl (.int .i64)) (.cons (.sl (.int .u8)) (.cons (.int .i64) (.cons (.int .i64) (.nil))))))))))))))))))))))), []⟩ else none, fun t => if t = 59 then some (true, ⟨[.bx 2 false [.v, .v, .v, .v, .v, .v, .v, .v, .v, .v, .v, .v, .v, .v, .v, .v, .v, .v, .v], .bx 3 false [.v, .v, .v, .v, .v, .v], .bx 5 false [.v, .v], .cst 2 (.box 2 0), .cst 3 (.box 3 0), .cst 5 (.box 5 0)], (.cons (.bool) (.cons (.bool) (.cons (.int .i64) (.cons (.int .i64) (.cons (.bool) (.cons (.int .i64) (.cons (.int .i64) (.cons (.int .i64) (.cons (.sl (.int .i64)) (.cons (.sl (.cons (.int .i64) (.cons (.int .i64) (.cons (.sl (.int .i64)) (.cons (.sl (.int .i64)) (.cons (.sl (.int .i64)) (.nil))))))) (.cons (.sl (.cons (.int .i64) (.cons (.int .i64) (.nil)))) (.cons (.bool) (.cons (.int .u32) (.cons (.bool) (.cons (.sl (.int .i64)) (.cons (.bool) (.cons (.sl (.int .i64)) (.cons (.bool) (.cons (.sl (.int .i64)) (.cons (.int .i64) (.cons (.int .i64) (.cons (.int .i64) (.cons (.sl (.int .i64)) (.cons (.sl (.cons (.int .i64) (.cons (.int .i64) (.cons (.sl (.int .i64)) (.cons (.sl (.int .i64)) (.cons (.sl (.int .i64)) (.nil))))))) (.cons (.sl (.cons (.int .i64) (.cons (.int .i64) (.nil)))) (.cons (.sl (.int .u8)) (.cons (.int .i64) (.nil)))))))))))))))))))))))))))), []⟩) else if t = 65 then some (true, ⟨[.bx 2 false [.v, .v, .v, .v, .v, .v, .v, .v, .v, .v, .v, .v, .v, .v, .v, .v, .v, .v, .v], .bx 5 false [.v, .v], .cst 2 (.box 2 0), .cst 5 (.box 5 0)], (.cons (.bool) (.cons (.bool) (.cons (.int .i64) (.cons (.int .i64) (.cons (.bool) (.cons (.int .i64) (.cons (.int .i64) (.cons (.int .i64) (.cons (.sl (.int .i64)) (.cons (.sl (.cons (.int .i64) (.cons (.int .i64) (.cons (.sl (.int .i64)) (.cons (.sl (.int .i64)) (.cons (.sl (.int .i64)) (.nil))))))) (.cons (.sl (.cons (.int .i64) (.cons (.int .i64) (.nil)))) (.cons (.bool) (.cons (.int .u32) (.cons (.bool) (.cons (.sl (.int .i64)) (.cons (.bool) (.cons (.sl (.int .i64)) (.cons (.bool) (.cons (.sl (.int .i64)) (.cons (.sl (.int .u8)) (.cons (.int .i64) (.nil)))))))))))))))))))))), []⟩) else if t = 106 then some (true, ⟨[.bx 2 false [.v, .v, .v, .v, .v, .v, .v, .v, .v, .v, .v, .v, .v, .v, .v, .v, .v, .v, .v], .bx 5 false [.v, .v], .cst 2 (.box 2 0), .cst 5 (.box 5 0), .sv 8], (.cons (.bool) (.cons (.bool) (.cons (.int .i64) (.cons (.int .i64) (.cons (.bool) (.cons (.int .i64) (.cons (.int .i64) (.cons (.int .i64) (.cons (.sl (.int .i64)) (.cons (.sl (.cons (.int .i64) (.cons (.int .i64) (.cons (.sl (.int .i64)) (.cons (.sl (.int .i64)) (.cons (.sl (.int .i64)) (.nil))))))) (.cons (.sl (.cons (.int .i64) (.cons (.int .i64) (.nil)))) (.cons (.bool) (.cons (.int .u32) (.cons (.bool) (.cons (.sl (.int .i64)) (.cons (.bool) (.cons (.sl (.int .i64)) (.cons (.bool) (.cons (.sl (.int .i64)) (.cons (.sl (.int .u8)) (.cons (.int .i64) (.cons (.int .i64) (.nil))))))))))))))))))))))), []⟩) else if t = 114 then some (true, ⟨[.bx 2 false [.v, .v, .v, .v, .v, .v, .v, .v, .v, .v, .v, .v, .v, .v, .v, .v, .v, .v, .v], .bx 5 false [.v, .v], .cst 2 (.box 2 0), .cst 5 (.box 5 0), .sv 8], (.cons (.bool) (.cons (.bool) (.cons (.int .i64) (.cons (.int .i64) (.cons (.bool) (.cons (.int .i64) (.cons (.int .i64) (.cons (.int .i64) (.cons (.sl (.int .i64)) (.cons (.sl (.cons (.int .i64) (.cons (.int .i64) (.cons (.sl (.int .i64)) (.cons (.sl (.int .i64)) (.cons (.sl (.int .i64)) (.nil))))))) (.cons (.sl (.cons (.int .i64) (.cons (.int .i64) (.nil)))) (.cons (.bool) (.cons (.int .u32) (.cons (.bool) (.cons (.sl (.int .i64)) (.cons (.bool) (.cons (.sl (.int .i64)) (.cons (.bool) (.cons (.sl (.int .i64)) (.cons (.sl (.int .u8)) (.cons (.int .i64) (.cons (.int .i64) (.nil))))))))))))))))))))))), []⟩) else if t = 123 then some (true, ⟨[.bx 2 false [.v, .v, .v, .v, .v, .v, .v, .v, .v, .v, .v, .v, .v, .v, .v, .v, .v, .v, .v], .bx 5 false [.v, .v], .cst 2 (.box 2 0), .cst 5 (.box 5 0)], (.cons (.bool) (.cons (.bool) (.cons (.int .i64) (.cons (.int .i64) (.cons (.bool) (.cons (.int .i64) (.cons (.int .i64) (.cons (.int .i64) (.cons (.sl (.int .i64)) (.cons (.sl (.cons (.int .i64) (.cons (.int .i64) (.cons (.sl (.int .i64)) (.cons (.sl (.int .i64)) (.cons (.sl (.int .i64)) (.nil))))))) (.cons (.sl (.cons (.int .i64) (.cons (.int .i64) (.nil)))) (.cons (.bool) (.cons (.int .u32) (.cons (.bool) (.cons (.sl (.int .i64)) (.cons (.bool) (.cons (.sl (.int .i64)) (.cons (.bool) (.cons (.sl (.int .i64)) (.cons (.sl (.int .u8)) (.cons (.int .i64) (.nil)))))))))))))))))))))), []⟩) else none, fun i => []⟩
noncomputable def G_crossbarref27_Write : Ctx := fun n => if n = 12 then some ⟨in_crossbarref27_Of, out_crossbarref27_Of, F_crossbarref27_Of⟩ else if n = 37 then some ⟨in_crossbarref27_add, out_crossbarref27_add, F_crossbarref27_add⟩ else if n = 38 then some ⟨in_crossbarref27_one, out_crossbarref27_one, F_crossbarref27_one⟩ else if n = 39 then some ⟨in_crossbarref26_Put, out_crossbarref26_Put, F_crossbarref26_Put⟩ else none
noncomputable def F_crossbarref27_Write : Den (chain (in_crossbarref27_Write.map PK.ty)) → Option (Den (chain (out_crossbarref27_Write.map OK.ty ++ statesOf in_crossbarref27_Write))) := fnK tab G_crossbarref27_Write an_crossbarref27_Write 1000000 Go.Proofs.Try.f13 (bodyOf Go.Proofs.Try.f13) in_crossbarref27_Write out_crossbarref27_Write
theorem S_crossbarref27_Write : Sound Go.Proofs.Try.prog 13 ⟨in_crossbarref27_Write, out_crossbarref27_Write, F_crossbarref27_Write⟩ := sound_fn tab_ok follows (Γ := G_crossbarref27_Write) (fun f con h => by
    unfold G_crossbarref27_Write at h
    split at h
    · rename_i e; subst e; cases h; exact S_crossbarref27_Of
    split at h
    · rename_i e; subst e; cases h; exact S_crossbarref27_add
    split at h
    · rename_i e; subst e; cases h; exact S_crossbarref27_one
    split at h
    · rename_i e; subst e; cases h; exact S_crossbarref26_Put
    cases h) (by kernel_rfl) (by kernel_rfl) (by kernel_rfl) (by kernel_rfl)
/-- crossbarref27.Template -/
@[reducible] def in_crossbarref27_Template : List PK := [.v (.cons (.int .i64) (.cons (.int .i64) (.cons (.sl (.int .i64)) (.cons (.sl (.int .i64)) (.cons (.sl (.int .i64)) (.nil)))))), .v (.cons (.int .i64) (.cons (.int .i64) (.cons (.sl (.int .i64)) (.cons (.sl (.int .i64)) (.cons (.sl (.int .i64)) (.nil))))))]
@[reducible] def out_crossbarref27_Template : List OK := [.v (.bool)]
def an_crossbarref27_Template : Anns := ⟨fun r => none, fun t => none, fun i => []⟩
noncomputable def G_crossbarref27_Template : Ctx := fun n => if n = 40 then some ⟨in_crossbarref24_Ints, out_crossbarref24_Ints, F_crossbarref24_Ints⟩ else none
noncomputable def F_crossbarref27_Template : Den (chain (in_crossbarref27_Template.map PK.ty)) → Option (Den (chain (out_crossbarref27_Template.map OK.ty ++ statesOf in_crossbarref27_Template))) := fnK tab G_crossbarref27_Template an_crossbarref27_Template 1000000 Go.Proofs.Try.f14 (bodyOf Go.Proofs.Try.f14) in_crossbarref27_Template out_crossbarref27_Template
theorem S_crossbarref27_Template : Sound Go.Proofs.Try.prog 14 ⟨in_crossbarref27_Template, out_crossbarref27_Template, F_crossbarref27_Template⟩ := sound_fn tab_ok follows (Γ := G_crossbarref27_Template) (fun f con h => by
    unfold G_crossbarref27_Template at h
    split at h
    · rename_i e; subst e; cases h; exact S_crossbarref24_Ints
    cases h) (by kernel_rfl) (by kernel_rfl) (by kernel_rfl) (by kernel_rfl)
/-- crossbarref27.Whole -/
@[reducible] def in_crossbarref27_Whole : List PK := [.v (.cons (.bool) (.cons (.bool) (.cons (.int .i64) (.cons (.int .i64) (.cons (.bool) (.cons (.cons (.int .i64) (.cons (.int .i64) (.cons (.int .i64) (.cons (.sl (.int .i64)) (.cons (.sl (.cons (.int .i64) (.cons (.int .i64) (.cons (.sl (.int .i64)) (.cons (.sl (.int .i64)) (.cons (.sl (.int .i64)) (.nil))))))) (.cons (.sl (.cons (.int .i64) (.cons (.int .i64) (.nil)))) (.nil))))))) (.cons (.bool) (.cons (.int .u32) (.cons (.bool) (.cons (.sl (.int .i64)) (.cons (.bool) (.cons (.sl (.int .i64)) (.cons (.bool) (.cons (.sl (.int .i64)) (.nil))))))))))))))), .v (.cons (.int .i64) (.cons (.int .i64) (.cons (.int .i64) (.cons (.sl (.int .i64)) (.cons (.sl (.cons (.int .i64) (.cons (.int .i64) (.cons (.sl (.int .i64)) (.cons (.sl (.int .i64)) (.cons (.sl (.int .i64)) (.nil))))))) (.cons (.sl (.cons (.int .i64) (.cons (.int .i64) (.nil)))) (.nil)))))))]
@[reducible] def out_crossbarref27_Whole : List OK := [.v (.cons (.int .i64) (.cons (.int .i64) (.cons (.sl (.int .i64)) (.cons (.sl (.int .i64)) (.cons (.sl (.int .i64)) (.nil))))))]
def an_crossbarref27_Whole : Anns := ⟨fun r => none, fun t => if t = 19 then some (true, ⟨[.bx 2 false [.v, .v, .v, .v, .v, .v, .v, .v, .v, .v, .v, .v, .v, .v, .v, .v, .v, .v, .v], .bx 4 false [.v, .v, .v, .v, .v], .bx 6 false [.v, .v, .v, .v, .v], .cst 2 (.box 2 0), .cst 4 (.box 4 0), .cst 6 (.box 6 0)], (.cons (.bool) (.cons (.bool) (.cons (.int .i64) (.cons (.int .i64) (.cons (.bool) (.cons (.int .i64) (.cons (.int .i64) (.cons (.int .i64) (.cons (.sl (.int .i64)) (.cons (.sl (.cons (.int .i64) (.cons (.int .i64) (.cons (.sl (.int .i64)) (.cons (.sl (.int .i64)) (.cons (.sl (.int .i64)) (.nil))))))) (.cons (.sl (.cons (.int .i64) (.cons (.int .i64) (.nil)))) (.cons (.bool) (.cons (.int .u32) (.cons (.bool) (.cons (.sl (.int .i64)) (.cons (.bool) (.cons (.sl (.int .i64)) (.cons (.bool) (.cons (.sl (.int .i64)) (.cons (.int .i64) (.cons (.int .i64) (.cons (.sl (.int .i64)) (.cons (.sl (.int .i64)) (.cons (.sl (.int .i64)) (.cons (.int .i64) (.cons (.int .i64) (.cons (.sl (.int .i64)) (.cons (.sl (.int .i64)) (.cons (.sl (.int .i64)) (.nil)))))))))))))))))))))))))))))), []⟩) else if t = 24 then some (true, ⟨[.bx 2 false [.v, .v, .v, .v, .v, .v, .v, .v, .v, .v, .v, .v, .v, .v, .v, .v, .v, .v, .v], .bx 4 false [.v, .v, .v, .v, .v], .bx 6 false [.v, .v, .v, .v, .v], .cst 2 (.box 2 0), .cst 4 (.box 4 0), .cst 6 (.box 6 0)], (.cons (.bool) (.cons (.bool) (.cons (.int .i64) (.cons (.int .i64) (.cons (.bool) (.cons (.int .i64) (.cons (.int .i64) (.cons (.int .i64) (.cons (.sl (.int .i64)) (.cons (.sl (.cons (.int .i64) (.cons (.int .i64) (.cons (.sl (.int .i64)) (.cons (.sl (.int .i64)) (.cons (.sl (.int .i64)) (.nil))))))) (.cons (.sl (.cons (.int .i64) (.cons (.int .i64) (.nil)))) (.cons (.bool) (.cons (.int .u32) (.cons (.bool) (.cons (.sl (.int .i64)) (.cons (.bool) (.cons (.sl (.int .i64)) (.cons (.bool) (.cons (.sl (.int .i64)) (.cons (.int .i64) (.cons (.int .i64) (.cons (.sl (.int .i64)) (.cons (.sl (.int .i64)) (.cons (.sl (.int .i64)) (.cons (.int .i64) (.cons (.int .i64) (.cons (.sl (.int .i64)) (.cons (.sl (.int .i64)) (.cons (.sl (.int .i64)) (.nil)))))))))))))))))))))))))))))), []⟩) else if t = 29 then some (true, ⟨[.bx 4 false [.v, .v, .v, .v, .v], .bx 6 false [.v, .v, .v, .v, .v], .cst 4 (.box 4 0), .cst 6 (.box 6 0)], (.cons (.int .i64) (.cons (.int .i64) (.cons (.sl (.int .i64)) (.cons (.sl (.int .i64)) (.cons (.sl (.int .i64)) (.cons (.int .i64) (.cons (.int .i64) (.cons (.sl (.int .i64)) (.cons (.sl (.int .i64)) (.cons (.sl (.int .i64)) (.nil))))))))))), []⟩) else none, fun i => []⟩
noncomputable def G_crossbarref27_Whole : Ctx := fun n => if n = 12 then some ⟨in_crossbarref27_Of, out_crossbarref27_Of, F_crossbarref27_Of⟩ else if n = 28 then some ⟨in_crossbarref27_Place, out_crossbarref27_Place, F_crossbarref27_Place⟩ else none
noncomputable def F_crossbarref27_Whole : Den (chain (in_crossbarref27_Whole.map PK.ty)) → Option (Den (chain (out_crossbarref27_Whole.map OK.ty ++ statesOf in_crossbarref27_Whole))) := fnK tab G_crossbarref27_Whole an_crossbarref27_Whole 1000000 Go.Proofs.Try.f15 (bodyOf Go.Proofs.Try.f15) in_crossbarref27_Whole out_crossbarref27_Whole
theorem S_crossbarref27_Whole : Sound Go.Proofs.Try.prog 15 ⟨in_crossbarref27_Whole, out_crossbarref27_Whole, F_crossbarref27_Whole⟩ := sound_fn tab_ok follows (Γ := G_crossbarref27_Whole) (fun f con h => by
    unfold G_crossbarref27_Whole at h
    split at h
    · rename_i e; subst e; cases h; exact S_crossbarref27_Of
    split at h
    · rename_i e; subst e; cases h; exact S_crossbarref27_Place
    cases h) (by kernel_rfl) (by kernel_rfl) (by kernel_rfl) (by kernel_rfl)
/-- crossbarref02.Right -/
@[reducible] def in_crossbarref02_Right : List PK := [.v (.cons (.sl (.int .u8)) (.cons (.int .i64) (.cons (.int .i64) (.nil))))]
@[reducible] def out_crossbarref02_Right : List OK := [.v (.bool)]
def an_crossbarref02_Right : Anns := ⟨fun r => none, fun t => none, fun i => []⟩
noncomputable def G_crossbarref02_Right : Ctx := fun n => none
noncomputable def F_crossbarref02_Right : Den (chain (in_crossbarref02_Right.map PK.ty)) → Option (Den (chain (out_crossbarref02_Right.map OK.ty ++ statesOf in_crossbarref02_Right))) := fnK tab G_crossbarref02_Right an_crossbarref02_Right 1000000 Go.Proofs.Try.f96 (bodyOf Go.Proofs.Try.f96) in_crossbarref02_Right out_crossbarref02_Right
theorem S_crossbarref02_Right : Sound Go.Proofs.Try.prog 96 ⟨in_crossbarref02_Right, out_crossbarref02_Right, F_crossbarref02_Right⟩ := sound_fn tab_ok follows (Γ := G_crossbarref02_Right) (fun f con h => by
    unfold G_crossbarref02_Right at h
    cases h) (by kernel_rfl) (by kernel_rfl) (by kernel_rfl) (by kernel_rfl)
/-- crossbarref02.stays -/
@[reducible] def in_crossbarref02_stays : List PK := [.v (.cons (.sl (.int .u8)) (.cons (.int .i64) (.cons (.int .i64) (.nil)))), .v (.int .i64)]
@[reducible] def out_crossbarref02_stays : List OK := [.v (.cons (.sl (.int .u8)) (.cons (.int .i64) (.cons (.int .i64) (.nil)))), .v (.int .u64)]
def an_crossbarref02_stays : Anns := ⟨fun r => none, fun t => if t = 8 then some (true, ⟨[.bx 2 false [.v, .v, .v], .bx 4 false [.v, .v, .v], .cst 2 (.box 2 0), .cst 4 (.box 4 0)], (.cons (.sl (.int .u8)) (.cons (.int .i64) (.cons (.int .i64) (.cons (.sl (.int .u8)) (.cons (.int .i64) (.cons (.int .i64) (.nil))))))), []⟩) else none, fun i => []⟩
noncomputable def G_crossbarref02_stays : Ctx := fun n => none
noncomputable def F_crossbarref02_stays : Den (chain (in_crossbarref02_stays.map PK.ty)) → Option (Den (chain (out_crossbarref02_stays.map OK.ty ++ statesOf in_crossbarref02_stays))) := fnK tab G_crossbarref02_stays an_crossbarref02_stays 1000000 Go.Proofs.Try.f97 (bodyOf Go.Proofs.Try.f97) in_crossbarref02_stays out_crossbarref02_stays
theorem S_crossbarref02_stays : Sound Go.Proofs.Try.prog 97 ⟨in_crossbarref02_stays, out_crossbarref02_stays, F_crossbarref02_stays⟩ := sound_fn tab_ok follows (Γ := G_crossbarref02_stays) (fun f con h => by
    unfold G_crossbarref02_stays at h
    cases h) (by kernel_rfl) (by kernel_rfl) (by kernel_rfl) (by kernel_rfl)
/-- crossbarref02.Get -/
@[reducible] def in_crossbarref02_Get : List PK := [.v (.cons (.sl (.int .u8)) (.cons (.int .i64) (.cons (.int .i64) (.nil)))), .v (.int .i64)]
@[reducible] def out_crossbarref02_Get : List OK := [.v (.cons (.sl (.int .u8)) (.cons (.int .i64) (.cons (.int .i64) (.nil)))), .v (.int .u64)]
def an_crossbarref02_Get : Anns := ⟨fun r => if r = 7 then some ⟨[.bx 2 false [.v, .v, .v], .bx 4 false [.v, .v, .v], .sv 1, .cst 2 (.box 2 0), .cst 4 (.box 4 0), .sv 6, .sv 7], (.cons (.sl (.int .u8)) (.cons (.int .i64) (.cons (.int .i64) (.cons (.sl (.int .u8)) (.cons (.int .i64) (.cons (.int .i64) (.cons (.int .i64) (.cons (.int .u64) (.cons (.int .i64) (.nil)))))))))), []⟩ else none, fun t => none, fun i => []⟩
noncomputable def G_crossbarref02_Get : Ctx := fun n => if n = 96 then some ⟨in_crossbarref02_Right, out_crossbarref02_Right, F_crossbarref02_Right⟩ else if n = 97 then some ⟨in_crossbarref02_stays, out_crossbarref02_stays, F_crossbarref02_stays⟩ else if n = 98 then some ⟨in_crossbarref02_bit, out_crossbarref02_bit, F_crossbarref02_bit⟩ else none
noncomputable def F_crossbarref02_Get : Den (chain (in_crossbarref02_Get.map PK.ty)) → Option (Den (chain (out_crossbarref02_Get.map OK.ty ++ statesOf in_crossbarref02_Get))) := fnK tab G_crossbarref02_Get an_crossbarref02_Get 1000000 Go.Proofs.Try.f78 (bodyOf Go.Proofs.Try.f78) in_crossbarref02_Get out_crossbarref02_Get
theorem S_crossbarref02_Get : Sound Go.Proofs.Try.prog 78 ⟨in_crossbarref02_Get, out_crossbarref02_Get, F_crossbarref02_Get⟩ := sound_fn tab_ok follows (Γ := G_crossbarref02_Get) (fun f con h => by
    unfold G_crossbarref02_Get at h
    split at h
    · rename_i e; subst e; cases h; exact S_crossbarref02_Right
    split at h
    · rename_i e; subst e; cases h; exact S_crossbarref02_stays
    split at h
    · rename_i e; subst e; cases h; exact S_crossbarref02_bit
    cases h) (by kernel_rfl) (by kernel_rfl) (by kernel_rfl) (by kernel_rfl)
/-- crossbarref02.Range -/
@[reducible] def in_crossbarref02_Range : List PK := [.v (.cons (.sl (.int .u8)) (.cons (.int .i64) (.cons (.int .i64) (.nil)))), .v (.int .u64)]
@[reducible] def out_crossbarref02_Range : List OK := [.v (.cons (.sl (.int .u8)) (.cons (.int .i64) (.cons (.int .i64) (.nil)))), .v (.int .u64)]
def an_crossbarref02_Range : Anns := ⟨fun r => none, fun t => none, fun i => []⟩
noncomputable def G_crossbarref02_Range : Ctx := fun n => if n = 78 then some ⟨in_crossbarref02_Get, out_crossbarref02_Get, F_crossbarref02_Get⟩ else if n = 85 then some ⟨in_crossbarref02_Spread, out_crossbarref02_Spread, F_crossbarref02_Spread⟩ else if n = 96 then some ⟨in_crossbarref02_Right, out_crossbarref02_Right, F_crossbarref02_Right⟩ else if n = 97 then some ⟨in_crossbarref02_stays, out_crossbarref02_stays, F_crossbarref02_stays⟩ else none
noncomputable def F_crossbarref02_Range : Den (chain (in_crossbarref02_Range.map PK.ty)) → Option (Den (chain (out_crossbarref02_Range.map OK.ty ++ statesOf in_crossbarref02_Range))) := fnK tab G_crossbarref02_Range an_crossbarref02_Range 1000000 Go.Proofs.Try.f103 (bodyOf Go.Proofs.Try.f103) in_crossbarref02_Range out_crossbarref02_Range
theorem S_crossbarref02_Range : Sound Go.Proofs.Try.prog 103 ⟨in_crossbarref02_Range, out_crossbarref02_Range, F_crossbarref02_Range⟩ := sound_fn tab_ok follows (Γ := G_crossbarref02_Range) (fun f con h => by
    unfold G_crossbarref02_Range at h
    split at h
    · rename_i e; subst e; cases h; exact S_crossbarref02_Get
    split at h
    · rename_i e; subst e; cases h; exact S_crossbarref02_Spread
    split at h
    · rename_i e; subst e; cases h; exact S_crossbarref02_Right
    split at h
    · rename_i e; subst e; cases h; exact S_crossbarref02_stays
    cases h) (by kernel_rfl) (by kernel_rfl) (by kernel_rfl) (by kernel_rfl)
/-- crossbarlaw27.Av1Back -/
@[reducible] def in_crossbarlaw27_Av1Back : List PK := [.v (.cons (.bool) (.cons (.bool) (.cons (.int .i64) (.cons (.int .i64) (.cons (.bool) (.cons (.cons (.int .i64) (.cons (.int .i64) (.cons (.int .i64) (.cons (.sl (.int .i64)) (.cons (.sl (.cons (.int .i64) (.cons (.int .i64) (.cons (.sl (.int .i64)) (.cons (.sl (.int .i64)) (.cons (.sl (.int .i64)) (.nil))))))) (.cons (.sl (.cons (.int .i64) (.cons (.int .i64) (.nil)))) (.nil))))))) (.cons (.bool) (.cons (.int .u32) (.cons (.bool) (.cons (.sl (.int .i64)) (.cons (.bool) (.cons (.sl (.int .i64)) (.cons (.bool) (.cons (.sl (.int .i64)) (.nil))))))))))))))), .v (.cons (.bool) (.cons (.bool) (.cons (.int .i64) (.cons (.int .i64) (.cons (.bool) (.cons (.cons (.int .i64) (.cons (.int .i64) (.cons (.int .i64) (.cons (.sl (.int .i64)) (.cons (.sl (.cons (.int .i64) (.cons (.int .i64) (.cons (.sl (.int .i64)) (.cons (.sl (.int .i64)) (.cons (.sl (.int .i64)) (.nil))))))) (.cons (.sl (.cons (.int .i64) (.cons (.int .i64) (.nil)))) (.nil))))))) (.cons (.bool) (.cons (.int .u32) (.cons (.bool) (.cons (.sl (.int .i64)) (.cons (.bool) (.cons (.sl (.int .i64)) (.cons (.bool) (.cons (.sl (.int .i64)) (.nil))))))))))))))), .v (.cons (.int .i64) (.cons (.int .i64) (.cons (.int .i64) (.cons (.sl (.int .i64)) (.cons (.sl (.cons (.int .i64) (.cons (.int .i64) (.cons (.sl (.int .i64)) (.cons (.sl (.int .i64)) (.cons (.sl (.int .i64)) (.nil))))))) (.cons (.sl (.cons (.int .i64) (.cons (.int .i64) (.nil)))) (.nil))))))), .v (.sl (.int .u8)), .v (.int .u8)]
@[reducible] def out_crossbarlaw27_Av1Back : List OK := [.v (.bool)]
def an_crossbarlaw27_Av1Back : Anns := ⟨fun r => none, fun t => if t = 58 then some (false, ⟨[.bx 7 false [.v, .v, .v, .v, .v, .v], .sv 3, .cst 7 (.box 7 0)], (.cons (.int .i64) (.cons (.int .i64) (.cons (.int .i64) (.cons (.sl (.int .i64)) (.cons (.sl (.cons (.int .i64) (.cons (.int .i64) (.cons (.sl (.int .i64)) (.cons (.sl (.int .i64)) (.cons (.sl (.int .i64)) (.nil))))))) (.cons (.sl (.cons (.int .i64) (.cons (.int .i64) (.nil)))) (.cons (.sl (.int .u8)) (.nil)))))))), []⟩) else none, fun i => []⟩
noncomputable def G_crossbarlaw27_Av1Back : Ctx := fun n => if n = 6 then some ⟨in_crossbarlaw27_awake, out_crossbarlaw27_awake, F_crossbarlaw27_awake⟩ else if n = 7 then some ⟨in_crossbarref27_Short, out_crossbarref27_Short, F_crossbarref27_Short⟩ else if n = 8 then some ⟨in_crossbarref26_Short, out_crossbarref26_Short, F_crossbarref26_Short⟩ else if n = 10 then some ⟨in_av1_Write, out_av1_Write, F_av1_Write⟩ else if n = 16 then some ⟨in_av1_Read, out_av1_Read, F_av1_Read⟩ else if n = 18 then some ⟨in_av1_Right, out_av1_Right, F_av1_Right⟩ else if n = 21 then some ⟨in_crossbarref27_Same, out_crossbarref27_Same, F_crossbarref27_Same⟩ else if n = 22 then some ⟨in_av1_Canon, out_av1_Canon, F_av1_Canon⟩ else none
noncomputable def F_crossbarlaw27_Av1Back : Den (chain (in_crossbarlaw27_Av1Back.map PK.ty)) → Option (Den (chain (out_crossbarlaw27_Av1Back.map OK.ty ++ statesOf in_crossbarlaw27_Av1Back))) := fnK tab G_crossbarlaw27_Av1Back an_crossbarlaw27_Av1Back 1000000 Go.Proofs.Try.f4 (bodyOf Go.Proofs.Try.f4) in_crossbarlaw27_Av1Back out_crossbarlaw27_Av1Back
theorem S_crossbarlaw27_Av1Back : Sound Go.Proofs.Try.prog 4 ⟨in_crossbarlaw27_Av1Back, out_crossbarlaw27_Av1Back, F_crossbarlaw27_Av1Back⟩ := sound_fn tab_ok follows (Γ := G_crossbarlaw27_Av1Back) (fun f con h => by
    unfold G_crossbarlaw27_Av1Back at h
    split at h
    · rename_i e; subst e; cases h; exact S_crossbarlaw27_awake
    split at h
    · rename_i e; subst e; cases h; exact S_crossbarref27_Short
    split at h
    · rename_i e; subst e; cases h; exact S_crossbarref26_Short
    split at h
    · rename_i e; subst e; cases h; exact S_av1_Write
    split at h
    · rename_i e; subst e; cases h; exact S_av1_Read
    split at h
    · rename_i e; subst e; cases h; exact S_av1_Right
    split at h
    · rename_i e; subst e; cases h; exact S_crossbarref27_Same
    split at h
    · rename_i e; subst e; cases h; exact S_av1_Canon
    cases h) (by kernel_rfl) (by kernel_rfl) (by kernel_rfl) (by kernel_rfl)
end Go.Proofs.Try.Eng


