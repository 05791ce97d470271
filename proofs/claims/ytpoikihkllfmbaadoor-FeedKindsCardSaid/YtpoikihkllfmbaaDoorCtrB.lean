/- The contracts of the functions that the law reaches, each by the evaluator's soundness. -/
import Derived.Test.YtpoikihkllfmbaaDoorNack
import Derived.Test.YtpoikihkllfmbaaDoorEngD
import Derived.Test.YtpoikihkllfmbaaDoorProg
set_option linter.unusedVariables false
namespace Go.Proofs.Tryd.Eng
open Go Go.Eng
/-- feed.Code -/
@[reducible] def in_feed_Code : List PK := [.v (.int .i64)]
@[reducible] def out_feed_Code : List OK := [.v (.int .i64), .v (.int .i64), .v (.int .i64)]
def an_feed_Code : Anns := ⟨fun r => if r = 2 then some ⟨[.sv 0, .sa 7 15, .sv 8], (.cons (.int .i64) (.cons (.int .i64) (.cons (.int .i64) (.cons (.int .i64) (.cons (.int .i64) (.cons (.int .i64) (.cons (.int .i64) (.cons (.int .i64) (.cons (.int .i64) (.cons (.int .i64) (.cons (.int .i64) (.cons (.int .i64) (.cons (.int .i64) (.cons (.int .i64) (.cons (.int .i64) (.cons (.int .i64) (.cons (.int .i64) (.nil)))))))))))))))))), []⟩ else none, fun t => none, fun i => []⟩
noncomputable def G_feed_Code : Ctx := fun n => none
noncomputable def F_feed_Code : Den (chain (in_feed_Code.map PK.ty)) → Option (Den (chain (out_feed_Code.map OK.ty ++ statesOf in_feed_Code))) := fnK tab G_feed_Code an_feed_Code 1000000 Go.Proofs.Tryd.f8 (bodyOf Go.Proofs.Tryd.f8) in_feed_Code out_feed_Code
theorem S_feed_Code : Sound Go.Proofs.Tryd.prog tab 8 ⟨in_feed_Code, out_feed_Code, F_feed_Code⟩ := sound_fn tab_ok follows (Γ := G_feed_Code) (fun f con h => by
    unfold G_feed_Code at h
    cases h) (by kernel_rfl) (by kernel_rfl) (by kernel_rfl) (by kernel_rfl)
/-- feed.Kind -/
@[reducible] def in_feed_Kind : List PK := [.v (.int .i64), .v (.int .i64)]
@[reducible] def out_feed_Kind : List OK := [.v (.int .i64)]
def an_feed_Kind : Anns := ⟨fun r => if r = 2 then some ⟨[.sv 0, .sv 1, .sa 7 15, .sv 8], (.cons (.int .i64) (.cons (.int .i64) (.cons (.int .i64) (.cons (.int .i64) (.cons (.int .i64) (.cons (.int .i64) (.cons (.int .i64) (.cons (.int .i64) (.cons (.int .i64) (.cons (.int .i64) (.cons (.int .i64) (.cons (.int .i64) (.cons (.int .i64) (.cons (.int .i64) (.cons (.int .i64) (.cons (.int .i64) (.cons (.int .i64) (.cons (.int .i64) (.nil))))))))))))))))))), []⟩ else none, fun t => none, fun i => []⟩
noncomputable def G_feed_Kind : Ctx := fun n => none
noncomputable def F_feed_Kind : Den (chain (in_feed_Kind.map PK.ty)) → Option (Den (chain (out_feed_Kind.map OK.ty ++ statesOf in_feed_Kind))) := fnK tab G_feed_Kind an_feed_Kind 1000000 Go.Proofs.Tryd.f10 (bodyOf Go.Proofs.Tryd.f10) in_feed_Kind out_feed_Kind
theorem S_feed_Kind : Sound Go.Proofs.Tryd.prog tab 10 ⟨in_feed_Kind, out_feed_Kind, F_feed_Kind⟩ := sound_fn tab_ok follows (Γ := G_feed_Kind) (fun f con h => by
    unfold G_feed_Kind at h
    cases h) (by kernel_rfl) (by kernel_rfl) (by kernel_rfl) (by kernel_rfl)
/-- feed.says -/
@[reducible] def in_feed_says : List PK := [.v (.cons (.int .i64) (.cons (.int .u32) (.cons (.int .u32) (.cons (.sl (.cons (.int .u16) (.cons (.int .u16) (.nil)))) (.cons (.cons (.int .u16) (.cons (.int .i64) (.cons (.int .u8) (.cons (.sl (.cons (.int .i64) (.cons (.int .i64) (.nil)))) (.nil))))) (.cons (.sl (.cons (.int .u32) (.cons (.int .u8) (.nil)))) (.cons (.cons (.int .i64) (.cons (.int .u32) (.cons (.sl (.int .u32)) (.nil)))) (.nil))))))))]
@[reducible] def out_feed_says : List OK := [.v (.ifc [82, 84, 85, 87, 104] (.cons (.sl (.cons (.int .u16) (.cons (.int .u16) (.nil)))) (.cons (.cons (.cons (.int .u16) (.cons (.int .i64) (.cons (.int .u8) (.cons (.sl (.cons (.int .i64) (.cons (.int .i64) (.nil)))) (.nil))))) (.nil)) (.cons (.sl (.cons (.int .u32) (.cons (.int .u8) (.nil)))) (.cons (.cons (.cons (.int .i64) (.cons (.int .u32) (.cons (.sl (.int .u32)) (.nil)))) (.nil)) (.cons (.nil) (.nil))))))), .v (.bool)]
def an_feed_says : Anns := ⟨fun r => none, fun t => none, fun i => []⟩
noncomputable def G_feed_says : Ctx := fun n => none
noncomputable def F_feed_says : Den (chain (in_feed_says.map PK.ty)) → Option (Den (chain (out_feed_says.map OK.ty ++ statesOf in_feed_says))) := fnK tab G_feed_says an_feed_says 1000000 Go.Proofs.Tryd.f25 (bodyOf Go.Proofs.Tryd.f25) in_feed_says out_feed_says
theorem S_feed_says : Sound Go.Proofs.Tryd.prog tab 25 ⟨in_feed_says, out_feed_says, F_feed_says⟩ := sound_fn tab_ok follows (Γ := G_feed_says) (fun f con h => by
    unfold G_feed_says at h
    cases h) (by kernel_rfl) (by kernel_rfl) (by kernel_rfl) (by kernel_rfl)
/-- feed.clean -/
@[reducible] def in_feed_clean : List PK := [.v (.cons (.int .i64) (.cons (.int .u32) (.cons (.int .u32) (.cons (.sl (.cons (.int .u16) (.cons (.int .u16) (.nil)))) (.cons (.cons (.int .u16) (.cons (.int .i64) (.cons (.int .u8) (.cons (.sl (.cons (.int .i64) (.cons (.int .i64) (.nil)))) (.nil))))) (.cons (.sl (.cons (.int .u32) (.cons (.int .u8) (.nil)))) (.cons (.cons (.int .i64) (.cons (.int .u32) (.cons (.sl (.int .u32)) (.nil)))) (.nil))))))))]
@[reducible] def out_feed_clean : List OK := [.v (.bool)]
def an_feed_clean : Anns := ⟨fun r => none, fun t => none, fun i => []⟩
noncomputable def G_feed_clean : Ctx := fun n => none
noncomputable def F_feed_clean : Den (chain (in_feed_clean.map PK.ty)) → Option (Den (chain (out_feed_clean.map OK.ty ++ statesOf in_feed_clean))) := fnK tab G_feed_clean an_feed_clean 1000000 Go.Proofs.Tryd.f26 (bodyOf Go.Proofs.Tryd.f26) in_feed_clean out_feed_clean
theorem S_feed_clean : Sound Go.Proofs.Tryd.prog tab 26 ⟨in_feed_clean, out_feed_clean, F_feed_clean⟩ := sound_fn tab_ok follows (Γ := G_feed_clean) (fun f con h => by
    unfold G_feed_clean at h
    cases h) (by kernel_rfl) (by kernel_rfl) (by kernel_rfl) (by kernel_rfl)
/-- octet.bytesOf -/
@[reducible] def in_octet_bytesOf : List PK := [.v (.int .u64), .v (.int .i64)]
@[reducible] def out_octet_bytesOf : List OK := [.v (.sl (.int .u8))]
def an_octet_bytesOf : Anns := ⟨fun r => if r = 3 then some ⟨[.sv 0, .row 5 100005 5, .sv 6], (.cons (.int .u64) (.cons (.sl (.int .u8)) (.cons (.int .i64) (.nil)))), []⟩ else none, fun t => none, fun i => []⟩
noncomputable def G_octet_bytesOf : Ctx := fun n => none
noncomputable def F_octet_bytesOf : Den (chain (in_octet_bytesOf.map PK.ty)) → Option (Den (chain (out_octet_bytesOf.map OK.ty ++ statesOf in_octet_bytesOf))) := fnK tab G_octet_bytesOf an_octet_bytesOf 1000000 Go.Proofs.Tryd.f45 (bodyOf Go.Proofs.Tryd.f45) in_octet_bytesOf out_octet_bytesOf
theorem S_octet_bytesOf : Sound Go.Proofs.Tryd.prog tab 45 ⟨in_octet_bytesOf, out_octet_bytesOf, F_octet_bytesOf⟩ := sound_fn tab_ok follows (Γ := G_octet_bytesOf) (fun f con h => by
    unfold G_octet_bytesOf at h
    cases h) (by kernel_rfl) (by kernel_rfl) (by kernel_rfl) (by kernel_rfl)
/-- octet.Put -/
@[reducible] def in_octet_Put : List PK := [.v (.int .u64), .v (.int .i64)]
@[reducible] def out_octet_Put : List OK := [.v (.sl (.int .u8)), .v (.int .i64)]
def an_octet_Put : Anns := ⟨fun r => none, fun t => none, fun i => []⟩
noncomputable def G_octet_Put : Ctx := fun n => if n = 45 then some ⟨in_octet_bytesOf, out_octet_bytesOf, F_octet_bytesOf⟩ else none
noncomputable def F_octet_Put : Den (chain (in_octet_Put.map PK.ty)) → Option (Den (chain (out_octet_Put.map OK.ty ++ statesOf in_octet_Put))) := fnK tab G_octet_Put an_octet_Put 1000000 Go.Proofs.Tryd.f27 (bodyOf Go.Proofs.Tryd.f27) in_octet_Put out_octet_Put
theorem S_octet_Put : Sound Go.Proofs.Tryd.prog tab 27 ⟨in_octet_Put, out_octet_Put, F_octet_Put⟩ := sound_fn tab_ok follows (Γ := G_octet_Put) (fun f con h => by
    unfold G_octet_Put at h
    split at h
    · rename_i e; subst e; cases h; exact S_octet_bytesOf
    cases h) (by kernel_rfl) (by kernel_rfl) (by kernel_rfl) (by kernel_rfl)
/-- octet.Join -/
@[reducible] def in_octet_Join : List PK := [.v (.sl (.sl (.int .u8)))]
@[reducible] def out_octet_Join : List OK := [.v (.sl (.int .u8))]
def an_octet_Join : Anns := ⟨fun r => if r = 3 then some ⟨[.sv 0, .sv 3, .sv 9, .sv 10, .sv 11], (.cons (.sl (.sl (.int .u8))) (.cons (.int .i64) (.cons (.sl (.sl (.int .u8))) (.cons (.int .i64) (.cons (.int .i64) (.nil)))))), []⟩ else if r = 9 then some ⟨[.row 6 100006 5, .sv 22, .sv 23, .sv 24], (.cons (.sl (.int .u8)) (.cons (.sl (.sl (.int .u8))) (.cons (.int .i64) (.cons (.int .i64) (.nil))))), []⟩ else none, fun t => none, fun i => []⟩
noncomputable def G_octet_Join : Ctx := fun n => none
noncomputable def F_octet_Join : Den (chain (in_octet_Join.map PK.ty)) → Option (Den (chain (out_octet_Join.map OK.ty ++ statesOf in_octet_Join))) := fnK tab G_octet_Join an_octet_Join 1000000 Go.Proofs.Tryd.f28 (bodyOf Go.Proofs.Tryd.f28) in_octet_Join out_octet_Join
theorem S_octet_Join : Sound Go.Proofs.Tryd.prog tab 28 ⟨in_octet_Join, out_octet_Join, F_octet_Join⟩ := sound_fn tab_ok follows (Γ := G_octet_Join) (fun f con h => by
    unfold G_octet_Join at h
    cases h) (by kernel_rfl) (by kernel_rfl) (by kernel_rfl) (by kernel_rfl)
/-- nack.Write -/
@[reducible] def in_nack_Write : List PK := [.v (.sl (.cons (.int .u16) (.cons (.int .u16) (.nil))))]
@[reducible] def out_nack_Write : List OK := [.v (.sl (.int .u8)), .v (.int .i64)]
def an_nack_Write : Anns := ⟨fun r => if r = 5 then some ⟨[.row 4 100004 5, .sv 19, .sv 20, .sv 21], (.cons (.sl (.int .u8)) (.cons (.sl (.cons (.int .u16) (.cons (.int .u16) (.nil)))) (.cons (.int .i64) (.cons (.int .i64) (.nil))))), []⟩ else none, fun t => none, fun i => []⟩
noncomputable def G_nack_Write : Ctx := fun n => none
noncomputable def F_nack_Write : Den (chain (in_nack_Write.map PK.ty)) → Option (Den (chain (out_nack_Write.map OK.ty ++ statesOf in_nack_Write))) := fnK tab G_nack_Write an_nack_Write 1000000 Go.Proofs.Tryd.f92 (bodyOf Go.Proofs.Tryd.f92) in_nack_Write out_nack_Write
theorem S_nack_Write : Sound Go.Proofs.Tryd.prog tab 92 ⟨in_nack_Write, out_nack_Write, F_nack_Write⟩ := sound_fn tab_ok follows (Γ := G_nack_Write) (fun f con h => by
    unfold G_nack_Write at h
    cases h) (by kernel_rfl) (by kernel_rfl) (by kernel_rfl) (by kernel_rfl)
/-- (feed.pairs).write -/
@[reducible] def in_feed_pairs_write : List PK := [.v (.sl (.cons (.int .u16) (.cons (.int .u16) (.nil))))]
@[reducible] def out_feed_pairs_write : List OK := [.v (.sl (.int .u8)), .v (.int .i64)]
def an_feed_pairs_write : Anns := ⟨fun r => none, fun t => none, fun i => []⟩
noncomputable def G_feed_pairs_write : Ctx := fun n => if n = 92 then some ⟨in_nack_Write, out_nack_Write, F_nack_Write⟩ else none
noncomputable def F_feed_pairs_write : Den (chain (in_feed_pairs_write.map PK.ty)) → Option (Den (chain (out_feed_pairs_write.map OK.ty ++ statesOf in_feed_pairs_write))) := fnK tab G_feed_pairs_write an_feed_pairs_write 1000000 Go.Proofs.Tryd.f91 (bodyOf Go.Proofs.Tryd.f91) in_feed_pairs_write out_feed_pairs_write
theorem S_feed_pairs_write : Sound Go.Proofs.Tryd.prog tab 91 ⟨in_feed_pairs_write, out_feed_pairs_write, F_feed_pairs_write⟩ := sound_fn tab_ok follows (Γ := G_feed_pairs_write) (fun f con h => by
    unfold G_feed_pairs_write at h
    split at h
    · rename_i e; subst e; cases h; exact S_nack_Write
    cases h) (by kernel_rfl) (by kernel_rfl) (by kernel_rfl) (by kernel_rfl)
/-- arrive.Write -/
@[reducible] def in_arrive_Write : List PK := [.v (.cons (.int .u16) (.cons (.int .i64) (.cons (.int .u8) (.cons (.sl (.cons (.int .i64) (.cons (.int .i64) (.nil)))) (.nil)))))]
@[reducible] def out_arrive_Write : List OK := [.v (.sl (.int .u8)), .v (.int .i64)]
def F_arrive_Write : Den (chain (in_arrive_Write.map PK.ty)) → Option (Den (chain (out_arrive_Write.map OK.ty ++ statesOf in_arrive_Write))) := fun _ => none
theorem S_arrive_Write : Sound Go.Proofs.Tryd.prog tab 94 ⟨in_arrive_Write, out_arrive_Write, F_arrive_Write⟩ := Sound.empty (fn := Go.Proofs.Tryd.f94) (by kernel_rfl) (by kernel_rfl) (by kernel_rfl) _ _
/-- (feed.telling).write -/
@[reducible] def in_feed_telling_write : List PK := [.v (.cons (.cons (.int .u16) (.cons (.int .i64) (.cons (.int .u8) (.cons (.sl (.cons (.int .i64) (.cons (.int .i64) (.nil)))) (.nil))))) (.nil))]
@[reducible] def out_feed_telling_write : List OK := [.v (.sl (.int .u8)), .v (.int .i64)]
def an_feed_telling_write : Anns := ⟨fun r => none, fun t => none, fun i => []⟩
noncomputable def G_feed_telling_write : Ctx := fun n => if n = 94 then some ⟨in_arrive_Write, out_arrive_Write, F_arrive_Write⟩ else none
noncomputable def F_feed_telling_write : Den (chain (in_feed_telling_write.map PK.ty)) → Option (Den (chain (out_feed_telling_write.map OK.ty ++ statesOf in_feed_telling_write))) := fnK tab G_feed_telling_write an_feed_telling_write 1000000 Go.Proofs.Tryd.f93 (bodyOf Go.Proofs.Tryd.f93) in_feed_telling_write out_feed_telling_write
theorem S_feed_telling_write : Sound Go.Proofs.Tryd.prog tab 93 ⟨in_feed_telling_write, out_feed_telling_write, F_feed_telling_write⟩ := sound_fn tab_ok follows (Γ := G_feed_telling_write) (fun f con h => by
    unfold G_feed_telling_write at h
    split at h
    · rename_i e; subst e; cases h; exact S_arrive_Write
    cases h) (by kernel_rfl) (by kernel_rfl) (by kernel_rfl) (by kernel_rfl)
/-- fresh.Write -/
@[reducible] def in_fresh_Write : List PK := [.v (.sl (.cons (.int .u32) (.cons (.int .u8) (.nil))))]
@[reducible] def out_fresh_Write : List OK := [.v (.sl (.int .u8)), .v (.int .i64)]
def an_fresh_Write : Anns := ⟨fun r => if r = 5 then some ⟨[.row 4 100004 5, .sv 21, .sv 22, .sv 23], (.cons (.sl (.int .u8)) (.cons (.sl (.cons (.int .u32) (.cons (.int .u8) (.nil)))) (.cons (.int .i64) (.cons (.int .i64) (.nil))))), []⟩ else none, fun t => none, fun i => []⟩
noncomputable def G_fresh_Write : Ctx := fun n => if n = 27 then some ⟨in_octet_Put, out_octet_Put, F_octet_Put⟩ else none
noncomputable def F_fresh_Write : Den (chain (in_fresh_Write.map PK.ty)) → Option (Den (chain (out_fresh_Write.map OK.ty ++ statesOf in_fresh_Write))) := fnK tab G_fresh_Write an_fresh_Write 1000000 Go.Proofs.Tryd.f107 (bodyOf Go.Proofs.Tryd.f107) in_fresh_Write out_fresh_Write
theorem S_fresh_Write : Sound Go.Proofs.Tryd.prog tab 107 ⟨in_fresh_Write, out_fresh_Write, F_fresh_Write⟩ := sound_fn tab_ok follows (Γ := G_fresh_Write) (fun f con h => by
    unfold G_fresh_Write at h
    split at h
    · rename_i e; subst e; cases h; exact S_octet_Put
    cases h) (by kernel_rfl) (by kernel_rfl) (by kernel_rfl) (by kernel_rfl)
/-- (feed.entries).write -/
@[reducible] def in_feed_entries_write : List PK := [.v (.sl (.cons (.int .u32) (.cons (.int .u8) (.nil))))]
@[reducible] def out_feed_entries_write : List OK := [.v (.sl (.int .u8)), .v (.int .i64)]
def an_feed_entries_write : Anns := ⟨fun r => none, fun t => none, fun i => []⟩
noncomputable def G_feed_entries_write : Ctx := fun n => if n = 107 then some ⟨in_fresh_Write, out_fresh_Write, F_fresh_Write⟩ else none
noncomputable def F_feed_entries_write : Den (chain (in_feed_entries_write.map PK.ty)) → Option (Den (chain (out_feed_entries_write.map OK.ty ++ statesOf in_feed_entries_write))) := fnK tab G_feed_entries_write an_feed_entries_write 1000000 Go.Proofs.Tryd.f106 (bodyOf Go.Proofs.Tryd.f106) in_feed_entries_write out_feed_entries_write
theorem S_feed_entries_write : Sound Go.Proofs.Tryd.prog tab 106 ⟨in_feed_entries_write, out_feed_entries_write, F_feed_entries_write⟩ := sound_fn tab_ok follows (Γ := G_feed_entries_write) (fun f con h => by
    unfold G_feed_entries_write at h
    split at h
    · rename_i e; subst e; cases h; exact S_fresh_Write
    cases h) (by kernel_rfl) (by kernel_rfl) (by kernel_rfl) (by kernel_rfl)
/-- remb.Write -/
@[reducible] def in_remb_Write : List PK := [.v (.cons (.int .i64) (.cons (.int .u32) (.cons (.sl (.int .u32)) (.nil))))]
@[reducible] def out_remb_Write : List OK := [.v (.sl (.int .u8)), .v (.int .i64)]
def F_remb_Write : Den (chain (in_remb_Write.map PK.ty)) → Option (Den (chain (out_remb_Write.map OK.ty ++ statesOf in_remb_Write))) := fun _ => none
theorem S_remb_Write : Sound Go.Proofs.Tryd.prog tab 109 ⟨in_remb_Write, out_remb_Write, F_remb_Write⟩ := Sound.empty (fn := Go.Proofs.Tryd.f109) (by kernel_rfl) (by kernel_rfl) (by kernel_rfl) _ _
/-- (feed.rate).write -/
@[reducible] def in_feed_rate_write : List PK := [.v (.cons (.cons (.int .i64) (.cons (.int .u32) (.cons (.sl (.int .u32)) (.nil)))) (.nil))]
@[reducible] def out_feed_rate_write : List OK := [.v (.sl (.int .u8)), .v (.int .i64)]
def an_feed_rate_write : Anns := ⟨fun r => none, fun t => none, fun i => []⟩
noncomputable def G_feed_rate_write : Ctx := fun n => if n = 109 then some ⟨in_remb_Write, out_remb_Write, F_remb_Write⟩ else none
noncomputable def F_feed_rate_write : Den (chain (in_feed_rate_write.map PK.ty)) → Option (Den (chain (out_feed_rate_write.map OK.ty ++ statesOf in_feed_rate_write))) := fnK tab G_feed_rate_write an_feed_rate_write 1000000 Go.Proofs.Tryd.f108 (bodyOf Go.Proofs.Tryd.f108) in_feed_rate_write out_feed_rate_write
theorem S_feed_rate_write : Sound Go.Proofs.Tryd.prog tab 108 ⟨in_feed_rate_write, out_feed_rate_write, F_feed_rate_write⟩ := sound_fn tab_ok follows (Γ := G_feed_rate_write) (fun f con h => by
    unfold G_feed_rate_write at h
    split at h
    · rename_i e; subst e; cases h; exact S_remb_Write
    cases h) (by kernel_rfl) (by kernel_rfl) (by kernel_rfl) (by kernel_rfl)
/-- (feed.asking).write -/
@[reducible] def in_feed_asking_write : List PK := [.v (.nil)]
@[reducible] def out_feed_asking_write : List OK := [.v (.sl (.int .u8)), .v (.int .i64)]
def an_feed_asking_write : Anns := ⟨fun r => none, fun t => none, fun i => []⟩
noncomputable def G_feed_asking_write : Ctx := fun n => none
noncomputable def F_feed_asking_write : Den (chain (in_feed_asking_write.map PK.ty)) → Option (Den (chain (out_feed_asking_write.map OK.ty ++ statesOf in_feed_asking_write))) := fnK tab G_feed_asking_write an_feed_asking_write 1000000 Go.Proofs.Tryd.f111 (bodyOf Go.Proofs.Tryd.f111) in_feed_asking_write out_feed_asking_write
theorem S_feed_asking_write : Sound Go.Proofs.Tryd.prog tab 111 ⟨in_feed_asking_write, out_feed_asking_write, F_feed_asking_write⟩ := sound_fn tab_ok follows (Γ := G_feed_asking_write) (fun f con h => by
    unfold G_feed_asking_write at h
    cases h) (by kernel_rfl) (by kernel_rfl) (by kernel_rfl) (by kernel_rfl)
/-- feed.Write -/
@[reducible] def in_feed_Write : List PK := [.v (.cons (.int .i64) (.cons (.int .u32) (.cons (.int .u32) (.cons (.sl (.cons (.int .u16) (.cons (.int .u16) (.nil)))) (.cons (.cons (.int .u16) (.cons (.int .i64) (.cons (.int .u8) (.cons (.sl (.cons (.int .i64) (.cons (.int .i64) (.nil)))) (.nil))))) (.cons (.sl (.cons (.int .u32) (.cons (.int .u8) (.nil)))) (.cons (.cons (.int .i64) (.cons (.int .u32) (.cons (.sl (.int .u32)) (.nil)))) (.nil))))))))]
@[reducible] def out_feed_Write : List OK := [.v (.sl (.int .u8)), .v (.int .i64)]
def an_feed_Write : Anns := ⟨fun r => none, fun t => none, fun i => []⟩
noncomputable def G_feed_Write : Ctx := fun n => if n = 25 then some ⟨in_feed_says, out_feed_says, F_feed_says⟩ else if n = 26 then some ⟨in_feed_clean, out_feed_clean, F_feed_clean⟩ else if n = 27 then some ⟨in_octet_Put, out_octet_Put, F_octet_Put⟩ else if n = 28 then some ⟨in_octet_Join, out_octet_Join, F_octet_Join⟩ else if n = 91 then some ⟨in_feed_pairs_write, out_feed_pairs_write, F_feed_pairs_write⟩ else if n = 93 then some ⟨in_feed_telling_write, out_feed_telling_write, F_feed_telling_write⟩ else if n = 106 then some ⟨in_feed_entries_write, out_feed_entries_write, F_feed_entries_write⟩ else if n = 108 then some ⟨in_feed_rate_write, out_feed_rate_write, F_feed_rate_write⟩ else if n = 111 then some ⟨in_feed_asking_write, out_feed_asking_write, F_feed_asking_write⟩ else none
noncomputable def F_feed_Write : Den (chain (in_feed_Write.map PK.ty)) → Option (Den (chain (out_feed_Write.map OK.ty ++ statesOf in_feed_Write))) := fnK tab G_feed_Write an_feed_Write 1000000 Go.Proofs.Tryd.f13 (bodyOf Go.Proofs.Tryd.f13) in_feed_Write out_feed_Write
theorem S_feed_Write : Sound Go.Proofs.Tryd.prog tab 13 ⟨in_feed_Write, out_feed_Write, F_feed_Write⟩ := sound_fn tab_ok follows (Γ := G_feed_Write) (fun f con h => by
    unfold G_feed_Write at h
    split at h
    · rename_i e; subst e; cases h; exact S_feed_says
    split at h
    · rename_i e; subst e; cases h; exact S_feed_clean
    split at h
    · rename_i e; subst e; cases h; exact S_octet_Put
    split at h
    · rename_i e; subst e; cases h; exact S_octet_Join
    split at h
    · rename_i e; subst e; cases h; exact S_feed_pairs_write
    split at h
    · rename_i e; subst e; cases h; exact S_feed_telling_write
    split at h
    · rename_i e; subst e; cases h; exact S_feed_entries_write
    split at h
    · rename_i e; subst e; cases h; exact S_feed_rate_write
    split at h
    · rename_i e; subst e; cases h; exact S_feed_asking_write
    cases h) (by kernel_rfl) (by kernel_rfl) (by kernel_rfl) (by kernel_rfl)
/-- arrive.Read -/
@[reducible] def in_arrive_Read : List PK := [.v (.sl (.int .u8))]
@[reducible] def out_arrive_Read : List OK := [.v (.cons (.int .u16) (.cons (.int .i64) (.cons (.int .u8) (.cons (.sl (.cons (.int .i64) (.cons (.int .i64) (.nil)))) (.nil))))), .v (.int .i64)]
def F_arrive_Read : Den (chain (in_arrive_Read.map PK.ty)) → Option (Den (chain (out_arrive_Read.map OK.ty ++ statesOf in_arrive_Read))) := fun _ => none
theorem S_arrive_Read : Sound Go.Proofs.Tryd.prog tab 51 ⟨in_arrive_Read, out_arrive_Read, F_arrive_Read⟩ := Sound.empty (fn := Go.Proofs.Tryd.f51) (by kernel_rfl) (by kernel_rfl) (by kernel_rfl) _ _
/-- fresh.Read -/
@[reducible] def in_fresh_Read : List PK := [.v (.sl (.int .u8))]
@[reducible] def out_fresh_Read : List OK := [.v (.sl (.cons (.int .u32) (.cons (.int .u8) (.nil)))), .v (.int .i64)]
def an_fresh_Read : Anns := ⟨fun r => if r = 7 then some ⟨[.sv 0, .row 4 100004 114, .sv 5], (.cons (.sl (.int .u8)) (.cons (.sl (.cons (.int .u32) (.cons (.int .u8) (.nil)))) (.cons (.int .i64) (.nil)))), []⟩ else none, fun t => none, fun i => []⟩
noncomputable def G_fresh_Read : Ctx := fun n => if n = 35 then some ⟨in_octet_Get, out_octet_Get, F_octet_Get⟩ else none
noncomputable def F_fresh_Read : Den (chain (in_fresh_Read.map PK.ty)) → Option (Den (chain (out_fresh_Read.map OK.ty ++ statesOf in_fresh_Read))) := fnK tab G_fresh_Read an_fresh_Read 1000000 Go.Proofs.Tryd.f52 (bodyOf Go.Proofs.Tryd.f52) in_fresh_Read out_fresh_Read
theorem S_fresh_Read : Sound Go.Proofs.Tryd.prog tab 52 ⟨in_fresh_Read, out_fresh_Read, F_fresh_Read⟩ := sound_fn tab_ok follows (Γ := G_fresh_Read) (fun f con h => by
    unfold G_fresh_Read at h
    split at h
    · rename_i e; subst e; cases h; exact S_octet_Get
    cases h) (by kernel_rfl) (by kernel_rfl) (by kernel_rfl) (by kernel_rfl)
/-- remb.Read -/
@[reducible] def in_remb_Read : List PK := [.v (.sl (.int .u8))]
@[reducible] def out_remb_Read : List OK := [.v (.cons (.int .i64) (.cons (.int .u32) (.cons (.sl (.int .u32)) (.nil)))), .v (.int .i64)]
def F_remb_Read : Den (chain (in_remb_Read.map PK.ty)) → Option (Den (chain (out_remb_Read.map OK.ty ++ statesOf in_remb_Read))) := fun _ => none
theorem S_remb_Read : Sound Go.Proofs.Tryd.prog tab 53 ⟨in_remb_Read, out_remb_Read, F_remb_Read⟩ := Sound.empty (fn := Go.Proofs.Tryd.f53) (by kernel_rfl) (by kernel_rfl) (by kernel_rfl) _ _
/-- feed.read -/
@[reducible] def in_feed_read : List PK := [.v (.int .i64), .v (.sl (.int .u8))]
@[reducible] def out_feed_read : List OK := [.v (.ifc [82, 84, 85, 87, 104] (.cons (.sl (.cons (.int .u16) (.cons (.int .u16) (.nil)))) (.cons (.cons (.cons (.int .u16) (.cons (.int .i64) (.cons (.int .u8) (.cons (.sl (.cons (.int .i64) (.cons (.int .i64) (.nil)))) (.nil))))) (.nil)) (.cons (.sl (.cons (.int .u32) (.cons (.int .u8) (.nil)))) (.cons (.cons (.cons (.int .i64) (.cons (.int .u32) (.cons (.sl (.int .u32)) (.nil)))) (.nil)) (.cons (.nil) (.nil))))))), .v (.int .i64)]
def an_feed_read : Anns := ⟨fun r => none, fun t => none, fun i => []⟩
noncomputable def G_feed_read : Ctx := fun n => if n = 50 then some ⟨in_nack_Read, out_nack_Read, F_nack_Read⟩ else if n = 51 then some ⟨in_arrive_Read, out_arrive_Read, F_arrive_Read⟩ else if n = 52 then some ⟨in_fresh_Read, out_fresh_Read, F_fresh_Read⟩ else if n = 53 then some ⟨in_remb_Read, out_remb_Read, F_remb_Read⟩ else none
noncomputable def F_feed_read : Den (chain (in_feed_read.map PK.ty)) → Option (Den (chain (out_feed_read.map OK.ty ++ statesOf in_feed_read))) := fnK tab G_feed_read an_feed_read 1000000 Go.Proofs.Tryd.f34 (bodyOf Go.Proofs.Tryd.f34) in_feed_read out_feed_read
theorem S_feed_read : Sound Go.Proofs.Tryd.prog tab 34 ⟨in_feed_read, out_feed_read, F_feed_read⟩ := sound_fn tab_ok follows (Γ := G_feed_read) (fun f con h => by
    unfold G_feed_read at h
    split at h
    · rename_i e; subst e; cases h; exact S_nack_Read
    split at h
    · rename_i e; subst e; cases h; exact S_arrive_Read
    split at h
    · rename_i e; subst e; cases h; exact S_fresh_Read
    split at h
    · rename_i e; subst e; cases h; exact S_remb_Read
    cases h) (by kernel_rfl) (by kernel_rfl) (by kernel_rfl) (by kernel_rfl)
/-- feed.Read -/
@[reducible] def in_feed_Read : List PK := [.v (.int .i64), .v (.sl (.int .u8))]
@[reducible] def out_feed_Read : List OK := [.v (.cons (.int .i64) (.cons (.int .u32) (.cons (.int .u32) (.cons (.sl (.cons (.int .u16) (.cons (.int .u16) (.nil)))) (.cons (.cons (.int .u16) (.cons (.int .i64) (.cons (.int .u8) (.cons (.sl (.cons (.int .i64) (.cons (.int .i64) (.nil)))) (.nil))))) (.cons (.sl (.cons (.int .u32) (.cons (.int .u8) (.nil)))) (.cons (.cons (.int .i64) (.cons (.int .u32) (.cons (.sl (.int .u32)) (.nil)))) (.nil)))))))), .v (.int .i64)]
def an_feed_Read : Anns := ⟨fun r => none, fun t => if t = 73 then some (true, ⟨[.bx 4 false [.v, .v, .v, .v, .v, .v, .v, .v, .v, .v, .v, .v], .bx 15 false [.v, .v, .v, .v, .v, .v, .v, .v, .v, .v, .v, .v], .cst 4 (.box 4 0), .cst 15 (.box 15 0)], (.cons (.int .i64) (.cons (.int .u32) (.cons (.int .u32) (.cons (.sl (.cons (.int .u16) (.cons (.int .u16) (.nil)))) (.cons (.int .u16) (.cons (.int .i64) (.cons (.int .u8) (.cons (.sl (.cons (.int .i64) (.cons (.int .i64) (.nil)))) (.cons (.sl (.cons (.int .u32) (.cons (.int .u8) (.nil)))) (.cons (.int .i64) (.cons (.int .u32) (.cons (.sl (.int .u32)) (.cons (.int .i64) (.cons (.int .u32) (.cons (.int .u32) (.cons (.sl (.cons (.int .u16) (.cons (.int .u16) (.nil)))) (.cons (.int .u16) (.cons (.int .i64) (.cons (.int .u8) (.cons (.sl (.cons (.int .i64) (.cons (.int .i64) (.nil)))) (.cons (.sl (.cons (.int .u32) (.cons (.int .u8) (.nil)))) (.cons (.int .i64) (.cons (.int .u32) (.cons (.sl (.int .u32)) (.nil))))))))))))))))))))))))), []⟩) else if t = 78 then some (true, ⟨[.bx 4 false [.v, .v, .v, .v, .v, .v, .v, .v, .v, .v, .v, .v], .bx 15 false [.v, .v, .v, .v, .v, .v, .v, .v, .v, .v, .v, .v], .cst 4 (.box 4 0), .cst 15 (.box 15 0)], (.cons (.int .i64) (.cons (.int .u32) (.cons (.int .u32) (.cons (.sl (.cons (.int .u16) (.cons (.int .u16) (.nil)))) (.cons (.int .u16) (.cons (.int .i64) (.cons (.int .u8) (.cons (.sl (.cons (.int .i64) (.cons (.int .i64) (.nil)))) (.cons (.sl (.cons (.int .u32) (.cons (.int .u8) (.nil)))) (.cons (.int .i64) (.cons (.int .u32) (.cons (.sl (.int .u32)) (.cons (.int .i64) (.cons (.int .u32) (.cons (.int .u32) (.cons (.sl (.cons (.int .u16) (.cons (.int .u16) (.nil)))) (.cons (.int .u16) (.cons (.int .i64) (.cons (.int .u8) (.cons (.sl (.cons (.int .i64) (.cons (.int .i64) (.nil)))) (.cons (.sl (.cons (.int .u32) (.cons (.int .u8) (.nil)))) (.cons (.int .i64) (.cons (.int .u32) (.cons (.sl (.int .u32)) (.nil))))))))))))))))))))))))), []⟩) else if t = 84 then some (true, ⟨[.bx 4 false [.v, .v, .v, .v, .v, .v, .v, .v, .v, .v, .v, .v], .bx 15 false [.v, .v, .v, .v, .v, .v, .v, .v, .v, .v, .v, .v], .cst 4 (.box 4 0), .cst 15 (.box 15 0)], (.cons (.int .i64) (.cons (.int .u32) (.cons (.int .u32) (.cons (.sl (.cons (.int .u16) (.cons (.int .u16) (.nil)))) (.cons (.int .u16) (.cons (.int .i64) (.cons (.int .u8) (.cons (.sl (.cons (.int .i64) (.cons (.int .i64) (.nil)))) (.cons (.sl (.cons (.int .u32) (.cons (.int .u8) (.nil)))) (.cons (.int .i64) (.cons (.int .u32) (.cons (.sl (.int .u32)) (.cons (.int .i64) (.cons (.int .u32) (.cons (.int .u32) (.cons (.sl (.cons (.int .u16) (.cons (.int .u16) (.nil)))) (.cons (.int .u16) (.cons (.int .i64) (.cons (.int .u8) (.cons (.sl (.cons (.int .i64) (.cons (.int .i64) (.nil)))) (.cons (.sl (.cons (.int .u32) (.cons (.int .u8) (.nil)))) (.cons (.int .i64) (.cons (.int .u32) (.cons (.sl (.int .u32)) (.nil))))))))))))))))))))))))), []⟩) else if t = 89 then some (true, ⟨[.bx 4 false [.v, .v, .v, .v, .v, .v, .v, .v, .v, .v, .v, .v], .bx 15 false [.v, .v, .v, .v, .v, .v, .v, .v, .v, .v, .v, .v], .cst 4 (.box 4 0), .cst 15 (.box 15 0)], (.cons (.int .i64) (.cons (.int .u32) (.cons (.int .u32) (.cons (.sl (.cons (.int .u16) (.cons (.int .u16) (.nil)))) (.cons (.int .u16) (.cons (.int .i64) (.cons (.int .u8) (.cons (.sl (.cons (.int .i64) (.cons (.int .i64) (.nil)))) (.cons (.sl (.cons (.int .u32) (.cons (.int .u8) (.nil)))) (.cons (.int .i64) (.cons (.int .u32) (.cons (.sl (.int .u32)) (.cons (.int .i64) (.cons (.int .u32) (.cons (.int .u32) (.cons (.sl (.cons (.int .u16) (.cons (.int .u16) (.nil)))) (.cons (.int .u16) (.cons (.int .i64) (.cons (.int .u8) (.cons (.sl (.cons (.int .i64) (.cons (.int .i64) (.nil)))) (.cons (.sl (.cons (.int .u32) (.cons (.int .u8) (.nil)))) (.cons (.int .i64) (.cons (.int .u32) (.cons (.sl (.int .u32)) (.nil))))))))))))))))))))))))), []⟩) else none, fun i => []⟩
noncomputable def G_feed_Read : Ctx := fun n => if n = 8 then some ⟨in_feed_Code, out_feed_Code, F_feed_Code⟩ else if n = 34 then some ⟨in_feed_read, out_feed_read, F_feed_read⟩ else if n = 35 then some ⟨in_octet_Get, out_octet_Get, F_octet_Get⟩ else none
noncomputable def F_feed_Read : Den (chain (in_feed_Read.map PK.ty)) → Option (Den (chain (out_feed_Read.map OK.ty ++ statesOf in_feed_Read))) := fnK tab G_feed_Read an_feed_Read 1000000 Go.Proofs.Tryd.f15 (bodyOf Go.Proofs.Tryd.f15) in_feed_Read out_feed_Read
theorem S_feed_Read : Sound Go.Proofs.Tryd.prog tab 15 ⟨in_feed_Read, out_feed_Read, F_feed_Read⟩ := sound_fn tab_ok follows (Γ := G_feed_Read) (fun f con h => by
    unfold G_feed_Read at h
    split at h
    · rename_i e; subst e; cases h; exact S_feed_Code
    split at h
    · rename_i e; subst e; cases h; exact S_feed_read
    split at h
    · rename_i e; subst e; cases h; exact S_octet_Get
    cases h) (by kernel_rfl) (by kernel_rfl) (by kernel_rfl) (by kernel_rfl)
/-- feed.Right -/
@[reducible] def in_feed_Right : List PK := [.v (.cons (.int .i64) (.cons (.int .u32) (.cons (.int .u32) (.cons (.sl (.cons (.int .u16) (.cons (.int .u16) (.nil)))) (.cons (.cons (.int .u16) (.cons (.int .i64) (.cons (.int .u8) (.cons (.sl (.cons (.int .i64) (.cons (.int .i64) (.nil)))) (.nil))))) (.cons (.sl (.cons (.int .u32) (.cons (.int .u8) (.nil)))) (.cons (.cons (.int .i64) (.cons (.int .u32) (.cons (.sl (.int .u32)) (.nil)))) (.nil))))))))]
@[reducible] def out_feed_Right : List OK := [.v (.bool)]
def an_feed_Right : Anns := ⟨fun r => none, fun t => none, fun i => []⟩
noncomputable def G_feed_Right : Ctx := fun n => if n = 13 then some ⟨in_feed_Write, out_feed_Write, F_feed_Write⟩ else none
noncomputable def F_feed_Right : Den (chain (in_feed_Right.map PK.ty)) → Option (Den (chain (out_feed_Right.map OK.ty ++ statesOf in_feed_Right))) := fnK tab G_feed_Right an_feed_Right 1000000 Go.Proofs.Tryd.f17 (bodyOf Go.Proofs.Tryd.f17) in_feed_Right out_feed_Right
theorem S_feed_Right : Sound Go.Proofs.Tryd.prog tab 17 ⟨in_feed_Right, out_feed_Right, F_feed_Right⟩ := sound_fn tab_ok follows (Γ := G_feed_Right) (fun f con h => by
    unfold G_feed_Right at h
    split at h
    · rename_i e; subst e; cases h; exact S_feed_Write
    cases h) (by kernel_rfl) (by kernel_rfl) (by kernel_rfl) (by kernel_rfl)
/-- bytes.Equal -/
@[reducible] def in_bytes_Equal : List PK := [.v (.sl (.int .u8)), .v (.sl (.int .u8))]
@[reducible] def out_bytes_Equal : List OK := [.v (.bool)]
def an_bytes_Equal : Anns := ⟨fun r => none, fun t => none, fun i => []⟩
noncomputable def G_bytes_Equal : Ctx := fun n => none
noncomputable def F_bytes_Equal : Den (chain (in_bytes_Equal.map PK.ty)) → Option (Den (chain (out_bytes_Equal.map OK.ty ++ statesOf in_bytes_Equal))) := fnK tab G_bytes_Equal an_bytes_Equal 1000000 Go.Proofs.Tryd.f43 (bodyOf Go.Proofs.Tryd.f43) in_bytes_Equal out_bytes_Equal
theorem S_bytes_Equal : Sound Go.Proofs.Tryd.prog tab 43 ⟨in_bytes_Equal, out_bytes_Equal, F_bytes_Equal⟩ := sound_fn tab_ok follows (Γ := G_bytes_Equal) (fun f con h => by
    unfold G_bytes_Equal at h
    cases h) (by kernel_rfl) (by kernel_rfl) (by kernel_rfl) (by kernel_rfl)
/-- feed.Canon -/
@[reducible] def in_feed_Canon : List PK := [.v (.int .i64), .v (.sl (.int .u8))]
@[reducible] def out_feed_Canon : List OK := [.v (.bool)]
def an_feed_Canon : Anns := ⟨fun r => none, fun t => none, fun i => []⟩
noncomputable def G_feed_Canon : Ctx := fun n => if n = 13 then some ⟨in_feed_Write, out_feed_Write, F_feed_Write⟩ else if n = 15 then some ⟨in_feed_Read, out_feed_Read, F_feed_Read⟩ else if n = 43 then some ⟨in_bytes_Equal, out_bytes_Equal, F_bytes_Equal⟩ else none
noncomputable def F_feed_Canon : Den (chain (in_feed_Canon.map PK.ty)) → Option (Den (chain (out_feed_Canon.map OK.ty ++ statesOf in_feed_Canon))) := fnK tab G_feed_Canon an_feed_Canon 1000000 Go.Proofs.Tryd.f19 (bodyOf Go.Proofs.Tryd.f19) in_feed_Canon out_feed_Canon
theorem S_feed_Canon : Sound Go.Proofs.Tryd.prog tab 19 ⟨in_feed_Canon, out_feed_Canon, F_feed_Canon⟩ := sound_fn tab_ok follows (Γ := G_feed_Canon) (fun f con h => by
    unfold G_feed_Canon at h
    split at h
    · rename_i e; subst e; cases h; exact S_feed_Write
    split at h
    · rename_i e; subst e; cases h; exact S_feed_Read
    split at h
    · rename_i e; subst e; cases h; exact S_bytes_Equal
    cases h) (by kernel_rfl) (by kernel_rfl) (by kernel_rfl) (by kernel_rfl)
/-- crossbarlaw20.awake -/
@[reducible] def in_crossbarlaw20_awake : List PK := []
@[reducible] def out_crossbarlaw20_awake : List OK := [.v (.bool)]
def an_crossbarlaw20_awake : Anns := ⟨fun r => none, fun t => none, fun i => []⟩
noncomputable def G_crossbarlaw20_awake : Ctx := fun n => if n = 8 then some ⟨in_feed_Code, out_feed_Code, F_feed_Code⟩ else if n = 10 then some ⟨in_feed_Kind, out_feed_Kind, F_feed_Kind⟩ else if n = 13 then some ⟨in_feed_Write, out_feed_Write, F_feed_Write⟩ else if n = 15 then some ⟨in_feed_Read, out_feed_Read, F_feed_Read⟩ else if n = 17 then some ⟨in_feed_Right, out_feed_Right, F_feed_Right⟩ else if n = 19 then some ⟨in_feed_Canon, out_feed_Canon, F_feed_Canon⟩ else none
noncomputable def F_crossbarlaw20_awake : Den (chain (in_crossbarlaw20_awake.map PK.ty)) → Option (Den (chain (out_crossbarlaw20_awake.map OK.ty ++ statesOf in_crossbarlaw20_awake))) := fnK tab G_crossbarlaw20_awake an_crossbarlaw20_awake 1000000 Go.Proofs.Tryd.f6 (bodyOf Go.Proofs.Tryd.f6) in_crossbarlaw20_awake out_crossbarlaw20_awake
theorem S_crossbarlaw20_awake : Sound Go.Proofs.Tryd.prog tab 6 ⟨in_crossbarlaw20_awake, out_crossbarlaw20_awake, F_crossbarlaw20_awake⟩ := sound_fn tab_ok follows (Γ := G_crossbarlaw20_awake) (fun f con h => by
    unfold G_crossbarlaw20_awake at h
    split at h
    · rename_i e; subst e; cases h; exact S_feed_Code
    split at h
    · rename_i e; subst e; cases h; exact S_feed_Kind
    split at h
    · rename_i e; subst e; cases h; exact S_feed_Write
    split at h
    · rename_i e; subst e; cases h; exact S_feed_Read
    split at h
    · rename_i e; subst e; cases h; exact S_feed_Right
    split at h
    · rename_i e; subst e; cases h; exact S_feed_Canon
    cases h) (by kernel_rfl) (by kernel_rfl) (by kernel_rfl) (by kernel_rfl)
/-- crossbarlaw20.FeedKinds -/
@[reducible] def in_crossbarlaw20_FeedKinds : List PK := [.v (.int .i64), .v (.int .i64)]
@[reducible] def out_crossbarlaw20_FeedKinds : List OK := [.v (.bool)]
def an_crossbarlaw20_FeedKinds : Anns := ⟨fun r => if r = 8 then some ⟨[.sv 0, .sv 1, .sv 9], (.cons (.int .i64) (.cons (.int .i64) (.cons (.int .i64) (.nil)))), []⟩ else none, fun t => none, fun i => []⟩
noncomputable def G_crossbarlaw20_FeedKinds : Ctx := fun n => if n = 6 then some ⟨in_crossbarlaw20_awake, out_crossbarlaw20_awake, F_crossbarlaw20_awake⟩ else if n = 8 then some ⟨in_feed_Code, out_feed_Code, F_feed_Code⟩ else if n = 10 then some ⟨in_feed_Kind, out_feed_Kind, F_feed_Kind⟩ else none
noncomputable def F_crossbarlaw20_FeedKinds : Den (chain (in_crossbarlaw20_FeedKinds.map PK.ty)) → Option (Den (chain (out_crossbarlaw20_FeedKinds.map OK.ty ++ statesOf in_crossbarlaw20_FeedKinds))) := fnK tab G_crossbarlaw20_FeedKinds an_crossbarlaw20_FeedKinds 1000000 Go.Proofs.Tryd.f5 (bodyOf Go.Proofs.Tryd.f5) in_crossbarlaw20_FeedKinds out_crossbarlaw20_FeedKinds
theorem S_crossbarlaw20_FeedKinds : Sound Go.Proofs.Tryd.prog tab 5 ⟨in_crossbarlaw20_FeedKinds, out_crossbarlaw20_FeedKinds, F_crossbarlaw20_FeedKinds⟩ := sound_fn tab_ok follows (Γ := G_crossbarlaw20_FeedKinds) (fun f con h => by
    unfold G_crossbarlaw20_FeedKinds at h
    split at h
    · rename_i e; subst e; cases h; exact S_crossbarlaw20_awake
    split at h
    · rename_i e; subst e; cases h; exact S_feed_Code
    split at h
    · rename_i e; subst e; cases h; exact S_feed_Kind
    cases h) (by kernel_rfl) (by kernel_rfl) (by kernel_rfl) (by kernel_rfl)
end Go.Proofs.Tryd.Eng
namespace Go.Proofs.Tryd.Eng
open Go Go.Eng
set_option maxRecDepth 100000 in
theorem awake_true : F_crossbarlaw20_awake () = some (true, ()) := by kernel_rfl
end Go.Proofs.Tryd.Eng


