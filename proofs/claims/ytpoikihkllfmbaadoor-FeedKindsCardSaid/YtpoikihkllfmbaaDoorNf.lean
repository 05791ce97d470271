/- What the contracts of three functions compute, by the kernel. -/
import Derived.Test.YtpoikihkllfmbaaDoorCtrB
set_option linter.unusedVariables false
namespace Go.Proofs.Tryd.Eng
open Go Go.Eng
abbrev T_runtime_boundsError : Type := Int × Int × Bool × Int × Unit
abbrev T_runtime_errorAddressString : Type := (List UInt8) × Int × Unit
abbrev T_api_Arrive : Type := Int × Int × Int × (List (Int × Int × Unit)) × Unit
abbrev T_api_Rate : Type := Int × Int × (List (Int)) × Unit
abbrev T_api_Feed : Type := Int × Int × Int × (List (Int × Int × Unit)) × T_api_Arrive × (List (Int × Int × Unit)) × T_api_Rate × Unit
abbrev T_api_Pair : Type := Int × Int × Unit
abbrev T_feed_code : Type := Int × Int × Int × Unit
abbrev T_api_Seen : Type := Int × Int × Unit
abbrev T_api_Entry : Type := Int × Int × Unit
noncomputable def P_nack_Read (d : (List (Int)) × Unit) : Option ((List (T_api_Pair)) × Int × Unit) := F_nack_Read d
noncomputable def P_arrive_Write (d : T_api_Arrive × Unit) : Option ((List (Int)) × Int × Unit) := F_arrive_Write d
noncomputable def P_remb_Write (d : T_api_Rate × Unit) : Option ((List (Int)) × Int × Unit) := F_remb_Write d
noncomputable def P_arrive_Read (d : (List (Int)) × Unit) : Option (T_api_Arrive × Int × Unit) := F_arrive_Read d
noncomputable def P_remb_Read (d : (List (Int)) × Unit) : Option (T_api_Rate × Int × Unit) := F_remb_Read d
noncomputable def P_feed_Code (d : Int × Unit) : Option (T_feed_code) := F_feed_Code d
noncomputable def P_feed_Kind (d : T_api_Seen) : Option (Int × Unit) := F_feed_Kind d
noncomputable def P_crossbarlaw20_awake (d : Unit) : Option (Bool × Unit) := F_crossbarlaw20_awake d
noncomputable def P_crossbarlaw20_FeedKinds (d : T_api_Seen) : Option (Bool × Unit) := F_crossbarlaw20_FeedKinds d
abbrev D_feed_Code_2 : Type := Int × Int × Int × Int × Int × Int × Int × Int × Int × Int × Int × Int × Int × Int × Int × Int × Int × Unit
noncomputable def L_feed_Code_2 (n : Nat) (J0 : D_feed_Code_2 → Option (T_feed_code)) (d : D_feed_Code_2) : Option (T_feed_code) :=
  if (decide (d.2.2.2.2.2.2.2.2.2.2.2.2.2.2.2.2.1 < (5 : Int))) then
  if decide (0 ≤ d.2.2.2.2.2.2.2.2.2.2.2.2.2.2.2.2.1 ∧ d.2.2.2.2.2.2.2.2.2.2.2.2.2.2.2.2.1 < ((5 : Nat) : Int)) then
  if ((if decide (d.2.2.2.2.2.2.2.2.2.2.2.2.2.2.2.2.1 = ((0 : Nat) : Int)) then d.2.1 else (if decide (d.2.2.2.2.2.2.2.2.2.2.2.2.2.2.2.2.1 = ((1 : Nat) : Int)) then d.2.2.2.2.1 else (if decide (d.2.2.2.2.2.2.2.2.2.2.2.2.2.2.2.2.1 = ((2 : Nat) : Int)) then d.2.2.2.2.2.2.2.1 else (if decide (d.2.2.2.2.2.2.2.2.2.2.2.2.2.2.2.2.1 = ((3 : Nat) : Int)) then d.2.2.2.2.2.2.2.2.2.2.1 else d.2.2.2.2.2.2.2.2.2.2.2.2.2.1)))) == d.1) then
  some ((if decide (d.2.2.2.2.2.2.2.2.2.2.2.2.2.2.2.2.1 = ((0 : Nat) : Int)) then d.2.2.1 else (if decide (d.2.2.2.2.2.2.2.2.2.2.2.2.2.2.2.2.1 = ((1 : Nat) : Int)) then d.2.2.2.2.2.1 else (if decide (d.2.2.2.2.2.2.2.2.2.2.2.2.2.2.2.2.1 = ((2 : Nat) : Int)) then d.2.2.2.2.2.2.2.2.1 else (if decide (d.2.2.2.2.2.2.2.2.2.2.2.2.2.2.2.2.1 = ((3 : Nat) : Int)) then d.2.2.2.2.2.2.2.2.2.2.2.1 else d.2.2.2.2.2.2.2.2.2.2.2.2.2.2.1)))), (if decide (d.2.2.2.2.2.2.2.2.2.2.2.2.2.2.2.2.1 = ((0 : Nat) : Int)) then d.2.2.2.1 else (if decide (d.2.2.2.2.2.2.2.2.2.2.2.2.2.2.2.2.1 = ((1 : Nat) : Int)) then d.2.2.2.2.2.2.1 else (if decide (d.2.2.2.2.2.2.2.2.2.2.2.2.2.2.2.2.1 = ((2 : Nat) : Int)) then d.2.2.2.2.2.2.2.2.2.1 else (if decide (d.2.2.2.2.2.2.2.2.2.2.2.2.2.2.2.2.1 = ((3 : Nat) : Int)) then d.2.2.2.2.2.2.2.2.2.2.2.2.1 else d.2.2.2.2.2.2.2.2.2.2.2.2.2.2.2.1)))), (0 : Int), ())
  else
  J0 (d.1, d.2.1, d.2.2.1, d.2.2.2.1, d.2.2.2.2.1, d.2.2.2.2.2.1, d.2.2.2.2.2.2.1, d.2.2.2.2.2.2.2.1, d.2.2.2.2.2.2.2.2.1, d.2.2.2.2.2.2.2.2.2.1, d.2.2.2.2.2.2.2.2.2.2.1, d.2.2.2.2.2.2.2.2.2.2.2.1, d.2.2.2.2.2.2.2.2.2.2.2.2.1, d.2.2.2.2.2.2.2.2.2.2.2.2.2.1, d.2.2.2.2.2.2.2.2.2.2.2.2.2.2.1, d.2.2.2.2.2.2.2.2.2.2.2.2.2.2.2.1, (IntKind.i64.wrap (d.2.2.2.2.2.2.2.2.2.2.2.2.2.2.2.2.1 + (1 : Int))), ()) else none
  else
  some ((0 : Int), (0 : Int), (1 : Int), ())
/-- feed.Code -/
noncomputable def N_feed_Code (n : Nat) (d : Int × Unit) : Option (T_feed_code) :=
  iter (L_feed_Code_2 n) n (d.1, (1 : Int), (205 : Int), (1 : Int), (2 : Int), (205 : Int), (15 : Int), (3 : Int), (206 : Int), (1 : Int), (4 : Int), (206 : Int), (4 : Int), (5 : Int), (206 : Int), (15 : Int), (0 : Int), ())
theorem e_feed_Code (n d) : fnK tab G_feed_Code an_feed_Code n Tryd.f8 (bodyOf Tryd.f8) in_feed_Code out_feed_Code d = N_feed_Code n d := by kernel_rfl
theorem E_feed_Code (d) : P_feed_Code d = N_feed_Code 1000000 d := e_feed_Code _ d
abbrev D_feed_Kind_2 : Type := Int × Int × Int × Int × Int × Int × Int × Int × Int × Int × Int × Int × Int × Int × Int × Int × Int × Int × Unit
noncomputable def L_feed_Kind_2 (n : Nat) (J0 : D_feed_Kind_2 → Option (Int × Unit)) (d : D_feed_Kind_2) : Option (Int × Unit) :=
  if (decide (d.2.2.2.2.2.2.2.2.2.2.2.2.2.2.2.2.2.1 < (5 : Int))) then
  if decide (0 ≤ d.2.2.2.2.2.2.2.2.2.2.2.2.2.2.2.2.2.1 ∧ d.2.2.2.2.2.2.2.2.2.2.2.2.2.2.2.2.2.1 < ((5 : Nat) : Int)) then
  if (if ((if decide (d.2.2.2.2.2.2.2.2.2.2.2.2.2.2.2.2.2.1 = ((0 : Nat) : Int)) then d.2.2.2.1 else (if decide (d.2.2.2.2.2.2.2.2.2.2.2.2.2.2.2.2.2.1 = ((1 : Nat) : Int)) then d.2.2.2.2.2.2.1 else (if decide (d.2.2.2.2.2.2.2.2.2.2.2.2.2.2.2.2.2.1 = ((2 : Nat) : Int)) then d.2.2.2.2.2.2.2.2.2.1 else (if decide (d.2.2.2.2.2.2.2.2.2.2.2.2.2.2.2.2.2.1 = ((3 : Nat) : Int)) then d.2.2.2.2.2.2.2.2.2.2.2.2.1 else d.2.2.2.2.2.2.2.2.2.2.2.2.2.2.2.1)))) == d.1) then ((if decide (d.2.2.2.2.2.2.2.2.2.2.2.2.2.2.2.2.2.1 = ((0 : Nat) : Int)) then d.2.2.2.2.1 else (if decide (d.2.2.2.2.2.2.2.2.2.2.2.2.2.2.2.2.2.1 = ((1 : Nat) : Int)) then d.2.2.2.2.2.2.2.1 else (if decide (d.2.2.2.2.2.2.2.2.2.2.2.2.2.2.2.2.2.1 = ((2 : Nat) : Int)) then d.2.2.2.2.2.2.2.2.2.2.1 else (if decide (d.2.2.2.2.2.2.2.2.2.2.2.2.2.2.2.2.2.1 = ((3 : Nat) : Int)) then d.2.2.2.2.2.2.2.2.2.2.2.2.2.1 else d.2.2.2.2.2.2.2.2.2.2.2.2.2.2.2.2.1)))) == d.2.1) else false) then
  some ((if decide (d.2.2.2.2.2.2.2.2.2.2.2.2.2.2.2.2.2.1 = ((0 : Nat) : Int)) then d.2.2.1 else (if decide (d.2.2.2.2.2.2.2.2.2.2.2.2.2.2.2.2.2.1 = ((1 : Nat) : Int)) then d.2.2.2.2.2.1 else (if decide (d.2.2.2.2.2.2.2.2.2.2.2.2.2.2.2.2.2.1 = ((2 : Nat) : Int)) then d.2.2.2.2.2.2.2.2.1 else (if decide (d.2.2.2.2.2.2.2.2.2.2.2.2.2.2.2.2.2.1 = ((3 : Nat) : Int)) then d.2.2.2.2.2.2.2.2.2.2.2.1 else d.2.2.2.2.2.2.2.2.2.2.2.2.2.2.1)))), ())
  else
  J0 (d.1, d.2.1, d.2.2.1, d.2.2.2.1, d.2.2.2.2.1, d.2.2.2.2.2.1, d.2.2.2.2.2.2.1, d.2.2.2.2.2.2.2.1, d.2.2.2.2.2.2.2.2.1, d.2.2.2.2.2.2.2.2.2.1, d.2.2.2.2.2.2.2.2.2.2.1, d.2.2.2.2.2.2.2.2.2.2.2.1, d.2.2.2.2.2.2.2.2.2.2.2.2.1, d.2.2.2.2.2.2.2.2.2.2.2.2.2.1, d.2.2.2.2.2.2.2.2.2.2.2.2.2.2.1, d.2.2.2.2.2.2.2.2.2.2.2.2.2.2.2.1, d.2.2.2.2.2.2.2.2.2.2.2.2.2.2.2.2.1, (IntKind.i64.wrap (d.2.2.2.2.2.2.2.2.2.2.2.2.2.2.2.2.2.1 + (1 : Int))), ()) else none
  else
  some ((0 : Int), ())
/-- feed.Kind -/
noncomputable def N_feed_Kind (n : Nat) (d : T_api_Seen) : Option (Int × Unit) :=
  iter (L_feed_Kind_2 n) n (d.1, d.2.1, (1 : Int), (205 : Int), (1 : Int), (2 : Int), (205 : Int), (15 : Int), (3 : Int), (206 : Int), (1 : Int), (4 : Int), (206 : Int), (4 : Int), (5 : Int), (206 : Int), (15 : Int), (0 : Int), ())
theorem e_feed_Kind (n d) : fnK tab G_feed_Kind an_feed_Kind n Tryd.f10 (bodyOf Tryd.f10) in_feed_Kind out_feed_Kind d = N_feed_Kind n d := by kernel_rfl
theorem E_feed_Kind (d) : P_feed_Kind d = N_feed_Kind 1000000 d := e_feed_Kind _ d
abbrev D_crossbarlaw20_FeedKinds_8 : Type := T_feed_code
noncomputable def L_crossbarlaw20_FeedKinds_8 (n : Nat) (J0 : D_crossbarlaw20_FeedKinds_8 → Option (Bool × Unit)) (d : D_crossbarlaw20_FeedKinds_8) : Option (Bool × Unit) :=
  if (decide (d.2.2.1 ≤ (5 : Int))) then
  (P_feed_Code (d.2.2.1, ())).bind fun (r4 : T_feed_code) =>
  (if (!(if (r4.2.2.1 != (0 : Int)) then true else (if (r4.1 == d.1) then (r4.2.1 == d.2.1) else false))) then (P_feed_Kind (r4.1, r4.2.1, ())) else some ((0 : Int), ()) : Option (Int × Unit)).bind fun (r5 : Int × Unit) =>
  if (if (if (r4.2.2.1 != (0 : Int)) then true else (if (r4.1 == d.1) then (r4.2.1 == d.2.1) else false)) then true else (r5.1 != d.2.2.1)) then
  some (false, ())
  else
  J0 (d.1, d.2.1, (IntKind.i64.wrap (d.2.2.1 + (1 : Int))), ())
  else
  some (true, ())
/-- crossbarlaw20.FeedKinds -/
noncomputable def N_crossbarlaw20_FeedKinds (n : Nat) (d : T_api_Seen) : Option (Bool × Unit) :=
  (P_crossbarlaw20_awake (())).bind fun (r1 : Bool × Unit) =>
  if (!r1.1) then
  some (false, ())
  else
  (P_feed_Kind d).bind fun (r2 : Int × Unit) =>
  if (r2.1 != (0 : Int)) then
  (P_feed_Code (r2.1, ())).bind fun (r3 : T_feed_code) =>
  some ((if (if (if (if (r3.2.2.1 == (0 : Int)) then (r3.1 == d.1) else false) then (r3.2.1 == d.2.1) else false) then (decide (r2.1 ≥ (1 : Int))) else false) then (decide (r2.1 ≤ (5 : Int))) else false), ())
  else
  iter (L_crossbarlaw20_FeedKinds_8 n) n (d.1, d.2.1, (1 : Int), ())
theorem e_crossbarlaw20_FeedKinds (n d) : fnK tab G_crossbarlaw20_FeedKinds an_crossbarlaw20_FeedKinds n Tryd.f5 (bodyOf Tryd.f5) in_crossbarlaw20_FeedKinds out_crossbarlaw20_FeedKinds d = N_crossbarlaw20_FeedKinds n d := by kernel_rfl
theorem E_crossbarlaw20_FeedKinds (d) : P_crossbarlaw20_FeedKinds d = N_crossbarlaw20_FeedKinds 1000000 d := e_crossbarlaw20_FeedKinds _ d
end Go.Proofs.Tryd.Eng


