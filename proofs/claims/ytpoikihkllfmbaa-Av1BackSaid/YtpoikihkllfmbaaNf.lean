/- What each contract computes, by the kernel. -/
import Derived.Test.YtpoikihkllfmbaaCtr
set_option linter.unusedVariables false
namespace Go.Proofs.Try.Eng
open Go Go.Eng
abbrev T_runtime_boundsError : Type := Int × Int × Bool × Int × Unit
abbrev T_runtime_errorAddressString : Type := (List UInt8) × Int × Unit
abbrev T_api_Structure : Type := Int × Int × Int × (List (Int)) × (List (Int × Int × (List (Int)) × (List (Int)) × (List (Int)) × Unit)) × (List (Int × Int × Unit)) × Unit
abbrev T_api_Frame : Type := Bool × Bool × Int × Int × Bool × T_api_Structure × Bool × Int × Bool × (List (Int)) × Bool × (List (Int)) × Bool × (List (Int)) × Unit
abbrev T_api_Template : Type := Int × Int × (List (Int)) × (List (Int)) × (List (Int)) × Unit
abbrev T_api_Ink : Type := (List (Int)) × Int × Unit
abbrev T_api_Bits : Type := (List (Int)) × Int × Int × Unit
abbrev T_api_Size : Type := Int × Int × Unit
noncomputable def P_templ_within (d : Int × Int × Int × Unit) : Option (Bool × Unit) := F_templ_within d
noncomputable def P_templ_all (d : (List (Int)) × Int × Int × Int × Unit) : Option (Bool × Unit) := F_templ_all d
noncomputable def P_templ_follow (d : T_api_Template × T_api_Template × Unit) : Option (Int × Unit) := F_templ_follow d
noncomputable def P_templ_sizes (d : T_api_Structure × Unit) : Option (Int × Unit) := F_templ_sizes d
noncomputable def P_templ_Right (d : T_api_Structure × Unit) : Option (Bool × Unit) := F_templ_Right d
noncomputable def P_av1_structure (d : T_api_Frame × T_api_Structure × Unit) : Option (T_api_Structure × Unit) := F_av1_structure d
noncomputable def P_av1_within (d : Int × Int × Int × Unit) : Option (Bool × Unit) := F_av1_within d
noncomputable def P_av1_place (d : Int × T_api_Structure × Unit) : Option (Int × Bool × Unit) := F_av1_place d
noncomputable def P_slices_Equal_int_int (d : (List (Int)) × (List (Int)) × Unit) : Option (Bool × Unit) := F_slices_Equal_int_int d
noncomputable def P_slices_Equal_api_Size_api_Size (d : (List (T_api_Size)) × (List (T_api_Size)) × Unit) : Option (Bool × Unit) := F_slices_Equal_api_Size_api_Size d
noncomputable def P_templ_Same_1 (d : T_api_Template × T_api_Template × Unit) : Option (Bool × Unit) := F_templ_Same_1 d
noncomputable def P_slices_EqualFunc_api_Template_api_Template_api_Template_api_Template (d : (List (T_api_Template)) × (List (T_api_Template)) × Unit × Unit) : Option (Bool × Unit) := F_slices_EqualFunc_api_Template_api_Template_api_Template_api_Template d
noncomputable def P_templ_Same (d : T_api_Structure × T_api_Structure × Unit) : Option (Bool × Unit) := F_templ_Same d
noncomputable def P_av1_nothing (d : T_api_Structure × Unit) : Option (Bool × Unit) := F_av1_nothing d
noncomputable def P_av1_all (d : (List (Int)) × Int × Int × Unit) : Option (Bool × Unit) := F_av1_all d
noncomputable def P_av1_own (d : Bool × (List (Int)) × Int × Int × Int × Unit) : Option (Bool × Unit) := F_av1_own d
noncomputable def P_av1_Right (d : T_api_Frame × T_api_Structure × Unit) : Option (Bool × Unit) := F_av1_Right d
noncomputable def P_bits_Right (d : T_api_Ink × Unit) : Option (Bool × Unit) := F_bits_Right d
noncomputable def P_bits_draw (d : T_api_Ink × Int × Int × Unit) : Option (T_api_Ink × Unit) := F_bits_draw d
noncomputable def P_bits_Add (d : T_api_Ink × Int × Int × Unit) : Option (T_api_Ink × Int × Unit) := F_bits_Add d
noncomputable def P_av1_writer_number (d : (T_api_Ink × Unit) × Int × Int × Unit) : Option ((T_api_Ink × Unit) × Unit) := F_av1_writer_number d
noncomputable def P_av1_writer_truth (d : (T_api_Ink × Unit) × Bool × Unit) : Option ((T_api_Ink × Unit) × Unit) := F_av1_writer_truth d
noncomputable def P_templ_writer_number (d : (T_api_Ink × Unit) × Int × Int × Unit) : Option ((T_api_Ink × Unit) × Unit) := F_templ_writer_number d
noncomputable def P_math_bits_Len64 (d : Int × Unit) : Option (Int × Unit) := F_math_bits_Len64 d
noncomputable def P_bits_shape (d : Int × Unit) : Option (Int × Int × Unit) := F_bits_shape d
noncomputable def P_bits_AddRange (d : T_api_Ink × Int × Int × Unit) : Option (T_api_Ink × Int × Unit) := F_bits_AddRange d
noncomputable def P_templ_writer_ranged (d : (T_api_Ink × Unit) × Int × Int × Unit) : Option ((T_api_Ink × Unit) × Unit) := F_templ_writer_ranged d
noncomputable def P_templ_writer_write (d : (T_api_Ink × Unit) × T_api_Structure × Unit) : Option ((T_api_Ink × Unit) × Unit) := F_templ_writer_write d
noncomputable def P_templ_join (d : T_api_Ink × T_api_Ink × Unit) : Option (T_api_Ink × Unit) := F_templ_join d
noncomputable def P_templ_Put (d : T_api_Ink × T_api_Structure × Unit) : Option (T_api_Ink × Int × Unit) := F_templ_Put d
noncomputable def P_av1_writer_diff (d : (T_api_Ink × Unit) × Int × Unit) : Option ((T_api_Ink × Unit) × Unit) := F_av1_writer_diff d
noncomputable def P_av1_Write (d : T_api_Frame × T_api_Structure × Unit) : Option (T_api_Ink) := F_av1_Write d
noncomputable def P_slices_Clone_int_int (d : (List (Int)) × Unit) : Option ((List (Int)) × Unit) := F_slices_Clone_int_int d
noncomputable def P_av1_copyOf (d : T_api_Template × Unit) : Option (T_api_Template × Unit) := F_av1_copyOf d
noncomputable def P_av1_Whole (d : T_api_Frame × T_api_Structure × Unit) : Option (T_api_Template × Int × Unit) := F_av1_Whole d
noncomputable def P_bits_Start (d : (List (Int)) × Unit) : Option (T_api_Bits × Unit) := F_bits_Start d
noncomputable def P_bits_right (d : T_api_Bits × Unit) : Option (Bool × Unit) := F_bits_right d
noncomputable def P_bits_Left (d : T_api_Bits × Unit) : Option (Int × Unit) := F_bits_Left d
noncomputable def P_bits_fail (d : T_api_Bits × Int × Unit) : Option (T_api_Bits × Unit) := F_bits_fail d
noncomputable def P_bits_look (d : T_api_Bits) : Option (Int × Unit) := F_bits_look d
noncomputable def P_bits_Get (d : T_api_Bits × Int × Unit) : Option (T_api_Bits × Int × Unit) := F_bits_Get d
noncomputable def P_av1_reader_number (d : (T_api_Bits × Unit) × Int × Unit) : Option (Int × (T_api_Bits × Unit) × Unit) := F_av1_reader_number d
noncomputable def P_av1_reader_truth (d : (T_api_Bits × Unit) × Unit) : Option (Bool × (T_api_Bits × Unit) × Unit) := F_av1_reader_truth d
noncomputable def P_templ_reader_number (d : (T_api_Bits × Unit) × Int × Unit) : Option (Int × (T_api_Bits × Unit) × Unit) := F_templ_reader_number d
noncomputable def P_templ_reader_ok (d : (T_api_Bits × Unit) × Unit) : Option (Bool × Unit) := F_templ_reader_ok d
noncomputable def P_templ_reader_wrong (d : (T_api_Bits × Unit) × Unit) : Option ((T_api_Bits × Unit) × Unit) := F_templ_reader_wrong d
noncomputable def P_templ_reader_layers (d : (T_api_Bits × Unit) × Unit) : Option ((List (T_api_Template)) × (T_api_Bits × Unit) × Unit) := F_templ_reader_layers d
noncomputable def P_templ_reader_diffs (d : (T_api_Bits × Unit) × Unit) : Option ((List (Int)) × (T_api_Bits × Unit) × Unit) := F_templ_reader_diffs d
noncomputable def P_bits_Range (d : T_api_Bits × Int × Unit) : Option (T_api_Bits × Int × Unit) := F_bits_Range d
noncomputable def P_templ_reader_ranged (d : (T_api_Bits × Unit) × Int × Unit) : Option (Int × (T_api_Bits × Unit) × Unit) := F_templ_reader_ranged d
noncomputable def P_templ_reader_read_1 (d : (T_api_Bits × Unit) × Unit × Unit) : Option (Int × (T_api_Bits × Unit) × Unit) := F_templ_reader_read_1 d
noncomputable def P_templ_reader_list__templ_reader_read_1 (d : (T_api_Bits × Unit) × Int × Unit × Unit) : Option ((List (Int)) × (T_api_Bits × Unit) × Unit) := F_templ_reader_list__templ_reader_read_1 d
noncomputable def P_templ_reader_read_2 (d : (T_api_Bits × Unit) × Unit × ((Int × Unit) × Unit) × Unit) : Option (Int × (T_api_Bits × Unit) × Unit) := F_templ_reader_read_2 d
noncomputable def P_templ_reader_list__templ_reader_read_2 (d : (T_api_Bits × Unit) × Int × ((Int × Unit) × Unit) × Unit) : Option ((List (Int)) × (T_api_Bits × Unit) × Unit) := F_templ_reader_list__templ_reader_read_2 d
noncomputable def P_templ_reader_read_3 (d : (T_api_Bits × Unit) × Unit × Unit) : Option (Int × (T_api_Bits × Unit) × Unit) := F_templ_reader_read_3 d
noncomputable def P_templ_reader_list__templ_reader_read_3 (d : (T_api_Bits × Unit) × Int × Unit × Unit) : Option ((List (Int)) × (T_api_Bits × Unit) × Unit) := F_templ_reader_list__templ_reader_read_3 d
noncomputable def P_templ_reader_read (d : (T_api_Bits × Unit) × Unit) : Option (T_api_Structure × (T_api_Bits × Unit) × Unit) := F_templ_reader_read d
noncomputable def P_templ_Get (d : T_api_Bits × Unit) : Option (T_api_Bits × T_api_Structure × Unit) := F_templ_Get d
noncomputable def P_av1_reader_list (d : (T_api_Bits × Unit) × Bool × Int × Int × Unit) : Option ((List (Int)) × (T_api_Bits × Unit) × Unit) := F_av1_reader_list d
noncomputable def P_av1_reader_diffs (d : (T_api_Bits × Unit) × Bool × Unit) : Option ((List (Int)) × (T_api_Bits × Unit) × Unit) := F_av1_reader_diffs d
noncomputable def P_av1_Read (d : (List (Int)) × T_api_Structure × Unit) : Option (T_api_Frame × Int × Unit) := F_av1_Read d
noncomputable def P_slices_Clone_api_Size_api_Size (d : (List (T_api_Size)) × Unit) : Option ((List (T_api_Size)) × Unit) := F_slices_Clone_api_Size_api_Size d
noncomputable def P_slices_Clone_api_Template_api_Template (d : (List (T_api_Template)) × Unit) : Option ((List (T_api_Template)) × Unit) := F_slices_Clone_api_Template_api_Template d
noncomputable def P_av1_Known (d : T_api_Frame × T_api_Structure × Unit) : Option (T_api_Structure × Unit) := F_av1_Known d
noncomputable def P_crossbarref24_Ints (d : (List (Int)) × (List (Int)) × Unit) : Option (Bool × Unit) := F_crossbarref24_Ints d
noncomputable def P_crossbarref26_Same (d : T_api_Structure × T_api_Structure × Unit) : Option (Bool × Unit) := F_crossbarref26_Same d
noncomputable def P_crossbarref27_Same (d : T_api_Frame × T_api_Frame × Unit) : Option (Bool × Unit) := F_crossbarref27_Same d
noncomputable def P_bytes_Equal (d : (List (Int)) × (List (Int)) × Unit) : Option (Bool × Unit) := F_bytes_Equal d
noncomputable def P_av1_Canon (d : (List (Int)) × T_api_Structure × Unit) : Option (Bool × Unit) := F_av1_Canon d
noncomputable def P_crossbarlaw27_awake (d : Unit) : Option (Bool × Unit) := F_crossbarlaw27_awake d
noncomputable def P_crossbarref26_Short (d : T_api_Structure × Unit) : Option (Bool × Unit) := F_crossbarref26_Short d
noncomputable def P_crossbarref27_Short (d : T_api_Frame × Unit) : Option (Bool × Unit) := F_crossbarref27_Short d
noncomputable def P_crossbarlaw27_Av1Known (d : T_api_Frame × T_api_Structure × Unit) : Option (Bool × Unit) := F_crossbarlaw27_Av1Known d
noncomputable def P_crossbarref27_Of (d : T_api_Frame × T_api_Structure × Unit) : Option (T_api_Structure × Unit) := F_crossbarref27_Of d
noncomputable def P_crossbarref26_all (d : (List (Int)) × Int × Int × Unit) : Option (Bool × Unit) := F_crossbarref26_all d
noncomputable def P_crossbarref26_Right (d : T_api_Structure × Unit) : Option (Bool × Unit) := F_crossbarref26_Right d
noncomputable def P_crossbarref27_May (d : T_api_Structure × Unit) : Option (Bool × Unit) := F_crossbarref27_May d
noncomputable def P_crossbarref27_Place (d : Int × T_api_Structure × Unit) : Option (Int × Unit) := F_crossbarref27_Place d
noncomputable def P_crossbarref27_all (d : (List (Int)) × Int × Int × Unit) : Option (Bool × Unit) := F_crossbarref27_all d
noncomputable def P_crossbarref27_Right (d : T_api_Frame × T_api_Structure × Unit) : Option (Bool × Unit) := F_crossbarref27_Right d
noncomputable def P_crossbarref02_bit (d : T_api_Ink) : Option (Int × Unit) := F_crossbarref02_bit d
noncomputable def P_crossbarref02_Ink (d : T_api_Ink × Unit) : Option (Bool × Unit) := F_crossbarref02_Ink d
noncomputable def P_crossbarref02_Add (d : T_api_Ink × Int × Int × Unit) : Option (T_api_Ink × Int × Unit) := F_crossbarref02_Add d
noncomputable def P_crossbarref27_add (d : T_api_Ink × Int × Int × Unit) : Option (T_api_Ink × Unit) := F_crossbarref27_add d
noncomputable def P_crossbarref27_one (d : Bool × Unit) : Option (Int × Unit) := F_crossbarref27_one d
noncomputable def P_crossbarref26_add (d : T_api_Ink × Int × Int × Unit) : Option (T_api_Ink × Unit) := F_crossbarref26_add d
noncomputable def P_crossbarref02_Spread (d : Int × Unit) : Option (Int × Int × Unit) := F_crossbarref02_Spread d
noncomputable def P_crossbarref02_AddRange (d : T_api_Ink × Int × Int × Unit) : Option (T_api_Ink × Int × Unit) := F_crossbarref02_AddRange d
noncomputable def P_crossbarref26_Put (d : T_api_Ink × T_api_Structure × Unit) : Option (T_api_Ink × Unit) := F_crossbarref26_Put d
noncomputable def P_crossbarref27_Write (d : T_api_Frame × T_api_Structure × Unit) : Option ((List (Int)) × Unit) := F_crossbarref27_Write d
noncomputable def P_crossbarref27_Template (d : T_api_Template × T_api_Template × Unit) : Option (Bool × Unit) := F_crossbarref27_Template d
noncomputable def P_crossbarref27_Whole (d : T_api_Frame × T_api_Structure × Unit) : Option (T_api_Template × Unit) := F_crossbarref27_Whole d
noncomputable def P_crossbarref02_Right (d : T_api_Bits × Unit) : Option (Bool × Unit) := F_crossbarref02_Right d
noncomputable def P_crossbarref02_stays (d : T_api_Bits × Int × Unit) : Option (T_api_Bits × Int × Unit) := F_crossbarref02_stays d
noncomputable def P_crossbarref02_Get (d : T_api_Bits × Int × Unit) : Option (T_api_Bits × Int × Unit) := F_crossbarref02_Get d
noncomputable def P_crossbarref02_Range (d : T_api_Bits × Int × Unit) : Option (T_api_Bits × Int × Unit) := F_crossbarref02_Range d
noncomputable def P_crossbarlaw27_Av1Back (d : T_api_Frame × T_api_Frame × T_api_Structure × (List (Int)) × Int × Unit) : Option (Bool × Unit) := F_crossbarlaw27_Av1Back d
/-- templ.within -/
noncomputable def N_templ_within (n : Nat) (d : Int × Int × Int × Unit) : Option (Bool × Unit) :=
  some ((if (decide (d.1 ≥ d.2.1)) then (decide (d.1 ≤ d.2.2.1)) else false), ())
theorem e_templ_within (n d) : fnK tab G_templ_within an_templ_within n Try.f58 (bodyOf Try.f58) in_templ_within out_templ_within d = N_templ_within n d := by kernel_rfl
theorem E_templ_within (d) : P_templ_within d = N_templ_within 1000000 d := e_templ_within _ d
abbrev D_templ_all_4 : Type := Int × Int × (List (Int)) × Int × Int × Unit
noncomputable def L_templ_all_4 (n : Nat) (J0 : D_templ_all_4 → Option (Bool × Unit)) (d : D_templ_all_4) : Option (Bool × Unit) :=
  if (decide (d.2.2.2.2.1 < d.2.2.2.1)) then
  if decide (0 ≤ d.2.2.2.2.1 ∧ d.2.2.2.2.1 < (d.2.2.1.length : Int)) then
  (P_templ_within ((d.2.2.1.getD d.2.2.2.2.1.toNat (0 : Int)), d.1, d.2.1, ())).bind fun (r1 : Bool × Unit) =>
  if (!r1.1) then
  some (false, ())
  else
  J0 (d.1, d.2.1, d.2.2.1, d.2.2.2.1, (IntKind.i64.wrap (d.2.2.2.2.1 + (1 : Int))), ()) else none
  else
  some (true, ())
/-- templ.all -/
noncomputable def N_templ_all (n : Nat) (d : (List (Int)) × Int × Int × Int × Unit) : Option (Bool × Unit) :=
  if ((d.1.length : Int) != d.2.1) then
  some (false, ())
  else
  iter (L_templ_all_4 n) n (d.2.2.1, d.2.2.2.1, d.1, (d.1.length : Int), (0 : Int), ())
theorem e_templ_all (n d) : fnK tab G_templ_all an_templ_all n Try.f59 (bodyOf Try.f59) in_templ_all out_templ_all d = N_templ_all n d := by kernel_rfl
theorem E_templ_all (d) : P_templ_all d = N_templ_all 1000000 d := e_templ_all _ d
/-- templ.follow -/
noncomputable def N_templ_follow (n : Nat) (d : T_api_Template × T_api_Template × Unit) : Option (Int × Unit) :=
  if (if (d.2.1.1 == d.1.1) then (d.2.1.2.1 == d.1.2.1) else false) then
  some ((0 : Int), ())
  else
  if (if (d.2.1.1 == d.1.1) then (d.2.1.2.1 == (IntKind.i64.wrap (d.1.2.1 + (1 : Int)))) else false) then
  some ((1 : Int), ())
  else
  if (if (d.2.1.1 == (IntKind.i64.wrap (d.1.1 + (1 : Int)))) then (d.2.1.2.1 == (0 : Int)) else false) then
  some ((2 : Int), ())
  else
  some ((3 : Int), ())
theorem e_templ_follow (n d) : fnK tab G_templ_follow an_templ_follow n Try.f60 (bodyOf Try.f60) in_templ_follow out_templ_follow d = N_templ_follow n d := by kernel_rfl
theorem E_templ_follow (d) : P_templ_follow d = N_templ_follow 1000000 d := e_templ_follow _ d
/-- templ.sizes -/
noncomputable def N_templ_sizes (n : Nat) (d : T_api_Structure × Unit) : Option (Int × Unit) :=
  if decide (0 ≤ (IntKind.i64.wrap ((d.1.2.2.2.2.1.length : Int) - (1 : Int))) ∧ (IntKind.i64.wrap ((d.1.2.2.2.2.1.length : Int) - (1 : Int))) < (d.1.2.2.2.2.1.length : Int)) then
  some ((IntKind.i64.wrap ((d.1.2.2.2.2.1.getD (IntKind.i64.wrap ((d.1.2.2.2.2.1.length : Int) - (1 : Int))).toNat ((0 : Int), (0 : Int), [], [], [], ())).1 + (1 : Int))), ()) else none
theorem e_templ_sizes (n d) : fnK tab G_templ_sizes an_templ_sizes n Try.f61 (bodyOf Try.f61) in_templ_sizes out_templ_sizes d = N_templ_sizes n d := by kernel_rfl
theorem E_templ_sizes (d) : P_templ_sizes d = N_templ_sizes 1000000 d := e_templ_sizes _ d
abbrev D_templ_Right_21 : Type := (List (T_api_Size)) × Int × Int × Unit
noncomputable def L_templ_Right_21 (n : Nat) (J0 : D_templ_Right_21 → Option (Bool × Unit)) (d : D_templ_Right_21) : Option (Bool × Unit) :=
  if (decide (d.2.2.1 < d.2.1)) then
  if decide (0 ≤ d.2.2.1 ∧ d.2.2.1 < (d.1.length : Int)) then
  (P_templ_within ((d.1.getD d.2.2.1.toNat ((0 : Int), (0 : Int), ())).1, (1 : Int), (65536 : Int), ())).bind fun (r12 : Bool × Unit) =>
  (if (!(!r12.1)) then (P_templ_within ((d.1.getD d.2.2.1.toNat ((0 : Int), (0 : Int), ())).2.1, (1 : Int), (65536 : Int), ())) else some (false, ()) : Option (Bool × Unit)).bind fun (r13 : Bool × Unit) =>
  if (if (!r12.1) then true else (!r13.1)) then
  some (false, ())
  else
  J0 (d.1, d.2.1, (IntKind.i64.wrap (d.2.2.1 + (1 : Int))), ()) else none
  else
  some (true, ())
abbrev D_templ_Right_9 : Type := Int × Int × Int × (List (Int)) × (List (T_api_Template)) × (List (T_api_Size)) × (List (T_api_Template)) × Int × Int × Unit
noncomputable def L_templ_Right_9 (n : Nat) (J0 : D_templ_Right_9 → Option (Bool × Unit)) (d : D_templ_Right_9) : Option (Bool × Unit) :=
  if (decide (d.2.2.2.2.2.2.2.2.1 < d.2.2.2.2.2.2.2.1)) then
  if decide (0 ≤ d.2.2.2.2.2.2.2.2.1 ∧ d.2.2.2.2.2.2.2.2.1 < (d.2.2.2.2.2.2.1.length : Int)) then
  if (!((!(if (d.2.2.2.2.2.2.2.2.1 == (0 : Int)) then (if ((d.2.2.2.2.2.2.1.getD d.2.2.2.2.2.2.2.2.1.toNat ((0 : Int), (0 : Int), [], [], [], ())).1 != (0 : Int)) then true else ((d.2.2.2.2.2.2.1.getD d.2.2.2.2.2.2.2.2.1.toNat ((0 : Int), (0 : Int), [], [], [], ())).2.1 != (0 : Int))) else false)) && (decide (d.2.2.2.2.2.2.2.2.1 > (0 : Int)))) || decide (0 ≤ (IntKind.i64.wrap (d.2.2.2.2.2.2.2.2.1 - (1 : Int))) ∧ (IntKind.i64.wrap (d.2.2.2.2.2.2.2.2.1 - (1 : Int))) < (d.2.2.2.2.1.length : Int))) then
  (if ((!(if (d.2.2.2.2.2.2.2.2.1 == (0 : Int)) then (if ((d.2.2.2.2.2.2.1.getD d.2.2.2.2.2.2.2.2.1.toNat ((0 : Int), (0 : Int), [], [], [], ())).1 != (0 : Int)) then true else ((d.2.2.2.2.2.2.1.getD d.2.2.2.2.2.2.2.2.1.toNat ((0 : Int), (0 : Int), [], [], [], ())).2.1 != (0 : Int))) else false)) && (decide (d.2.2.2.2.2.2.2.2.1 > (0 : Int)))) then (P_templ_follow ((d.2.2.2.2.1.getD (IntKind.i64.wrap (d.2.2.2.2.2.2.2.2.1 - (1 : Int))).toNat ((0 : Int), (0 : Int), [], [], [], ())), (d.2.2.2.2.2.2.1.getD d.2.2.2.2.2.2.2.2.1.toNat ((0 : Int), (0 : Int), [], [], [], ())), ())) else some ((0 : Int), ()) : Option (Int × Unit)).bind fun (r7 : Int × Unit) =>
  if (if (if (d.2.2.2.2.2.2.2.2.1 == (0 : Int)) then (if ((d.2.2.2.2.2.2.1.getD d.2.2.2.2.2.2.2.2.1.toNat ((0 : Int), (0 : Int), [], [], [], ())).1 != (0 : Int)) then true else ((d.2.2.2.2.2.2.1.getD d.2.2.2.2.2.2.2.2.1.toNat ((0 : Int), (0 : Int), [], [], [], ())).2.1 != (0 : Int))) else false) then true else (if (decide (d.2.2.2.2.2.2.2.2.1 > (0 : Int))) then (r7.1 == (3 : Int)) else false)) then
  some (false, ())
  else
  (if (!(if (decide ((d.2.2.2.2.2.2.1.getD d.2.2.2.2.2.2.2.2.1.toNat ((0 : Int), (0 : Int), [], [], [], ())).1 > (3 : Int))) then true else (decide ((d.2.2.2.2.2.2.1.getD d.2.2.2.2.2.2.2.2.1.toNat ((0 : Int), (0 : Int), [], [], [], ())).2.1 > (7 : Int))))) then (P_templ_all ((d.2.2.2.2.2.2.1.getD d.2.2.2.2.2.2.2.2.1.toNat ((0 : Int), (0 : Int), [], [], [], ())).2.2.1, d.2.1, (0 : Int), (3 : Int), ())) else some (false, ()) : Option (Bool × Unit)).bind fun (r8 : Bool × Unit) =>
  if (if (if (decide ((d.2.2.2.2.2.2.1.getD d.2.2.2.2.2.2.2.2.1.toNat ((0 : Int), (0 : Int), [], [], [], ())).1 > (3 : Int))) then true else (decide ((d.2.2.2.2.2.2.1.getD d.2.2.2.2.2.2.2.2.1.toNat ((0 : Int), (0 : Int), [], [], [], ())).2.1 > (7 : Int)))) then true else (!r8.1)) then
  some (false, ())
  else
  (if (!(decide ((((d.2.2.2.2.2.2.1.getD d.2.2.2.2.2.2.2.2.1.toNat ((0 : Int), (0 : Int), [], [], [], ())).2.2.2.1).length : Int) > (16 : Int)))) then (P_templ_all ((d.2.2.2.2.2.2.1.getD d.2.2.2.2.2.2.2.2.1.toNat ((0 : Int), (0 : Int), [], [], [], ())).2.2.2.1, (((d.2.2.2.2.2.2.1.getD d.2.2.2.2.2.2.2.2.1.toNat ((0 : Int), (0 : Int), [], [], [], ())).2.2.2.1).length : Int), (1 : Int), (16 : Int), ())) else some (false, ()) : Option (Bool × Unit)).bind fun (r9 : Bool × Unit) =>
  (if (!(if (decide ((((d.2.2.2.2.2.2.1.getD d.2.2.2.2.2.2.2.2.1.toNat ((0 : Int), (0 : Int), [], [], [], ())).2.2.2.1).length : Int) > (16 : Int))) then true else (!r9.1))) then (P_templ_all ((d.2.2.2.2.2.2.1.getD d.2.2.2.2.2.2.2.2.1.toNat ((0 : Int), (0 : Int), [], [], [], ())).2.2.2.2.1, d.2.2.1, (0 : Int), (15 : Int), ())) else some (false, ()) : Option (Bool × Unit)).bind fun (r10 : Bool × Unit) =>
  if (if (if (decide ((((d.2.2.2.2.2.2.1.getD d.2.2.2.2.2.2.2.2.1.toNat ((0 : Int), (0 : Int), [], [], [], ())).2.2.2.1).length : Int) > (16 : Int))) then true else (!r9.1)) then true else (!r10.1)) then
  some (false, ())
  else
  J0 (d.1, d.2.1, d.2.2.1, d.2.2.2.1, d.2.2.2.2.1, d.2.2.2.2.2.1, d.2.2.2.2.2.2.1, d.2.2.2.2.2.2.2.1, (IntKind.i64.wrap (d.2.2.2.2.2.2.2.2.1 + (1 : Int))), ()) else none else none
  else
  (if (decide ((d.2.2.2.2.2.1.length : Int) > (0 : Int))) then (P_templ_sizes ((d.1, d.2.1, d.2.2.1, d.2.2.2.1, d.2.2.2.2.1, d.2.2.2.2.2.1, ()), ())) else some ((0 : Int), ()) : Option (Int × Unit)).bind fun (r11 : Int × Unit) =>
  if (if (decide ((d.2.2.2.2.2.1.length : Int) > (0 : Int))) then ((d.2.2.2.2.2.1.length : Int) != r11.1) else false) then
  some (false, ())
  else
  iter (L_templ_Right_21 n) n (d.2.2.2.2.2.1, (d.2.2.2.2.2.1.length : Int), (0 : Int), ())
/-- templ.Right -/
noncomputable def N_templ_Right (n : Nat) (d : T_api_Structure × Unit) : Option (Bool × Unit) :=
  (P_templ_within (d.1.1, (0 : Int), (63 : Int), ())).bind fun (r1 : Bool × Unit) =>
  (if (!(!r1.1)) then (P_templ_within (d.1.2.1, (1 : Int), (32 : Int), ())) else some (false, ()) : Option (Bool × Unit)).bind fun (r2 : Bool × Unit) =>
  (if (!(if (!r1.1) then true else (!r2.1))) then (P_templ_within (d.1.2.2.1, (0 : Int), d.1.2.1, ())) else some (false, ()) : Option (Bool × Unit)).bind fun (r3 : Bool × Unit) =>
  if (if (if (!r1.1) then true else (!r2.1)) then true else (!r3.1)) then
  some (false, ())
  else
  (if (d.1.2.2.1 == (0 : Int)) then
  some (d.1.1, d.1.2.1, d.1.2.2.1, d.1.2.2.2.1, d.1.2.2.2.2.1, d.1.2.2.2.2.2.1, (0 : Int), ())
  else
  some (d.1.1, d.1.2.1, d.1.2.2.1, d.1.2.2.2.1, d.1.2.2.2.2.1, d.1.2.2.2.2.2.1, d.1.2.1, ()) : Option (Int × Int × Int × (List (Int)) × (List (T_api_Template)) × (List (T_api_Size)) × Int × Unit)).bind (fun (d4 : Int × Int × Int × (List (Int)) × (List (T_api_Template)) × (List (T_api_Size)) × Int × Unit) =>
  (P_templ_all (d4.2.2.2.1, d4.2.2.2.2.2.2.1, (0 : Int), (IntKind.i64.wrap (d4.2.2.1 - (1 : Int))), ())).bind fun (r5 : Bool × Unit) =>
  (if (!(!r5.1)) then (P_templ_within ((d4.2.2.2.2.1.length : Int), (1 : Int), (64 : Int), ())) else some (false, ()) : Option (Bool × Unit)).bind fun (r6 : Bool × Unit) =>
  if (if (!r5.1) then true else (!r6.1)) then
  some (false, ())
  else
  iter (L_templ_Right_9 n) n (d4.1, d4.2.1, d4.2.2.1, d4.2.2.2.1, d4.2.2.2.2.1, d4.2.2.2.2.2.1, d4.2.2.2.2.1, (d4.2.2.2.2.1.length : Int), (0 : Int), ()))
theorem e_templ_Right (n d) : fnK tab G_templ_Right an_templ_Right n Try.f24 (bodyOf Try.f24) in_templ_Right out_templ_Right d = N_templ_Right n d := by kernel_rfl
theorem E_templ_Right (d) : P_templ_Right d = N_templ_Right 1000000 d := e_templ_Right _ d
/-- av1.structure -/
noncomputable def N_av1_structure (n : Nat) (d : T_api_Frame × T_api_Structure × Unit) : Option (T_api_Structure × Unit) :=
  if d.1.2.2.2.2.1 then
  some (d.1.2.2.2.2.2.1, ())
  else
  some (d.2.1, ())
theorem e_av1_structure (n d) : fnK tab G_av1_structure an_av1_structure n Try.f30 (bodyOf Try.f30) in_av1_structure out_av1_structure d = N_av1_structure n d := by kernel_rfl
theorem E_av1_structure (d) : P_av1_structure d = N_av1_structure 1000000 d := e_av1_structure _ d
/-- av1.within -/
noncomputable def N_av1_within (n : Nat) (d : Int × Int × Int × Unit) : Option (Bool × Unit) :=
  some ((if (decide (d.1 ≥ d.2.1)) then (decide (d.1 ≤ d.2.2.1)) else false), ())
theorem e_av1_within (n d) : fnK tab G_av1_within an_av1_within n Try.f52 (bodyOf Try.f52) in_av1_within out_av1_within d = N_av1_within n d := by kernel_rfl
theorem E_av1_within (d) : P_av1_within d = N_av1_within 1000000 d := e_av1_within _ d
/-- av1.place -/
noncomputable def N_av1_place (n : Nat) (d : Int × T_api_Structure × Unit) : Option (Int × Bool × Unit) :=
  (P_av1_within (d.1, (0 : Int), (63 : Int), ())).bind fun (r1 : Bool × Unit) =>
  if (!r1.1) then
  some ((0 : Int), false, ())
  else
  if decide ((64 : Int) ≠ 0) then
  some (((IntKind.i64.wrap ((IntKind.i64.wrap (d.1 - d.2.1.1)) + (64 : Int))).tmod (64 : Int)), (decide (((IntKind.i64.wrap ((IntKind.i64.wrap (d.1 - d.2.1.1)) + (64 : Int))).tmod (64 : Int)) < (d.2.1.2.2.2.2.1.length : Int))), ()) else none
theorem e_av1_place (n d) : fnK tab G_av1_place an_av1_place n Try.f35 (bodyOf Try.f35) in_av1_place out_av1_place d = N_av1_place n d := by kernel_rfl
theorem E_av1_place (d) : P_av1_place d = N_av1_place 1000000 d := e_av1_place _ d
abbrev D_slices_Equal_int_int_4 : Type := (List (Int)) × (List (Int)) × Int × Int × Unit
noncomputable def L_slices_Equal_int_int_4 (n : Nat) (J0 : D_slices_Equal_int_int_4 → Option (Bool × Unit)) (d : D_slices_Equal_int_int_4) : Option (Bool × Unit) :=
  if (decide (d.2.2.2.1 < d.2.2.1)) then
  if decide (0 ≤ d.2.2.2.1 ∧ d.2.2.2.1 < (d.1.length : Int)) then
  if decide (0 ≤ d.2.2.2.1 ∧ d.2.2.2.1 < (d.2.1.length : Int)) then
  if ((d.1.getD d.2.2.2.1.toNat (0 : Int)) != (d.2.1.getD d.2.2.2.1.toNat (0 : Int))) then
  some (false, ())
  else
  J0 (d.1, d.2.1, d.2.2.1, (IntKind.i64.wrap (d.2.2.2.1 + (1 : Int))), ()) else none else none
  else
  some (true, ())
/-- slices.Equal[[]int,int] -/
noncomputable def N_slices_Equal_int_int (n : Nat) (d : (List (Int)) × (List (Int)) × Unit) : Option (Bool × Unit) :=
  if ((d.1.length : Int) != (d.2.1.length : Int)) then
  some (false, ())
  else
  iter (L_slices_Equal_int_int_4 n) n (d.1, d.2.1, (d.1.length : Int), (0 : Int), ())
theorem e_slices_Equal_int_int (n d) : fnK tab G_slices_Equal_int_int an_slices_Equal_int_int n Try.f62 (bodyOf Try.f62) in_slices_Equal_int_int out_slices_Equal_int_int d = N_slices_Equal_int_int n d := by kernel_rfl
theorem E_slices_Equal_int_int (d) : P_slices_Equal_int_int d = N_slices_Equal_int_int 1000000 d := e_slices_Equal_int_int _ d
abbrev D_slices_Equal_api_Size_api_Size_4 : Type := (List (T_api_Size)) × (List (T_api_Size)) × Int × Int × Unit
noncomputable def L_slices_Equal_api_Size_api_Size_4 (n : Nat) (J0 : D_slices_Equal_api_Size_api_Size_4 → Option (Bool × Unit)) (d : D_slices_Equal_api_Size_api_Size_4) : Option (Bool × Unit) :=
  if (decide (d.2.2.2.1 < d.2.2.1)) then
  if decide (0 ≤ d.2.2.2.1 ∧ d.2.2.2.1 < (d.1.length : Int)) then
  if decide (0 ≤ d.2.2.2.1 ∧ d.2.2.2.1 < (d.2.1.length : Int)) then
  if (!(((d.1.getD d.2.2.2.1.toNat ((0 : Int), (0 : Int), ())).1 == (d.2.1.getD d.2.2.2.1.toNat ((0 : Int), (0 : Int), ())).1) && (((d.1.getD d.2.2.2.1.toNat ((0 : Int), (0 : Int), ())).2.1 == (d.2.1.getD d.2.2.2.1.toNat ((0 : Int), (0 : Int), ())).2.1) && true))) then
  some (false, ())
  else
  J0 (d.1, d.2.1, d.2.2.1, (IntKind.i64.wrap (d.2.2.2.1 + (1 : Int))), ()) else none else none
  else
  some (true, ())
/-- slices.Equal[[]api.Size,api.Size] -/
noncomputable def N_slices_Equal_api_Size_api_Size (n : Nat) (d : (List (T_api_Size)) × (List (T_api_Size)) × Unit) : Option (Bool × Unit) :=
  if ((d.1.length : Int) != (d.2.1.length : Int)) then
  some (false, ())
  else
  iter (L_slices_Equal_api_Size_api_Size_4 n) n (d.1, d.2.1, (d.1.length : Int), (0 : Int), ())
theorem e_slices_Equal_api_Size_api_Size (n d) : fnK tab G_slices_Equal_api_Size_api_Size an_slices_Equal_api_Size_api_Size n Try.f63 (bodyOf Try.f63) in_slices_Equal_api_Size_api_Size out_slices_Equal_api_Size_api_Size d = N_slices_Equal_api_Size_api_Size n d := by kernel_rfl
theorem E_slices_Equal_api_Size_api_Size (d) : P_slices_Equal_api_Size_api_Size d = N_slices_Equal_api_Size_api_Size 1000000 d := e_slices_Equal_api_Size_api_Size _ d
/-- templ.Same$1 -/
noncomputable def N_templ_Same_1 (n : Nat) (d : T_api_Template × T_api_Template × Unit) : Option (Bool × Unit) :=
  (if (if (d.1.1 == d.2.1.1) then (d.1.2.1 == d.2.1.2.1) else false) then (P_slices_Equal_int_int (d.1.2.2.1, d.2.1.2.2.1, ())) else some (false, ()) : Option (Bool × Unit)).bind fun (r1 : Bool × Unit) =>
  (if (if (if (d.1.1 == d.2.1.1) then (d.1.2.1 == d.2.1.2.1) else false) then r1.1 else false) then (P_slices_Equal_int_int (d.1.2.2.2.1, d.2.1.2.2.2.1, ())) else some (false, ()) : Option (Bool × Unit)).bind fun (r2 : Bool × Unit) =>
  (if (if (if (if (d.1.1 == d.2.1.1) then (d.1.2.1 == d.2.1.2.1) else false) then r1.1 else false) then r2.1 else false) then (P_slices_Equal_int_int (d.1.2.2.2.2.1, d.2.1.2.2.2.2.1, ())) else some (false, ()) : Option (Bool × Unit)).bind fun (r3 : Bool × Unit) =>
  some ((if (if (if (if (d.1.1 == d.2.1.1) then (d.1.2.1 == d.2.1.2.1) else false) then r1.1 else false) then r2.1 else false) then r3.1 else false), ())
theorem e_templ_Same_1 (n d) : fnK tab G_templ_Same_1 an_templ_Same_1 n Try.f65 (bodyOf Try.f65) in_templ_Same_1 out_templ_Same_1 d = N_templ_Same_1 n d := by kernel_rfl
theorem E_templ_Same_1 (d) : P_templ_Same_1 d = N_templ_Same_1 1000000 d := e_templ_Same_1 _ d
abbrev D_slices_EqualFunc_api_Template_api_Template_api_Template_api_Template_4 : Type := (List (T_api_Template)) × (List (T_api_Template)) × Int × Int × Unit
noncomputable def L_slices_EqualFunc_api_Template_api_Template_api_Template_api_Template_4 (n : Nat) (J0 : D_slices_EqualFunc_api_Template_api_Template_api_Template_api_Template_4 → Option (Bool × Unit)) (d : D_slices_EqualFunc_api_Template_api_Template_api_Template_api_Template_4) : Option (Bool × Unit) :=
  if (decide (d.2.2.2.1 < d.2.2.1)) then
  if decide (0 ≤ d.2.2.2.1 ∧ d.2.2.2.1 < (d.2.1.length : Int)) then
  if decide (0 ≤ d.2.2.2.1 ∧ d.2.2.2.1 < (d.1.length : Int)) then
  (P_templ_Same_1 ((d.2.1.getD d.2.2.2.1.toNat ((0 : Int), (0 : Int), [], [], [], ())), (d.1.getD d.2.2.2.1.toNat ((0 : Int), (0 : Int), [], [], [], ())), ())).bind fun (r1 : Bool × Unit) =>
  if (!r1.1) then
  some (false, ())
  else
  J0 (d.1, d.2.1, d.2.2.1, (IntKind.i64.wrap (d.2.2.2.1 + (1 : Int))), ()) else none else none
  else
  some (true, ())
/-- slices.EqualFunc[[]api.Template,[]api.Template,api.Template,api.Template] -/
noncomputable def N_slices_EqualFunc_api_Template_api_Template_api_Template_api_Template (n : Nat) (d : (List (T_api_Template)) × (List (T_api_Template)) × Unit × Unit) : Option (Bool × Unit) :=
  if ((d.1.length : Int) != (d.2.1.length : Int)) then
  some (false, ())
  else
  iter (L_slices_EqualFunc_api_Template_api_Template_api_Template_api_Template_4 n) n (d.2.1, d.1, (d.1.length : Int), (0 : Int), ())
theorem e_slices_EqualFunc_api_Template_api_Template_api_Template_api_Template (n d) : fnK tab G_slices_EqualFunc_api_Template_api_Template_api_Template_api_Template an_slices_EqualFunc_api_Template_api_Template_api_Template_api_Template n Try.f64 (bodyOf Try.f64) in_slices_EqualFunc_api_Template_api_Template_api_Template_api_Template out_slices_EqualFunc_api_Template_api_Template_api_Template_api_Template d = N_slices_EqualFunc_api_Template_api_Template_api_Template_api_Template n d := by kernel_rfl
theorem E_slices_EqualFunc_api_Template_api_Template_api_Template_api_Template (d) : P_slices_EqualFunc_api_Template_api_Template_api_Template_api_Template d = N_slices_EqualFunc_api_Template_api_Template_api_Template_api_Template 1000000 d := e_slices_EqualFunc_api_Template_api_Template_api_Template_api_Template _ d
/-- templ.Same -/
noncomputable def N_templ_Same (n : Nat) (d : T_api_Structure × T_api_Structure × Unit) : Option (Bool × Unit) :=
  (if (if (if (d.1.1 == d.2.1.1) then (d.1.2.1 == d.2.1.2.1) else false) then (d.1.2.2.1 == d.2.1.2.2.1) else false) then (P_slices_Equal_int_int (d.1.2.2.2.1, d.2.1.2.2.2.1, ())) else some (false, ()) : Option (Bool × Unit)).bind fun (r1 : Bool × Unit) =>
  (if (if (if (if (d.1.1 == d.2.1.1) then (d.1.2.1 == d.2.1.2.1) else false) then (d.1.2.2.1 == d.2.1.2.2.1) else false) then r1.1 else false) then (P_slices_Equal_api_Size_api_Size (d.1.2.2.2.2.2.1, d.2.1.2.2.2.2.2.1, ())) else some (false, ()) : Option (Bool × Unit)).bind fun (r2 : Bool × Unit) =>
  (if (if (if (if (if (d.1.1 == d.2.1.1) then (d.1.2.1 == d.2.1.2.1) else false) then (d.1.2.2.1 == d.2.1.2.2.1) else false) then r1.1 else false) then r2.1 else false) then (P_slices_EqualFunc_api_Template_api_Template_api_Template_api_Template (d.1.2.2.2.2.1, d.2.1.2.2.2.2.1, (()), ())) else some (false, ()) : Option (Bool × Unit)).bind fun (r3 : Bool × Unit) =>
  some ((if (if (if (if (if (d.1.1 == d.2.1.1) then (d.1.2.1 == d.2.1.2.1) else false) then (d.1.2.2.1 == d.2.1.2.2.1) else false) then r1.1 else false) then r2.1 else false) then r3.1 else false), ())
theorem e_templ_Same (n d) : fnK tab G_templ_Same an_templ_Same n Try.f25 (bodyOf Try.f25) in_templ_Same out_templ_Same d = N_templ_Same n d := by kernel_rfl
theorem E_templ_Same (d) : P_templ_Same d = N_templ_Same 1000000 d := e_templ_Same _ d
/-- av1.nothing -/
noncomputable def N_av1_nothing (n : Nat) (d : T_api_Structure × Unit) : Option (Bool × Unit) :=
  (P_templ_Same (d.1, ((0 : Int), (0 : Int), (0 : Int), ([] : List (Int)), ([] : List (T_api_Template)), ([] : List (T_api_Size)), ()), ())).bind fun (r1 : Bool × Unit) =>
  some (r1.1, ())
theorem e_av1_nothing (n d) : fnK tab G_av1_nothing an_av1_nothing n Try.f41 (bodyOf Try.f41) in_av1_nothing out_av1_nothing d = N_av1_nothing n d := by kernel_rfl
theorem E_av1_nothing (d) : P_av1_nothing d = N_av1_nothing 1000000 d := e_av1_nothing _ d
abbrev D_av1_all_2 : Type := Int × Int × (List (Int)) × Int × Int × Unit
noncomputable def L_av1_all_2 (n : Nat) (J0 : D_av1_all_2 → Option (Bool × Unit)) (d : D_av1_all_2) : Option (Bool × Unit) :=
  if (decide (d.2.2.2.2.1 < d.2.2.2.1)) then
  if decide (0 ≤ d.2.2.2.2.1 ∧ d.2.2.2.2.1 < (d.2.2.1.length : Int)) then
  (P_av1_within ((d.2.2.1.getD d.2.2.2.2.1.toNat (0 : Int)), d.1, d.2.1, ())).bind fun (r1 : Bool × Unit) =>
  if (!r1.1) then
  some (false, ())
  else
  J0 (d.1, d.2.1, d.2.2.1, d.2.2.2.1, (IntKind.i64.wrap (d.2.2.2.2.1 + (1 : Int))), ()) else none
  else
  some (true, ())
/-- av1.all -/
noncomputable def N_av1_all (n : Nat) (d : (List (Int)) × Int × Int × Unit) : Option (Bool × Unit) :=
  iter (L_av1_all_2 n) n (d.2.1, d.2.2.1, d.1, (d.1.length : Int), (0 : Int), ())
theorem e_av1_all (n d) : fnK tab G_av1_all an_av1_all n Try.f80 (bodyOf Try.f80) in_av1_all out_av1_all d = N_av1_all n d := by kernel_rfl
theorem E_av1_all (d) : P_av1_all d = N_av1_all 1000000 d := e_av1_all _ d
/-- av1.own -/
noncomputable def N_av1_own (n : Nat) (d : Bool × (List (Int)) × Int × Int × Int × Unit) : Option (Bool × Unit) :=
  if (!d.1) then
  some (((d.2.1.length : Int) == (0 : Int)), ())
  else
  (if ((d.2.1.length : Int) == d.2.2.1) then (P_av1_all (d.2.1, d.2.2.2.1, d.2.2.2.2.1, ())) else some (false, ()) : Option (Bool × Unit)).bind fun (r1 : Bool × Unit) =>
  some ((if ((d.2.1.length : Int) == d.2.2.1) then r1.1 else false), ())
theorem e_av1_own (n d) : fnK tab G_av1_own an_av1_own n Try.f53 (bodyOf Try.f53) in_av1_own out_av1_own d = N_av1_own n d := by kernel_rfl
theorem E_av1_own (d) : P_av1_own d = N_av1_own 1000000 d := e_av1_own _ d
/-- av1.Right -/
noncomputable def N_av1_Right (n : Nat) (d : T_api_Frame × T_api_Structure × Unit) : Option (Bool × Unit) :=
  (P_av1_nothing (d.2.1, ())).bind fun (r1 : Bool × Unit) =>
  (if (!r1.1) then (P_templ_Right (d.2.1, ())) else some (false, ()) : Option (Bool × Unit)).bind fun (r2 : Bool × Unit) =>
  if (if (!r1.1) then (!r2.1) else false) then
  some (false, ())
  else
  (P_av1_structure d).bind fun (r3 : T_api_Structure × Unit) =>
  (P_templ_Right (r3.1, ())).bind fun (r4 : Bool × Unit) =>
  (if ((!(!r4.1)) && (!d.1.2.2.2.2.1)) then (P_av1_nothing (d.1.2.2.2.2.2.1, ())) else some (false, ()) : Option (Bool × Unit)).bind fun (r5 : Bool × Unit) =>
  if (if (!r4.1) then true else (if (!d.1.2.2.2.2.1) then (!r5.1) else false)) then
  some (false, ())
  else
  (P_av1_place (d.1.2.2.1, r3.1, ())).bind fun (r6 : Int × Bool × Unit) =>
  (if (!(!r6.2.1)) then (P_av1_within (d.1.2.2.2.1, (0 : Int), (65535 : Int), ())) else some (false, ()) : Option (Bool × Unit)).bind fun (r7 : Bool × Unit) =>
  if (if (!r6.2.1) then true else (!r7.1)) then
  some (false, ())
  else
  if decide (0 ≤ r3.1.2.1) then
  if (if (decide ((IntKind.u64.wrap d.1.2.2.2.2.2.2.2.1) ≥ (IntKind.u64.wrap ((1 : Int) * 2 ^ (min r3.1.2.1.toNat IntKind.u64.bits))))) then true else (if (!d.1.2.2.2.2.2.2.1) then (d.1.2.2.2.2.2.2.2.1 != (0 : Int)) else false)) then
  some (false, ())
  else
  (if (!(decide ((d.1.2.2.2.2.2.2.2.2.2.2.2.1.length : Int) > (16 : Int)))) then (P_av1_own (d.1.2.2.2.2.2.2.2.2.2.2.1, d.1.2.2.2.2.2.2.2.2.2.2.2.1, (d.1.2.2.2.2.2.2.2.2.2.2.2.1.length : Int), (1 : Int), (4096 : Int), ())) else some (false, ()) : Option (Bool × Unit)).bind fun (r8 : Bool × Unit) =>
  if (if (decide ((d.1.2.2.2.2.2.2.2.2.2.2.2.1.length : Int) > (16 : Int))) then true else (!r8.1)) then
  some (false, ())
  else
  (P_av1_own (d.1.2.2.2.2.2.2.2.2.1, d.1.2.2.2.2.2.2.2.2.2.1, r3.1.2.1, (0 : Int), (3 : Int), ())).bind fun (r9 : Bool × Unit) =>
  (if r9.1 then (P_av1_own (d.1.2.2.2.2.2.2.2.2.2.2.2.2.1, d.1.2.2.2.2.2.2.2.2.2.2.2.2.2.1, r3.1.2.2.1, (0 : Int), (255 : Int), ())) else some (false, ()) : Option (Bool × Unit)).bind fun (r10 : Bool × Unit) =>
  some ((if r9.1 then r10.1 else false), ()) else none
theorem e_av1_Right (n d) : fnK tab G_av1_Right an_av1_Right n Try.f18 (bodyOf Try.f18) in_av1_Right out_av1_Right d = N_av1_Right n d := by kernel_rfl
theorem E_av1_Right (d) : P_av1_Right d = N_av1_Right 1000000 d := e_av1_Right _ d
/-- bits.Right -/
noncomputable def N_bits_Right (n : Nat) (d : T_api_Ink × Unit) : Option (Bool × Unit) :=
  if (decide (d.1.2.1 < (0 : Int))) then
  some (false, ())
  else
  if decide ((8 : Int) ≠ 0) then
  if decide ((8 : Int) ≠ 0) then
  (if ((d.1.2.1.tmod (8 : Int)) != (0 : Int)) then
  some (d.1.1, d.1.2.1, (IntKind.i64.wrap ((IntKind.i64.wrap (d.1.2.1.tdiv (8 : Int))) + (1 : Int))), ())
  else
  some (d.1.1, d.1.2.1, (IntKind.i64.wrap (d.1.2.1.tdiv (8 : Int))), ()) : Option (T_api_Bits)).bind (fun (d1 : T_api_Bits) =>
  if ((d1.1.length : Int) != d1.2.2.1) then
  some (false, ())
  else
  if decide ((8 : Int) ≠ 0) then
  if ((d1.2.1.tmod (8 : Int)) != (0 : Int)) then
  if decide (0 ≤ (IntKind.i64.wrap (d1.2.2.1 - (1 : Int))) ∧ (IntKind.i64.wrap (d1.2.2.1 - (1 : Int))) < (d1.1.length : Int)) then
  if decide (0 ≤ (IntKind.u64.wrap (d1.2.1.tmod (8 : Int)))) then
  some (((IntKind.u8.wrap ((d1.1.getD (IntKind.i64.wrap (d1.2.2.1 - (1 : Int))).toNat (0 : Int)) * 2 ^ (min (IntKind.u64.wrap (d1.2.1.tmod (8 : Int))).toNat IntKind.u8.bits))) == (0 : Int)), ()) else none else none
  else
  some (true, ()) else none) else none else none
theorem e_bits_Right (n d) : fnK tab G_bits_Right an_bits_Right n Try.f68 (bodyOf Try.f68) in_bits_Right out_bits_Right d = N_bits_Right n d := by kernel_rfl
theorem E_bits_Right (d) : P_bits_Right d = N_bits_Right 1000000 d := e_bits_Right _ d
abbrev D_bits_draw_5 : Type := (List (Int)) × Int × Int × Int × Int × (List (Int)) × Int × Unit
noncomputable def L_bits_draw_5 (n : Nat) (J0 : D_bits_draw_5 → Option (T_api_Ink × Unit)) (d : D_bits_draw_5) : Option (T_api_Ink × Unit) :=
  if (decide (d.2.2.2.1 > (0 : Int))) then
  if decide ((8 : Int) ≠ 0) then
  if decide (0 ≤ (IntKind.u64.wrap (IntKind.i64.wrap (d.2.2.2.1 - (if d.2.2.2.1 < (IntKind.i64.wrap ((8 : Int) - (d.2.2.2.2.2.2.1.tmod (8 : Int)))) then d.2.2.2.1 else (IntKind.i64.wrap ((8 : Int) - (d.2.2.2.2.2.2.1.tmod (8 : Int))))))))) then
  if decide (0 ≤ (IntKind.u64.wrap (if d.2.2.2.1 < (IntKind.i64.wrap ((8 : Int) - (d.2.2.2.2.2.2.1.tmod (8 : Int)))) then d.2.2.2.1 else (IntKind.i64.wrap ((8 : Int) - (d.2.2.2.2.2.2.1.tmod (8 : Int))))))) then
  if decide ((8 : Int) ≠ 0) then
  if decide (0 ≤ (IntKind.i64.wrap (d.2.2.2.2.2.2.1.tdiv (8 : Int))) ∧ (IntKind.i64.wrap (d.2.2.2.2.2.2.1.tdiv (8 : Int))) < (d.2.2.2.2.2.1.length : Int)) then
  if decide (0 ≤ (IntKind.u64.wrap (IntKind.i64.wrap ((IntKind.i64.wrap ((8 : Int) - (d.2.2.2.2.2.2.1.tmod (8 : Int)))) - (if d.2.2.2.1 < (IntKind.i64.wrap ((8 : Int) - (d.2.2.2.2.2.2.1.tmod (8 : Int)))) then d.2.2.2.1 else (IntKind.i64.wrap ((8 : Int) - (d.2.2.2.2.2.2.1.tmod (8 : Int))))))))) then
  if decide (0 ≤ (IntKind.i64.wrap (d.2.2.2.2.2.2.1.tdiv (8 : Int))) ∧ (IntKind.i64.wrap (d.2.2.2.2.2.2.1.tdiv (8 : Int))) < (d.2.2.2.2.2.1.length : Int)) then
  J0 (d.1, d.2.1, d.2.2.1, (IntKind.i64.wrap (d.2.2.2.1 - (if d.2.2.2.1 < (IntKind.i64.wrap ((8 : Int) - (d.2.2.2.2.2.2.1.tmod (8 : Int)))) then d.2.2.2.1 else (IntKind.i64.wrap ((8 : Int) - (d.2.2.2.2.2.2.1.tmod (8 : Int))))))), d.2.2.2.2.1, (d.2.2.2.2.2.1.set (IntKind.i64.wrap (d.2.2.2.2.2.2.1.tdiv (8 : Int))).toNat (IntKind.u8.wrap (BitVec.ofInt IntKind.u8.bits (d.2.2.2.2.2.1.getD (IntKind.i64.wrap (d.2.2.2.2.2.2.1.tdiv (8 : Int))).toNat (0 : Int)) ||| BitVec.ofInt IntKind.u8.bits (IntKind.u8.wrap (IntKind.u64.wrap ((IntKind.u64.wrap (BitVec.ofInt IntKind.u64.bits (d.2.2.1.fdiv (2 ^ (min (IntKind.u64.wrap (IntKind.i64.wrap (d.2.2.2.1 - (if d.2.2.2.1 < (IntKind.i64.wrap ((8 : Int) - (d.2.2.2.2.2.2.1.tmod (8 : Int)))) then d.2.2.2.1 else (IntKind.i64.wrap ((8 : Int) - (d.2.2.2.2.2.2.1.tmod (8 : Int)))))))).toNat IntKind.u64.bits))) &&& BitVec.ofInt IntKind.u64.bits (IntKind.u64.wrap ((IntKind.u64.wrap ((1 : Int) * 2 ^ (min (IntKind.u64.wrap (if d.2.2.2.1 < (IntKind.i64.wrap ((8 : Int) - (d.2.2.2.2.2.2.1.tmod (8 : Int)))) then d.2.2.2.1 else (IntKind.i64.wrap ((8 : Int) - (d.2.2.2.2.2.2.1.tmod (8 : Int)))))).toNat IntKind.u64.bits))) - (1 : Int)))).toNat) * 2 ^ (min (IntKind.u64.wrap (IntKind.i64.wrap ((IntKind.i64.wrap ((8 : Int) - (d.2.2.2.2.2.2.1.tmod (8 : Int)))) - (if d.2.2.2.1 < (IntKind.i64.wrap ((8 : Int) - (d.2.2.2.2.2.2.1.tmod (8 : Int)))) then d.2.2.2.1 else (IntKind.i64.wrap ((8 : Int) - (d.2.2.2.2.2.2.1.tmod (8 : Int)))))))).toNat IntKind.u64.bits))))).toNat)), (IntKind.i64.wrap (d.2.2.2.2.2.2.1 + (if d.2.2.2.1 < (IntKind.i64.wrap ((8 : Int) - (d.2.2.2.2.2.2.1.tmod (8 : Int)))) then d.2.2.2.1 else (IntKind.i64.wrap ((8 : Int) - (d.2.2.2.2.2.2.1.tmod (8 : Int))))))), ()) else none else none else none else none else none else none else none
  else
  some ((d.2.2.2.2.2.1, d.2.2.2.2.1, ()), ())
/-- bits.draw -/
noncomputable def N_bits_draw (n : Nat) (d : T_api_Ink × Int × Int × Unit) : Option (T_api_Ink × Unit) :=
  if decide ((8 : Int) ≠ 0) then
  if decide (0 ≤ (IntKind.i64.wrap ((IntKind.i64.wrap ((IntKind.i64.wrap (d.1.2.1 + d.2.2.1)) + (7 : Int))).tdiv (8 : Int))) ∧ (IntKind.i64.wrap ((IntKind.i64.wrap ((IntKind.i64.wrap (d.1.2.1 + d.2.2.1)) + (7 : Int))).tdiv (8 : Int))) ≤ (IntKind.i64.wrap ((IntKind.i64.wrap ((IntKind.i64.wrap (d.1.2.1 + d.2.2.1)) + (7 : Int))).tdiv (8 : Int))) ∧ (IntKind.i64.wrap ((IntKind.i64.wrap ((IntKind.i64.wrap (d.1.2.1 + d.2.2.1)) + (7 : Int))).tdiv (8 : Int))) * ((1 : Nat) : Int) ≤ 140737488355328) then
  iter (L_bits_draw_5 n) n (([] : List (Int)), (0 : Int), d.2.1, d.2.2.1, (IntKind.i64.wrap (d.1.2.1 + d.2.2.1)), (d.1.1.take (List.replicate (IntKind.i64.wrap ((IntKind.i64.wrap ((IntKind.i64.wrap (d.1.2.1 + d.2.2.1)) + (7 : Int))).tdiv (8 : Int))).toNat (0 : Int)).length ++ (List.replicate (IntKind.i64.wrap ((IntKind.i64.wrap ((IntKind.i64.wrap (d.1.2.1 + d.2.2.1)) + (7 : Int))).tdiv (8 : Int))).toNat (0 : Int)).drop d.1.1.length), d.1.2.1, ()) else none else none
theorem e_bits_draw (n d) : fnK tab G_bits_draw an_bits_draw n Try.f81 (bodyOf Try.f81) in_bits_draw out_bits_draw d = N_bits_draw n d := by kernel_rfl
theorem E_bits_draw (d) : P_bits_draw d = N_bits_draw 1000000 d := e_bits_draw _ d
/-- bits.Add -/
noncomputable def N_bits_Add (n : Nat) (d : T_api_Ink × Int × Int × Unit) : Option (T_api_Ink × Int × Unit) :=
  (if (!(if (decide (d.2.2.1 < (0 : Int))) then true else (decide (d.2.2.1 > (64 : Int))))) then (P_bits_Right (d.1, ())) else some (false, ()) : Option (Bool × Unit)).bind fun (r1 : Bool × Unit) =>
  if (if (if (decide (d.2.2.1 < (0 : Int))) then true else (decide (d.2.2.1 > (64 : Int)))) then true else (!r1.1)) then
  some (d.1, (1 : Int), ())
  else
  if (!(decide (d.2.2.1 < (64 : Int))) || decide (0 ≤ (IntKind.u64.wrap d.2.2.1))) then
  if (if (decide (d.2.2.1 < (64 : Int))) then ((d.2.1.fdiv (2 ^ (min (IntKind.u64.wrap d.2.2.1).toNat IntKind.u64.bits))) != (0 : Int)) else false) then
  some (d.1, (6 : Int), ())
  else
  (P_bits_draw d).bind fun (r2 : T_api_Ink × Unit) =>
  some (r2.1, (0 : Int), ()) else none
theorem e_bits_Add (n d) : fnK tab G_bits_Add an_bits_Add n Try.f67 (bodyOf Try.f67) in_bits_Add out_bits_Add d = N_bits_Add n d := by kernel_rfl
theorem E_bits_Add (d) : P_bits_Add d = N_bits_Add 1000000 d := e_bits_Add _ d
/-- (*av1.writer).number -/
noncomputable def N_av1_writer_number (n : Nat) (d : (T_api_Ink × Unit) × Int × Int × Unit) : Option ((T_api_Ink × Unit) × Unit) :=
  (P_bits_Add (d.1.1, d.2.1, d.2.2.1, ())).bind fun (r1 : T_api_Ink × Int × Unit) =>
  some ((r1.1, ()), ())
theorem e_av1_writer_number (n d) : fnK tab G_av1_writer_number an_av1_writer_number n Try.f32 (bodyOf Try.f32) in_av1_writer_number out_av1_writer_number d = N_av1_writer_number n d := by kernel_rfl
theorem E_av1_writer_number (d) : P_av1_writer_number d = N_av1_writer_number 1000000 d := e_av1_writer_number _ d
/-- (*av1.writer).truth -/
noncomputable def N_av1_writer_truth (n : Nat) (d : (T_api_Ink × Unit) × Bool × Unit) : Option ((T_api_Ink × Unit) × Unit) :=
  (if d.2.1 then
  (P_av1_writer_number (d.1, (1 : Int), (1 : Int), ())).bind fun (r2 : (T_api_Ink × Unit) × Unit) =>
  some r2.1.1
  else
  (P_av1_writer_number (d.1, (0 : Int), (1 : Int), ())).bind fun (r3 : (T_api_Ink × Unit) × Unit) =>
  some r3.1.1 : Option (T_api_Ink)).bind (fun (d1 : T_api_Ink) =>
  some ((d1, ()), ()))
theorem e_av1_writer_truth (n d) : fnK tab G_av1_writer_truth an_av1_writer_truth n Try.f31 (bodyOf Try.f31) in_av1_writer_truth out_av1_writer_truth d = N_av1_writer_truth n d := by kernel_rfl
theorem E_av1_writer_truth (d) : P_av1_writer_truth d = N_av1_writer_truth 1000000 d := e_av1_writer_truth _ d
/-- (*templ.writer).number -/
noncomputable def N_templ_writer_number (n : Nat) (d : (T_api_Ink × Unit) × Int × Int × Unit) : Option ((T_api_Ink × Unit) × Unit) :=
  (P_bits_Add (d.1.1, (IntKind.u64.wrap d.2.1), d.2.2.1, ())).bind fun (r1 : T_api_Ink × Int × Unit) =>
  some ((r1.1, ()), ())
theorem e_templ_writer_number (n d) : fnK tab G_templ_writer_number an_templ_writer_number n Try.f82 (bodyOf Try.f82) in_templ_writer_number out_templ_writer_number d = N_templ_writer_number n d := by kernel_rfl
theorem E_templ_writer_number (d) : P_templ_writer_number d = N_templ_writer_number 1000000 d := e_templ_writer_number _ d
/-- math/bits.Len64 -/
noncomputable def N_math_bits_Len64 (n : Nat) (d : Int × Unit) : Option (Int × Unit) :=
  (if (decide (d.1 ≥ (4294967296 : Int))) then
  if decide (0 ≤ (32 : Int)) then
  some ((d.1.fdiv (2 ^ (min (32 : Int).toNat IntKind.u64.bits))), (32 : Int), ()) else none
  else
  some (d.1, (0 : Int), ()) : Option (Int × Int × Unit)).bind (fun (d1 : Int × Int × Unit) =>
  (if (decide (d1.1 ≥ (65536 : Int))) then
  if decide (0 ≤ (16 : Int)) then
  some ((d1.1.fdiv (2 ^ (min (16 : Int).toNat IntKind.u64.bits))), (IntKind.i64.wrap (d1.2.1 + (16 : Int))), ()) else none
  else
  some d1 : Option (Int × Int × Unit)).bind (fun (d2 : Int × Int × Unit) =>
  (if (decide (d2.1 ≥ (256 : Int))) then
  if decide (0 ≤ (8 : Int)) then
  some ((d2.1.fdiv (2 ^ (min (8 : Int).toNat IntKind.u64.bits))), (IntKind.i64.wrap (d2.2.1 + (8 : Int))), ()) else none
  else
  some d2 : Option (Int × Int × Unit)).bind (fun (d3 : Int × Int × Unit) =>
  if decide (0 ≤ (IntKind.u8.wrap d3.1) ∧ (IntKind.u8.wrap d3.1) < (([0, 1, 2, 2, 3, 3, 3, 3, 4, 4, 4, 4, 4, 4, 4, 4, 5, 5, 5, 5, 5, 5, 5, 5, 5, 5, 5, 5, 5, 5, 5, 5, 6, 6, 6, 6, 6, 6, 6, 6, 6, 6, 6, 6, 6, 6, 6, 6, 6, 6, 6, 6, 6, 6, 6, 6, 6, 6, 6, 6, 6, 6, 6, 6, 7, 7, 7, 7, 7, 7, 7, 7, 7, 7, 7, 7, 7, 7, 7, 7, 7, 7, 7, 7, 7, 7, 7, 7, 7, 7, 7, 7, 7, 7, 7, 7, 7, 7, 7, 7, 7, 7, 7, 7, 7, 7, 7, 7, 7, 7, 7, 7, 7, 7, 7, 7, 7, 7, 7, 7, 7, 7, 7, 7, 7, 7, 7, 7, 8, 8, 8, 8, 8, 8, 8, 8, 8, 8, 8, 8, 8, 8, 8, 8, 8, 8, 8, 8, 8, 8, 8, 8, 8, 8, 8, 8, 8, 8, 8, 8, 8, 8, 8, 8, 8, 8, 8, 8, 8, 8, 8, 8, 8, 8, 8, 8, 8, 8, 8, 8, 8, 8, 8, 8, 8, 8, 8, 8, 8, 8, 8, 8, 8, 8, 8, 8, 8, 8, 8, 8, 8, 8, 8, 8, 8, 8, 8, 8, 8, 8, 8, 8, 8, 8, 8, 8, 8, 8, 8, 8, 8, 8, 8, 8, 8, 8, 8, 8, 8, 8, 8, 8, 8, 8, 8, 8, 8, 8, 8, 8, 8, 8, 8, 8, 8, 8, 8, 8, 8, 8, 8, 8, 8, 8, 8, 8] : List UInt8).length : Int)) then
  some ((IntKind.i64.wrap (d3.2.1 + (IntKind.i64.wrap ((([0, 1, 2, 2, 3, 3, 3, 3, 4, 4, 4, 4, 4, 4, 4, 4, 5, 5, 5, 5, 5, 5, 5, 5, 5, 5, 5, 5, 5, 5, 5, 5, 6, 6, 6, 6, 6, 6, 6, 6, 6, 6, 6, 6, 6, 6, 6, 6, 6, 6, 6, 6, 6, 6, 6, 6, 6, 6, 6, 6, 6, 6, 6, 6, 7, 7, 7, 7, 7, 7, 7, 7, 7, 7, 7, 7, 7, 7, 7, 7, 7, 7, 7, 7, 7, 7, 7, 7, 7, 7, 7, 7, 7, 7, 7, 7, 7, 7, 7, 7, 7, 7, 7, 7, 7, 7, 7, 7, 7, 7, 7, 7, 7, 7, 7, 7, 7, 7, 7, 7, 7, 7, 7, 7, 7, 7, 7, 7, 8, 8, 8, 8, 8, 8, 8, 8, 8, 8, 8, 8, 8, 8, 8, 8, 8, 8, 8, 8, 8, 8, 8, 8, 8, 8, 8, 8, 8, 8, 8, 8, 8, 8, 8, 8, 8, 8, 8, 8, 8, 8, 8, 8, 8, 8, 8, 8, 8, 8, 8, 8, 8, 8, 8, 8, 8, 8, 8, 8, 8, 8, 8, 8, 8, 8, 8, 8, 8, 8, 8, 8, 8, 8, 8, 8, 8, 8, 8, 8, 8, 8, 8, 8, 8, 8, 8, 8, 8, 8, 8, 8, 8, 8, 8, 8, 8, 8, 8, 8, 8, 8, 8, 8, 8, 8, 8, 8, 8, 8, 8, 8, 8, 8, 8, 8, 8, 8, 8, 8, 8, 8, 8, 8, 8, 8, 8, 8] : List UInt8).getD (IntKind.u8.wrap d3.1).toNat 0).toNat : Int)))), ()) else none)))
theorem e_math_bits_Len64 (n d) : fnK tab G_math_bits_Len64 an_math_bits_Len64 n Try.f105 (bodyOf Try.f105) in_math_bits_Len64 out_math_bits_Len64 d = N_math_bits_Len64 n d := by kernel_rfl
theorem E_math_bits_Len64 (d) : P_math_bits_Len64 d = N_math_bits_Len64 1000000 d := e_math_bits_Len64 _ d
/-- bits.shape -/
noncomputable def N_bits_shape (n : Nat) (d : Int × Unit) : Option (Int × Int × Unit) :=
  (P_math_bits_Len64 d).bind fun (r1 : Int × Unit) =>
  if decide (0 ≤ (IntKind.u64.wrap r1.1)) then
  some (r1.1, (IntKind.u64.wrap ((IntKind.u64.wrap ((1 : Int) * 2 ^ (min (IntKind.u64.wrap r1.1).toNat IntKind.u64.bits))) - d.1)), ()) else none
theorem e_bits_shape (n d) : fnK tab G_bits_shape an_bits_shape n Try.f104 (bodyOf Try.f104) in_bits_shape out_bits_shape d = N_bits_shape n d := by kernel_rfl
theorem E_bits_shape (d) : P_bits_shape d = N_bits_shape 1000000 d := e_bits_shape _ d
/-- bits.AddRange -/
noncomputable def N_bits_AddRange (n : Nat) (d : T_api_Ink × Int × Int × Unit) : Option (T_api_Ink × Int × Unit) :=
  (if (!(if (decide (d.2.2.1 < (1 : Int))) then true else (decide (d.2.2.1 > (4294967296 : Int))))) then (P_bits_Right (d.1, ())) else some (false, ()) : Option (Bool × Unit)).bind fun (r1 : Bool × Unit) =>
  if (if (if (decide (d.2.2.1 < (1 : Int))) then true else (decide (d.2.2.1 > (4294967296 : Int)))) then true else (!r1.1)) then
  some (d.1, (1 : Int), ())
  else
  if (decide (d.2.1 ≥ d.2.2.1)) then
  some (d.1, (6 : Int), ())
  else
  (P_bits_shape (d.2.2.1, ())).bind fun (r2 : Int × Int × Unit) =>
  if (decide (d.2.1 < r2.2.1)) then
  (P_bits_draw (d.1, d.2.1, (IntKind.i64.wrap (r2.1 - (1 : Int))), ())).bind fun (r3 : T_api_Ink × Unit) =>
  some (r3.1, (0 : Int), ())
  else
  (P_bits_draw (d.1, (IntKind.u64.wrap (d.2.1 + r2.2.1)), r2.1, ())).bind fun (r4 : T_api_Ink × Unit) =>
  some (r4.1, (0 : Int), ())
theorem e_bits_AddRange (n d) : fnK tab G_bits_AddRange an_bits_AddRange n Try.f100 (bodyOf Try.f100) in_bits_AddRange out_bits_AddRange d = N_bits_AddRange n d := by kernel_rfl
theorem E_bits_AddRange (d) : P_bits_AddRange d = N_bits_AddRange 1000000 d := e_bits_AddRange _ d
/-- (*templ.writer).ranged -/
noncomputable def N_templ_writer_ranged (n : Nat) (d : (T_api_Ink × Unit) × Int × Int × Unit) : Option ((T_api_Ink × Unit) × Unit) :=
  (P_bits_AddRange (d.1.1, (IntKind.u64.wrap d.2.1), (IntKind.u64.wrap d.2.2.1), ())).bind fun (r1 : T_api_Ink × Int × Unit) =>
  some ((r1.1, ()), ())
theorem e_templ_writer_ranged (n d) : fnK tab G_templ_writer_ranged an_templ_writer_ranged n Try.f83 (bodyOf Try.f83) in_templ_writer_ranged out_templ_writer_ranged d = N_templ_writer_ranged n d := by kernel_rfl
theorem E_templ_writer_ranged (d) : P_templ_writer_ranged d = N_templ_writer_ranged 1000000 d := e_templ_writer_ranged _ d
abbrev D_templ_writer_write_15 : Type := (List (Int)) × Int × Int × Int × Int × (List (Int)) × (List (T_api_Template)) × (List (T_api_Size)) × (List (T_api_Template)) × Int × Int × (List (Int)) × Int × Int × Unit
noncomputable def L_templ_writer_write_15 (n : Nat) (J0 : (List (Int)) × Int × Int × Int × Int × (List (Int)) × (List (T_api_Template)) × (List (T_api_Size)) × (List (T_api_Template)) × Int × Int × Unit → Option ((T_api_Ink × Unit) × Unit)) (J1 : D_templ_writer_write_15 → Option ((T_api_Ink × Unit) × Unit)) (d : D_templ_writer_write_15) : Option ((T_api_Ink × Unit) × Unit) :=
  if (decide (d.2.2.2.2.2.2.2.2.2.2.2.2.2.1 < d.2.2.2.2.2.2.2.2.2.2.2.2.1)) then
  if decide (0 ≤ d.2.2.2.2.2.2.2.2.2.2.2.2.2.1 ∧ d.2.2.2.2.2.2.2.2.2.2.2.2.2.1 < (d.2.2.2.2.2.2.2.2.2.2.2.1.length : Int)) then
  (P_templ_writer_number (((d.1, d.2.1, ()), ()), (d.2.2.2.2.2.2.2.2.2.2.2.1.getD d.2.2.2.2.2.2.2.2.2.2.2.2.2.1.toNat (0 : Int)), (2 : Int), ())).bind fun (r6 : (T_api_Ink × Unit) × Unit) =>
  J1 (r6.1.1.1, r6.1.1.2.1, d.2.2.1, d.2.2.2.1, d.2.2.2.2.1, d.2.2.2.2.2.1, d.2.2.2.2.2.2.1, d.2.2.2.2.2.2.2.1, d.2.2.2.2.2.2.2.2.1, d.2.2.2.2.2.2.2.2.2.1, d.2.2.2.2.2.2.2.2.2.2.1, d.2.2.2.2.2.2.2.2.2.2.2.1, d.2.2.2.2.2.2.2.2.2.2.2.2.1, (IntKind.i64.wrap (d.2.2.2.2.2.2.2.2.2.2.2.2.2.1 + (1 : Int))), ()) else none
  else
  J0 (d.1, d.2.1, d.2.2.1, d.2.2.2.1, d.2.2.2.2.1, d.2.2.2.2.2.1, d.2.2.2.2.2.2.1, d.2.2.2.2.2.2.2.1, d.2.2.2.2.2.2.2.2.1, d.2.2.2.2.2.2.2.2.2.1, (IntKind.i64.wrap (d.2.2.2.2.2.2.2.2.2.2.1 + (1 : Int))), ())
abbrev D_templ_writer_write_24 : Type := (List (Int)) × Int × Int × Int × Int × (List (Int)) × (List (T_api_Template)) × (List (T_api_Size)) × (List (T_api_Template)) × Int × Int × (List (Int)) × Int × Int × Unit
noncomputable def L_templ_writer_write_24 (n : Nat) (J0 : (List (Int)) × Int × Int × Int × Int × (List (Int)) × (List (T_api_Template)) × (List (T_api_Size)) × (List (T_api_Template)) × Int × Int × Unit → Option ((T_api_Ink × Unit) × Unit)) (J1 : D_templ_writer_write_24 → Option ((T_api_Ink × Unit) × Unit)) (d : D_templ_writer_write_24) : Option ((T_api_Ink × Unit) × Unit) :=
  if (decide (d.2.2.2.2.2.2.2.2.2.2.2.2.2.1 < d.2.2.2.2.2.2.2.2.2.2.2.2.1)) then
  if decide (0 ≤ d.2.2.2.2.2.2.2.2.2.2.2.2.2.1 ∧ d.2.2.2.2.2.2.2.2.2.2.2.2.2.1 < (d.2.2.2.2.2.2.2.2.2.2.2.1.length : Int)) then
  (P_templ_writer_number (((d.1, d.2.1, ()), ()), (1 : Int), (1 : Int), ())).bind fun (r7 : (T_api_Ink × Unit) × Unit) =>
  (P_templ_writer_number (r7.1, (IntKind.i64.wrap ((d.2.2.2.2.2.2.2.2.2.2.2.1.getD d.2.2.2.2.2.2.2.2.2.2.2.2.2.1.toNat (0 : Int)) - (1 : Int))), (4 : Int), ())).bind fun (r8 : (T_api_Ink × Unit) × Unit) =>
  J1 (r8.1.1.1, r8.1.1.2.1, d.2.2.1, d.2.2.2.1, d.2.2.2.2.1, d.2.2.2.2.2.1, d.2.2.2.2.2.2.1, d.2.2.2.2.2.2.2.1, d.2.2.2.2.2.2.2.2.1, d.2.2.2.2.2.2.2.2.2.1, d.2.2.2.2.2.2.2.2.2.2.1, d.2.2.2.2.2.2.2.2.2.2.2.1, d.2.2.2.2.2.2.2.2.2.2.2.2.1, (IntKind.i64.wrap (d.2.2.2.2.2.2.2.2.2.2.2.2.2.1 + (1 : Int))), ()) else none
  else
  (P_templ_writer_number (((d.1, d.2.1, ()), ()), (0 : Int), (1 : Int), ())).bind fun (r9 : (T_api_Ink × Unit) × Unit) =>
  J0 (r9.1.1.1, r9.1.1.2.1, d.2.2.1, d.2.2.2.1, d.2.2.2.2.1, d.2.2.2.2.2.1, d.2.2.2.2.2.2.1, d.2.2.2.2.2.2.2.1, d.2.2.2.2.2.2.2.2.1, d.2.2.2.2.2.2.2.2.2.1, (IntKind.i64.wrap (d.2.2.2.2.2.2.2.2.2.2.1 + (1 : Int))), ())
abbrev D_templ_writer_write_41 : Type := (List (Int)) × Int × Int × Int × Int × (List (Int)) × (List (T_api_Template)) × (List (T_api_Size)) × (List (T_api_Template)) × Int × Int × (List (Int)) × Int × Int × Unit
noncomputable def L_templ_writer_write_41 (n : Nat) (J0 : (List (Int)) × Int × Int × Int × Int × (List (Int)) × (List (T_api_Template)) × (List (T_api_Size)) × (List (T_api_Template)) × Int × Int × Unit → Option ((T_api_Ink × Unit) × Unit)) (J1 : D_templ_writer_write_41 → Option ((T_api_Ink × Unit) × Unit)) (d : D_templ_writer_write_41) : Option ((T_api_Ink × Unit) × Unit) :=
  if (decide (d.2.2.2.2.2.2.2.2.2.2.2.2.2.1 < d.2.2.2.2.2.2.2.2.2.2.2.2.1)) then
  if decide (0 ≤ d.2.2.2.2.2.2.2.2.2.2.2.2.2.1 ∧ d.2.2.2.2.2.2.2.2.2.2.2.2.2.1 < (d.2.2.2.2.2.2.2.2.2.2.2.1.length : Int)) then
  (P_templ_writer_number (((d.1, d.2.1, ()), ()), (d.2.2.2.2.2.2.2.2.2.2.2.1.getD d.2.2.2.2.2.2.2.2.2.2.2.2.2.1.toNat (0 : Int)), (4 : Int), ())).bind fun (r12 : (T_api_Ink × Unit) × Unit) =>
  J1 (r12.1.1.1, r12.1.1.2.1, d.2.2.1, d.2.2.2.1, d.2.2.2.2.1, d.2.2.2.2.2.1, d.2.2.2.2.2.2.1, d.2.2.2.2.2.2.2.1, d.2.2.2.2.2.2.2.2.1, d.2.2.2.2.2.2.2.2.2.1, d.2.2.2.2.2.2.2.2.2.2.1, d.2.2.2.2.2.2.2.2.2.2.2.1, d.2.2.2.2.2.2.2.2.2.2.2.2.1, (IntKind.i64.wrap (d.2.2.2.2.2.2.2.2.2.2.2.2.2.1 + (1 : Int))), ()) else none
  else
  J0 (d.1, d.2.1, d.2.2.1, d.2.2.2.1, d.2.2.2.2.1, d.2.2.2.2.2.1, d.2.2.2.2.2.2.1, d.2.2.2.2.2.2.2.1, d.2.2.2.2.2.2.2.2.1, d.2.2.2.2.2.2.2.2.2.1, (IntKind.i64.wrap (d.2.2.2.2.2.2.2.2.2.2.1 + (1 : Int))), ())
abbrev D_templ_writer_write_50 : Type := (List (Int)) × Int × (List (T_api_Size)) × Int × Int × Unit
noncomputable def L_templ_writer_write_50 (n : Nat) (J0 : D_templ_writer_write_50 → Option ((T_api_Ink × Unit) × Unit)) (d : D_templ_writer_write_50) : Option ((T_api_Ink × Unit) × Unit) :=
  if (decide (d.2.2.2.2.1 < d.2.2.2.1)) then
  if decide (0 ≤ d.2.2.2.2.1 ∧ d.2.2.2.2.1 < (d.2.2.1.length : Int)) then
  (P_templ_writer_number (((d.1, d.2.1, ()), ()), (IntKind.i64.wrap ((d.2.2.1.getD d.2.2.2.2.1.toNat ((0 : Int), (0 : Int), ())).1 - (1 : Int))), (16 : Int), ())).bind fun (r15 : (T_api_Ink × Unit) × Unit) =>
  (P_templ_writer_number (r15.1, (IntKind.i64.wrap ((d.2.2.1.getD d.2.2.2.2.1.toNat ((0 : Int), (0 : Int), ())).2.1 - (1 : Int))), (16 : Int), ())).bind fun (r16 : (T_api_Ink × Unit) × Unit) =>
  J0 (r16.1.1.1, r16.1.1.2.1, d.2.2.1, d.2.2.2.1, (IntKind.i64.wrap (d.2.2.2.2.1 + (1 : Int))), ()) else none
  else
  some (((d.1, d.2.1, ()), ()), ())
abbrev D_templ_writer_write_38 : Type := (List (Int)) × Int × Int × Int × Int × (List (Int)) × (List (T_api_Template)) × (List (T_api_Size)) × (List (T_api_Template)) × Int × Int × Unit
noncomputable def L_templ_writer_write_38 (n : Nat) (J0 : D_templ_writer_write_38 → Option ((T_api_Ink × Unit) × Unit)) (d : D_templ_writer_write_38) : Option ((T_api_Ink × Unit) × Unit) :=
  if (decide (d.2.2.2.2.2.2.2.2.2.2.1 < d.2.2.2.2.2.2.2.2.2.1)) then
  if decide (0 ≤ d.2.2.2.2.2.2.2.2.2.2.1 ∧ d.2.2.2.2.2.2.2.2.2.2.1 < (d.2.2.2.2.2.2.2.2.1.length : Int)) then
  iter (L_templ_writer_write_41 n J0) n (d.1, d.2.1, d.2.2.1, d.2.2.2.1, d.2.2.2.2.1, d.2.2.2.2.2.1, d.2.2.2.2.2.2.1, d.2.2.2.2.2.2.2.1, d.2.2.2.2.2.2.2.2.1, d.2.2.2.2.2.2.2.2.2.1, d.2.2.2.2.2.2.2.2.2.2.1, (d.2.2.2.2.2.2.2.2.1.getD d.2.2.2.2.2.2.2.2.2.2.1.toNat ((0 : Int), (0 : Int), [], [], [], ())).2.2.2.2.1, (((d.2.2.2.2.2.2.2.2.1.getD d.2.2.2.2.2.2.2.2.2.2.1.toNat ((0 : Int), (0 : Int), [], [], [], ())).2.2.2.2.1).length : Int), (0 : Int), ()) else none
  else
  if ((d.2.2.2.2.2.2.2.1.length : Int) == (0 : Int)) then
  (P_templ_writer_number (((d.1, d.2.1, ()), ()), (0 : Int), (1 : Int), ())).bind fun (r13 : (T_api_Ink × Unit) × Unit) =>
  some (r13.1, ())
  else
  (P_templ_writer_number (((d.1, d.2.1, ()), ()), (1 : Int), (1 : Int), ())).bind fun (r14 : (T_api_Ink × Unit) × Unit) =>
  iter (L_templ_writer_write_50 n) n (r14.1.1.1, r14.1.1.2.1, d.2.2.2.2.2.2.2.1, (d.2.2.2.2.2.2.2.1.length : Int), (0 : Int), ())
abbrev D_templ_writer_write_33 : Type := (List (Int)) × Int × Int × Int × Int × (List (Int)) × (List (T_api_Template)) × (List (T_api_Size)) × (List (Int)) × Int × Int × Unit
noncomputable def L_templ_writer_write_33 (n : Nat) (J0 : D_templ_writer_write_33 → Option ((T_api_Ink × Unit) × Unit)) (d : D_templ_writer_write_33) : Option ((T_api_Ink × Unit) × Unit) :=
  if (decide (d.2.2.2.2.2.2.2.2.2.2.1 < d.2.2.2.2.2.2.2.2.2.1)) then
  if decide (0 ≤ d.2.2.2.2.2.2.2.2.2.2.1 ∧ d.2.2.2.2.2.2.2.2.2.2.1 < (d.2.2.2.2.2.2.2.2.1.length : Int)) then
  (P_templ_writer_ranged (((d.1, d.2.1, ()), ()), (d.2.2.2.2.2.2.2.2.1.getD d.2.2.2.2.2.2.2.2.2.2.1.toNat (0 : Int)), d.2.2.2.2.1, ())).bind fun (r11 : (T_api_Ink × Unit) × Unit) =>
  J0 (r11.1.1.1, r11.1.1.2.1, d.2.2.1, d.2.2.2.1, d.2.2.2.2.1, d.2.2.2.2.2.1, d.2.2.2.2.2.2.1, d.2.2.2.2.2.2.2.1, d.2.2.2.2.2.2.2.2.1, d.2.2.2.2.2.2.2.2.2.1, (IntKind.i64.wrap (d.2.2.2.2.2.2.2.2.2.2.1 + (1 : Int))), ()) else none
  else
  iter (L_templ_writer_write_38 n) n (d.1, d.2.1, d.2.2.1, d.2.2.2.1, d.2.2.2.2.1, d.2.2.2.2.2.1, d.2.2.2.2.2.2.1, d.2.2.2.2.2.2.2.1, d.2.2.2.2.2.2.1, (d.2.2.2.2.2.2.1.length : Int), (0 : Int), ())
abbrev D_templ_writer_write_21 : Type := (List (Int)) × Int × Int × Int × Int × (List (Int)) × (List (T_api_Template)) × (List (T_api_Size)) × (List (T_api_Template)) × Int × Int × Unit
noncomputable def L_templ_writer_write_21 (n : Nat) (J0 : D_templ_writer_write_21 → Option ((T_api_Ink × Unit) × Unit)) (d : D_templ_writer_write_21) : Option ((T_api_Ink × Unit) × Unit) :=
  if (decide (d.2.2.2.2.2.2.2.2.2.2.1 < d.2.2.2.2.2.2.2.2.2.1)) then
  if decide (0 ≤ d.2.2.2.2.2.2.2.2.2.2.1 ∧ d.2.2.2.2.2.2.2.2.2.2.1 < (d.2.2.2.2.2.2.2.2.1.length : Int)) then
  iter (L_templ_writer_write_24 n J0) n (d.1, d.2.1, d.2.2.1, d.2.2.2.1, d.2.2.2.2.1, d.2.2.2.2.2.1, d.2.2.2.2.2.2.1, d.2.2.2.2.2.2.2.1, d.2.2.2.2.2.2.2.2.1, d.2.2.2.2.2.2.2.2.2.1, d.2.2.2.2.2.2.2.2.2.2.1, (d.2.2.2.2.2.2.2.2.1.getD d.2.2.2.2.2.2.2.2.2.2.1.toNat ((0 : Int), (0 : Int), [], [], [], ())).2.2.2.1, (((d.2.2.2.2.2.2.2.2.1.getD d.2.2.2.2.2.2.2.2.2.2.1.toNat ((0 : Int), (0 : Int), [], [], [], ())).2.2.2.1).length : Int), (0 : Int), ()) else none
  else
  (P_templ_writer_ranged (((d.1, d.2.1, ()), ()), d.2.2.2.2.1, (IntKind.i64.wrap (d.2.2.2.1 + (1 : Int))), ())).bind fun (r10 : (T_api_Ink × Unit) × Unit) =>
  iter (L_templ_writer_write_33 n) n (r10.1.1.1, r10.1.1.2.1, d.2.2.1, d.2.2.2.1, d.2.2.2.2.1, d.2.2.2.2.2.1, d.2.2.2.2.2.2.1, d.2.2.2.2.2.2.2.1, d.2.2.2.2.2.1, (d.2.2.2.2.2.1.length : Int), (0 : Int), ())
abbrev D_templ_writer_write_12 : Type := (List (Int)) × Int × Int × Int × Int × (List (Int)) × (List (T_api_Template)) × (List (T_api_Size)) × (List (T_api_Template)) × Int × Int × Unit
noncomputable def L_templ_writer_write_12 (n : Nat) (J0 : D_templ_writer_write_12 → Option ((T_api_Ink × Unit) × Unit)) (d : D_templ_writer_write_12) : Option ((T_api_Ink × Unit) × Unit) :=
  if (decide (d.2.2.2.2.2.2.2.2.2.2.1 < d.2.2.2.2.2.2.2.2.2.1)) then
  if decide (0 ≤ d.2.2.2.2.2.2.2.2.2.2.1 ∧ d.2.2.2.2.2.2.2.2.2.2.1 < (d.2.2.2.2.2.2.2.2.1.length : Int)) then
  iter (L_templ_writer_write_15 n J0) n (d.1, d.2.1, d.2.2.1, d.2.2.2.1, d.2.2.2.2.1, d.2.2.2.2.2.1, d.2.2.2.2.2.2.1, d.2.2.2.2.2.2.2.1, d.2.2.2.2.2.2.2.2.1, d.2.2.2.2.2.2.2.2.2.1, d.2.2.2.2.2.2.2.2.2.2.1, (d.2.2.2.2.2.2.2.2.1.getD d.2.2.2.2.2.2.2.2.2.2.1.toNat ((0 : Int), (0 : Int), [], [], [], ())).2.2.1, (((d.2.2.2.2.2.2.2.2.1.getD d.2.2.2.2.2.2.2.2.2.2.1.toNat ((0 : Int), (0 : Int), [], [], [], ())).2.2.1).length : Int), (0 : Int), ()) else none
  else
  iter (L_templ_writer_write_21 n) n (d.1, d.2.1, d.2.2.1, d.2.2.2.1, d.2.2.2.2.1, d.2.2.2.2.2.1, d.2.2.2.2.2.2.1, d.2.2.2.2.2.2.2.1, d.2.2.2.2.2.2.1, (d.2.2.2.2.2.2.1.length : Int), (0 : Int), ())
abbrev D_templ_writer_write_4 : Type := (List (Int)) × Int × Int × Int × Int × (List (Int)) × (List (T_api_Template)) × (List (T_api_Size)) × Int × Int × Unit
noncomputable def L_templ_writer_write_4 (n : Nat) (J0 : D_templ_writer_write_4 → Option ((T_api_Ink × Unit) × Unit)) (d : D_templ_writer_write_4) : Option ((T_api_Ink × Unit) × Unit) :=
  if (decide (d.2.2.2.2.2.2.2.2.2.1 < d.2.2.2.2.2.2.2.2.1)) then
  (if (decide ((IntKind.i64.wrap (d.2.2.2.2.2.2.2.2.2.1 + (1 : Int))) < (d.2.2.2.2.2.2.1.length : Int))) then
  if decide (0 ≤ d.2.2.2.2.2.2.2.2.2.1 ∧ d.2.2.2.2.2.2.2.2.2.1 < (d.2.2.2.2.2.2.1.length : Int)) then
  if decide (0 ≤ (IntKind.i64.wrap (d.2.2.2.2.2.2.2.2.2.1 + (1 : Int))) ∧ (IntKind.i64.wrap (d.2.2.2.2.2.2.2.2.2.1 + (1 : Int))) < (d.2.2.2.2.2.2.1.length : Int)) then
  (P_templ_follow ((d.2.2.2.2.2.2.1.getD d.2.2.2.2.2.2.2.2.2.1.toNat ((0 : Int), (0 : Int), [], [], [], ())), (d.2.2.2.2.2.2.1.getD (IntKind.i64.wrap (d.2.2.2.2.2.2.2.2.2.1 + (1 : Int))).toNat ((0 : Int), (0 : Int), [], [], [], ())), ())).bind fun (r4 : Int × Unit) =>
  some (d.1, d.2.1, d.2.2.1, d.2.2.2.1, d.2.2.2.2.1, d.2.2.2.2.2.1, d.2.2.2.2.2.2.1, d.2.2.2.2.2.2.2.1, r4.1, d.2.2.2.2.2.2.2.2.1, d.2.2.2.2.2.2.2.2.2.1, ()) else none else none
  else
  some (d.1, d.2.1, d.2.2.1, d.2.2.2.1, d.2.2.2.2.1, d.2.2.2.2.2.1, d.2.2.2.2.2.2.1, d.2.2.2.2.2.2.2.1, (3 : Int), d.2.2.2.2.2.2.2.2.1, d.2.2.2.2.2.2.2.2.2.1, ()) : Option ((List (Int)) × Int × Int × Int × Int × (List (Int)) × (List (T_api_Template)) × (List (T_api_Size)) × Int × Int × Int × Unit)).bind (fun (d3 : (List (Int)) × Int × Int × Int × Int × (List (Int)) × (List (T_api_Template)) × (List (T_api_Size)) × Int × Int × Int × Unit) =>
  (P_templ_writer_number (((d3.1, d3.2.1, ()), ()), d3.2.2.2.2.2.2.2.2.1, (2 : Int), ())).bind fun (r5 : (T_api_Ink × Unit) × Unit) =>
  J0 (r5.1.1.1, r5.1.1.2.1, d3.2.2.1, d3.2.2.2.1, d3.2.2.2.2.1, d3.2.2.2.2.2.1, d3.2.2.2.2.2.2.1, d3.2.2.2.2.2.2.2.1, d3.2.2.2.2.2.2.2.2.2.1, (IntKind.i64.wrap (d3.2.2.2.2.2.2.2.2.2.2.1 + (1 : Int))), ()))
  else
  iter (L_templ_writer_write_12 n) n (d.1, d.2.1, d.2.2.1, d.2.2.2.1, d.2.2.2.2.1, d.2.2.2.2.2.1, d.2.2.2.2.2.2.1, d.2.2.2.2.2.2.2.1, d.2.2.2.2.2.2.1, (d.2.2.2.2.2.2.1.length : Int), (0 : Int), ())
/-- (*templ.writer).write -/
noncomputable def N_templ_writer_write (n : Nat) (d : (T_api_Ink × Unit) × T_api_Structure × Unit) : Option ((T_api_Ink × Unit) × Unit) :=
  (P_templ_writer_number (d.1, d.2.1.1, (6 : Int), ())).bind fun (r1 : (T_api_Ink × Unit) × Unit) =>
  (P_templ_writer_number (r1.1, (IntKind.i64.wrap (d.2.1.2.1 - (1 : Int))), (5 : Int), ())).bind fun (r2 : (T_api_Ink × Unit) × Unit) =>
  iter (L_templ_writer_write_4 n) n (r2.1.1.1, r2.1.1.2.1, d.2.1.1, d.2.1.2.1, d.2.1.2.2.1, d.2.1.2.2.2.1, d.2.1.2.2.2.2.1, d.2.1.2.2.2.2.2.1, (d.2.1.2.2.2.2.1.length : Int), (0 : Int), ())
theorem e_templ_writer_write (n d) : fnK tab G_templ_writer_write an_templ_writer_write n Try.f69 (bodyOf Try.f69) in_templ_writer_write out_templ_writer_write d = N_templ_writer_write n d := by kernel_rfl
theorem E_templ_writer_write (d) : P_templ_writer_write d = N_templ_writer_write 1000000 d := e_templ_writer_write _ d
abbrev D_templ_join_5 : Type := (List (Int)) × Int × (List (Int)) × Int × (List (Int)) × Int × (List (Int)) × Int × Int × Int × Unit
noncomputable def L_templ_join_5 (n : Nat) (J0 : D_templ_join_5 → Option (T_api_Ink × Unit)) (d : D_templ_join_5) : Option (T_api_Ink × Unit) :=
  if (decide (d.2.2.2.2.2.2.2.2.2.1 < d.2.2.2.2.2.2.2.2.1)) then
  if decide ((8 : Int) ≠ 0) then
  if decide (0 ≤ (IntKind.i64.wrap (d.2.2.2.2.2.2.2.2.2.1.tdiv (8 : Int))) ∧ (IntKind.i64.wrap (d.2.2.2.2.2.2.2.2.2.1.tdiv (8 : Int))) < (d.2.2.1.length : Int)) then
  if decide ((8 : Int) ≠ 0) then
  if decide (0 ≤ (IntKind.i64.wrap ((7 : Int) - (d.2.2.2.2.2.2.2.2.2.1.tmod (8 : Int))))) then
  if decide ((8 : Int) ≠ 0) then
  if decide (0 ≤ (IntKind.i64.wrap ((IntKind.i64.wrap (d.2.1 + d.2.2.2.2.2.2.2.2.2.1)).tdiv (8 : Int))) ∧ (IntKind.i64.wrap ((IntKind.i64.wrap (d.2.1 + d.2.2.2.2.2.2.2.2.2.1)).tdiv (8 : Int))) < (d.2.2.2.2.2.2.1.length : Int)) then
  if decide ((8 : Int) ≠ 0) then
  if decide (0 ≤ (IntKind.i64.wrap ((7 : Int) - ((IntKind.i64.wrap (d.2.1 + d.2.2.2.2.2.2.2.2.2.1)).tmod (8 : Int))))) then
  if decide (0 ≤ (IntKind.i64.wrap ((IntKind.i64.wrap (d.2.1 + d.2.2.2.2.2.2.2.2.2.1)).tdiv (8 : Int))) ∧ (IntKind.i64.wrap ((IntKind.i64.wrap (d.2.1 + d.2.2.2.2.2.2.2.2.2.1)).tdiv (8 : Int))) < (d.2.2.2.2.2.2.1.length : Int)) then
  J0 (d.1, d.2.1, d.2.2.1, d.2.2.2.1, d.2.2.2.2.1, d.2.2.2.2.2.1, (d.2.2.2.2.2.2.1.set (IntKind.i64.wrap ((IntKind.i64.wrap (d.2.1 + d.2.2.2.2.2.2.2.2.2.1)).tdiv (8 : Int))).toNat (IntKind.u8.wrap (BitVec.ofInt IntKind.u8.bits (d.2.2.2.2.2.2.1.getD (IntKind.i64.wrap ((IntKind.i64.wrap (d.2.1 + d.2.2.2.2.2.2.2.2.2.1)).tdiv (8 : Int))).toNat (0 : Int)) ||| BitVec.ofInt IntKind.u8.bits (IntKind.u8.wrap ((IntKind.u8.wrap (BitVec.ofInt IntKind.u8.bits ((d.2.2.1.getD (IntKind.i64.wrap (d.2.2.2.2.2.2.2.2.2.1.tdiv (8 : Int))).toNat (0 : Int)).fdiv (2 ^ (min (IntKind.i64.wrap ((7 : Int) - (d.2.2.2.2.2.2.2.2.2.1.tmod (8 : Int)))).toNat IntKind.u8.bits))) &&& BitVec.ofInt IntKind.u8.bits (1 : Int)).toNat) * 2 ^ (min (IntKind.i64.wrap ((7 : Int) - ((IntKind.i64.wrap (d.2.1 + d.2.2.2.2.2.2.2.2.2.1)).tmod (8 : Int)))).toNat IntKind.u8.bits)))).toNat)), d.2.2.2.2.2.2.2.1, d.2.2.2.2.2.2.2.2.1, (IntKind.i64.wrap (d.2.2.2.2.2.2.2.2.2.1 + (1 : Int))), ()) else none else none else none else none else none else none else none else none else none
  else
  some ((d.2.2.2.2.2.2.1, d.2.2.2.2.2.2.2.1, ()), ())
/-- templ.join -/
noncomputable def N_templ_join (n : Nat) (d : T_api_Ink × T_api_Ink × Unit) : Option (T_api_Ink × Unit) :=
  if decide ((8 : Int) ≠ 0) then
  if decide (0 ≤ (IntKind.i64.wrap ((IntKind.i64.wrap ((IntKind.i64.wrap (d.1.2.1 + d.2.1.2.1)) + (7 : Int))).tdiv (8 : Int))) ∧ (IntKind.i64.wrap ((IntKind.i64.wrap ((IntKind.i64.wrap (d.1.2.1 + d.2.1.2.1)) + (7 : Int))).tdiv (8 : Int))) ≤ (IntKind.i64.wrap ((IntKind.i64.wrap ((IntKind.i64.wrap (d.1.2.1 + d.2.1.2.1)) + (7 : Int))).tdiv (8 : Int))) ∧ (IntKind.i64.wrap ((IntKind.i64.wrap ((IntKind.i64.wrap (d.1.2.1 + d.2.1.2.1)) + (7 : Int))).tdiv (8 : Int))) * ((1 : Nat) : Int) ≤ 140737488355328) then
  iter (L_templ_join_5 n) n (d.1.1, d.1.2.1, d.2.1.1, d.2.1.2.1, ([] : List (Int)), (0 : Int), (d.1.1.take (List.replicate (IntKind.i64.wrap ((IntKind.i64.wrap ((IntKind.i64.wrap (d.1.2.1 + d.2.1.2.1)) + (7 : Int))).tdiv (8 : Int))).toNat (0 : Int)).length ++ (List.replicate (IntKind.i64.wrap ((IntKind.i64.wrap ((IntKind.i64.wrap (d.1.2.1 + d.2.1.2.1)) + (7 : Int))).tdiv (8 : Int))).toNat (0 : Int)).drop d.1.1.length), (IntKind.i64.wrap (d.1.2.1 + d.2.1.2.1)), d.2.1.2.1, (0 : Int), ()) else none else none
theorem e_templ_join (n d) : fnK tab G_templ_join an_templ_join n Try.f70 (bodyOf Try.f70) in_templ_join out_templ_join d = N_templ_join n d := by kernel_rfl
theorem E_templ_join (d) : P_templ_join d = N_templ_join 1000000 d := e_templ_join _ d
/-- templ.Put -/
noncomputable def N_templ_Put (n : Nat) (d : T_api_Ink × T_api_Structure × Unit) : Option (T_api_Ink × Int × Unit) :=
  (P_bits_Right (d.1, ())).bind fun (r1 : Bool × Unit) =>
  (if (!(!r1.1)) then (P_templ_Right (d.2.1, ())) else some (false, ()) : Option (Bool × Unit)).bind fun (r2 : Bool × Unit) =>
  if (if (!r1.1) then true else (!r2.1)) then
  some (d.1, (1 : Int), ())
  else
  (P_templ_writer_write (((([] : List (Int)), (0 : Int), ()), ()), d.2.1, ())).bind fun (r3 : (T_api_Ink × Unit) × Unit) =>
  (P_templ_join (d.1, r3.1.1, ())).bind fun (r4 : T_api_Ink × Unit) =>
  some (r4.1, (0 : Int), ())
theorem e_templ_Put (n d) : fnK tab G_templ_Put an_templ_Put n Try.f33 (bodyOf Try.f33) in_templ_Put out_templ_Put d = N_templ_Put n d := by kernel_rfl
theorem E_templ_Put (d) : P_templ_Put d = N_templ_Put 1000000 d := e_templ_Put _ d
abbrev D_av1_writer_diff_1 : Type := (List (Int)) × Int × Int × Int × Unit
noncomputable def L_av1_writer_diff_1 (n : Nat) (J0 : D_av1_writer_diff_1 → Option ((T_api_Ink × Unit) × Unit)) (d : D_av1_writer_diff_1) : Option ((T_api_Ink × Unit) × Unit) :=
  if decide (0 ≤ (IntKind.i64.wrap ((4 : Int) * d.2.2.2.1))) then
  if (decide (((IntKind.i64.wrap (d.2.2.1 - (1 : Int))).fdiv (2 ^ (min (IntKind.i64.wrap ((4 : Int) * d.2.2.2.1)).toNat IntKind.i64.bits))) > (0 : Int))) then
  J0 (d.1, d.2.1, d.2.2.1, (IntKind.i64.wrap (d.2.2.2.1 + (1 : Int))), ())
  else
  (P_av1_writer_number (((d.1, d.2.1, ()), ()), (IntKind.u64.wrap d.2.2.2.1), (2 : Int), ())).bind fun (r1 : (T_api_Ink × Unit) × Unit) =>
  (P_av1_writer_number (r1.1, (IntKind.u64.wrap (IntKind.i64.wrap (d.2.2.1 - (1 : Int)))), (IntKind.i64.wrap ((4 : Int) * d.2.2.2.1)), ())).bind fun (r2 : (T_api_Ink × Unit) × Unit) =>
  some (r2.1, ()) else none
/-- (*av1.writer).diff -/
noncomputable def N_av1_writer_diff (n : Nat) (d : (T_api_Ink × Unit) × Int × Unit) : Option ((T_api_Ink × Unit) × Unit) :=
  iter (L_av1_writer_diff_1 n) n (d.1.1.1, d.1.1.2.1, d.2.1, (1 : Int), ())
theorem e_av1_writer_diff (n d) : fnK tab G_av1_writer_diff an_av1_writer_diff n Try.f34 (bodyOf Try.f34) in_av1_writer_diff out_av1_writer_diff d = N_av1_writer_diff n d := by kernel_rfl
theorem E_av1_writer_diff (d) : P_av1_writer_diff d = N_av1_writer_diff 1000000 d := e_av1_writer_diff _ d
abbrev D_av1_Write_33 : Type := (List (Int)) × Int × (List (Int)) × Int × Int × Unit
noncomputable def L_av1_Write_33 (n : Nat) (J0 : D_av1_Write_33 → Option (T_api_Ink)) (d : D_av1_Write_33) : Option (T_api_Ink) :=
  if (decide (d.2.2.2.2.1 < d.2.2.2.1)) then
  if decide (0 ≤ d.2.2.2.2.1 ∧ d.2.2.2.2.1 < (d.2.2.1.length : Int)) then
  (P_av1_writer_number (((d.1, d.2.1, ()), ()), (IntKind.u64.wrap (d.2.2.1.getD d.2.2.2.2.1.toNat (0 : Int))), (8 : Int), ())).bind fun (r16 : (T_api_Ink × Unit) × Unit) =>
  J0 (r16.1.1.1, r16.1.1.2.1, d.2.2.1, d.2.2.2.1, (IntKind.i64.wrap (d.2.2.2.2.1 + (1 : Int))), ()) else none
  else
  some (d.1, (0 : Int), ())
abbrev D_av1_Write_26 : Type := Bool × Bool × Int × Int × Bool × Int × Int × Int × (List (Int)) × (List (T_api_Template)) × (List (T_api_Size)) × Bool × Int × Bool × (List (Int)) × Bool × (List (Int)) × Bool × (List (Int)) × (List (Int)) × Int × (List (Int)) × Int × Int × Unit
noncomputable def L_av1_Write_26 (n : Nat) (J0 : D_av1_Write_26 → Option (T_api_Ink)) (d : D_av1_Write_26) : Option (T_api_Ink) :=
  if (decide (d.2.2.2.2.2.2.2.2.2.2.2.2.2.2.2.2.2.2.2.2.2.2.2.1 < d.2.2.2.2.2.2.2.2.2.2.2.2.2.2.2.2.2.2.2.2.2.2.1)) then
  if decide (0 ≤ d.2.2.2.2.2.2.2.2.2.2.2.2.2.2.2.2.2.2.2.2.2.2.2.1 ∧ d.2.2.2.2.2.2.2.2.2.2.2.2.2.2.2.2.2.2.2.2.2.2.2.1 < (d.2.2.2.2.2.2.2.2.2.2.2.2.2.2.2.2.2.2.2.2.2.1.length : Int)) then
  (P_av1_writer_diff (((d.2.2.2.2.2.2.2.2.2.2.2.2.2.2.2.2.2.2.2.1, d.2.2.2.2.2.2.2.2.2.2.2.2.2.2.2.2.2.2.2.2.1, ()), ()), (d.2.2.2.2.2.2.2.2.2.2.2.2.2.2.2.2.2.2.2.2.2.1.getD d.2.2.2.2.2.2.2.2.2.2.2.2.2.2.2.2.2.2.2.2.2.2.2.1.toNat (0 : Int)), ())).bind fun (r13 : (T_api_Ink × Unit) × Unit) =>
  J0 (d.1, d.2.1, d.2.2.1, d.2.2.2.1, d.2.2.2.2.1, d.2.2.2.2.2.1, d.2.2.2.2.2.2.1, d.2.2.2.2.2.2.2.1, d.2.2.2.2.2.2.2.2.1, d.2.2.2.2.2.2.2.2.2.1, d.2.2.2.2.2.2.2.2.2.2.1, d.2.2.2.2.2.2.2.2.2.2.2.1, d.2.2.2.2.2.2.2.2.2.2.2.2.1, d.2.2.2.2.2.2.2.2.2.2.2.2.2.1, d.2.2.2.2.2.2.2.2.2.2.2.2.2.2.1, d.2.2.2.2.2.2.2.2.2.2.2.2.2.2.2.1, d.2.2.2.2.2.2.2.2.2.2.2.2.2.2.2.2.1, d.2.2.2.2.2.2.2.2.2.2.2.2.2.2.2.2.2.1, d.2.2.2.2.2.2.2.2.2.2.2.2.2.2.2.2.2.2.1, r13.1.1.1, r13.1.1.2.1, d.2.2.2.2.2.2.2.2.2.2.2.2.2.2.2.2.2.2.2.2.2.1, d.2.2.2.2.2.2.2.2.2.2.2.2.2.2.2.2.2.2.2.2.2.2.1, (IntKind.i64.wrap (d.2.2.2.2.2.2.2.2.2.2.2.2.2.2.2.2.2.2.2.2.2.2.2.1 + (1 : Int))), ()) else none
  else
  (if d.2.2.2.2.2.2.2.2.2.2.2.2.2.2.2.1 then
  (P_av1_writer_number (((d.2.2.2.2.2.2.2.2.2.2.2.2.2.2.2.2.2.2.2.1, d.2.2.2.2.2.2.2.2.2.2.2.2.2.2.2.2.2.2.2.2.1, ()), ()), (0 : Int), (2 : Int), ())).bind fun (r15 : (T_api_Ink × Unit) × Unit) =>
  some (d.1, d.2.1, d.2.2.1, d.2.2.2.1, d.2.2.2.2.1, d.2.2.2.2.2.1, d.2.2.2.2.2.2.1, d.2.2.2.2.2.2.2.1, d.2.2.2.2.2.2.2.2.1, d.2.2.2.2.2.2.2.2.2.1, d.2.2.2.2.2.2.2.2.2.2.1, d.2.2.2.2.2.2.2.2.2.2.2.1, d.2.2.2.2.2.2.2.2.2.2.2.2.1, d.2.2.2.2.2.2.2.2.2.2.2.2.2.1, d.2.2.2.2.2.2.2.2.2.2.2.2.2.2.1, d.2.2.2.2.2.2.2.2.2.2.2.2.2.2.2.1, d.2.2.2.2.2.2.2.2.2.2.2.2.2.2.2.2.1, d.2.2.2.2.2.2.2.2.2.2.2.2.2.2.2.2.2.1, d.2.2.2.2.2.2.2.2.2.2.2.2.2.2.2.2.2.2.1, r15.1.1.1, r15.1.1.2.1, ())
  else
  some (d.1, d.2.1, d.2.2.1, d.2.2.2.1, d.2.2.2.2.1, d.2.2.2.2.2.1, d.2.2.2.2.2.2.1, d.2.2.2.2.2.2.2.1, d.2.2.2.2.2.2.2.2.1, d.2.2.2.2.2.2.2.2.2.1, d.2.2.2.2.2.2.2.2.2.2.1, d.2.2.2.2.2.2.2.2.2.2.2.1, d.2.2.2.2.2.2.2.2.2.2.2.2.1, d.2.2.2.2.2.2.2.2.2.2.2.2.2.1, d.2.2.2.2.2.2.2.2.2.2.2.2.2.2.1, d.2.2.2.2.2.2.2.2.2.2.2.2.2.2.2.1, d.2.2.2.2.2.2.2.2.2.2.2.2.2.2.2.2.1, d.2.2.2.2.2.2.2.2.2.2.2.2.2.2.2.2.2.1, d.2.2.2.2.2.2.2.2.2.2.2.2.2.2.2.2.2.2.1, d.2.2.2.2.2.2.2.2.2.2.2.2.2.2.2.2.2.2.2.1, d.2.2.2.2.2.2.2.2.2.2.2.2.2.2.2.2.2.2.2.2.1, ()) : Option (Bool × Bool × Int × Int × Bool × Int × Int × Int × (List (Int)) × (List (T_api_Template)) × (List (T_api_Size)) × Bool × Int × Bool × (List (Int)) × Bool × (List (Int)) × Bool × (List (Int)) × (List (Int)) × Int × Unit)).bind (fun (d14 : Bool × Bool × Int × Int × Bool × Int × Int × Int × (List (Int)) × (List (T_api_Template)) × (List (T_api_Size)) × Bool × Int × Bool × (List (Int)) × Bool × (List (Int)) × Bool × (List (Int)) × (List (Int)) × Int × Unit) =>
  iter (L_av1_Write_33 n) n (d14.2.2.2.2.2.2.2.2.2.2.2.2.2.2.2.2.2.2.2.1, d14.2.2.2.2.2.2.2.2.2.2.2.2.2.2.2.2.2.2.2.2.1, d14.2.2.2.2.2.2.2.2.2.2.2.2.2.2.2.2.2.2.1, (d14.2.2.2.2.2.2.2.2.2.2.2.2.2.2.2.2.2.2.1.length : Int), (0 : Int), ()))
abbrev D_av1_Write_21 : Type := Bool × Bool × Int × Int × Bool × Int × Int × Int × (List (Int)) × (List (T_api_Template)) × (List (T_api_Size)) × Bool × Int × Bool × (List (Int)) × Bool × (List (Int)) × Bool × (List (Int)) × (List (Int)) × Int × (List (Int)) × Int × Int × Unit
noncomputable def L_av1_Write_21 (n : Nat) (J0 : D_av1_Write_21 → Option (T_api_Ink)) (d : D_av1_Write_21) : Option (T_api_Ink) :=
  if (decide (d.2.2.2.2.2.2.2.2.2.2.2.2.2.2.2.2.2.2.2.2.2.2.2.1 < d.2.2.2.2.2.2.2.2.2.2.2.2.2.2.2.2.2.2.2.2.2.2.1)) then
  if decide (0 ≤ d.2.2.2.2.2.2.2.2.2.2.2.2.2.2.2.2.2.2.2.2.2.2.2.1 ∧ d.2.2.2.2.2.2.2.2.2.2.2.2.2.2.2.2.2.2.2.2.2.2.2.1 < (d.2.2.2.2.2.2.2.2.2.2.2.2.2.2.2.2.2.2.2.2.2.1.length : Int)) then
  (P_av1_writer_number (((d.2.2.2.2.2.2.2.2.2.2.2.2.2.2.2.2.2.2.2.1, d.2.2.2.2.2.2.2.2.2.2.2.2.2.2.2.2.2.2.2.2.1, ()), ()), (IntKind.u64.wrap (d.2.2.2.2.2.2.2.2.2.2.2.2.2.2.2.2.2.2.2.2.2.1.getD d.2.2.2.2.2.2.2.2.2.2.2.2.2.2.2.2.2.2.2.2.2.2.2.1.toNat (0 : Int))), (2 : Int), ())).bind fun (r12 : (T_api_Ink × Unit) × Unit) =>
  J0 (d.1, d.2.1, d.2.2.1, d.2.2.2.1, d.2.2.2.2.1, d.2.2.2.2.2.1, d.2.2.2.2.2.2.1, d.2.2.2.2.2.2.2.1, d.2.2.2.2.2.2.2.2.1, d.2.2.2.2.2.2.2.2.2.1, d.2.2.2.2.2.2.2.2.2.2.1, d.2.2.2.2.2.2.2.2.2.2.2.1, d.2.2.2.2.2.2.2.2.2.2.2.2.1, d.2.2.2.2.2.2.2.2.2.2.2.2.2.1, d.2.2.2.2.2.2.2.2.2.2.2.2.2.2.1, d.2.2.2.2.2.2.2.2.2.2.2.2.2.2.2.1, d.2.2.2.2.2.2.2.2.2.2.2.2.2.2.2.2.1, d.2.2.2.2.2.2.2.2.2.2.2.2.2.2.2.2.2.1, d.2.2.2.2.2.2.2.2.2.2.2.2.2.2.2.2.2.2.1, r12.1.1.1, r12.1.1.2.1, d.2.2.2.2.2.2.2.2.2.2.2.2.2.2.2.2.2.2.2.2.2.1, d.2.2.2.2.2.2.2.2.2.2.2.2.2.2.2.2.2.2.2.2.2.2.1, (IntKind.i64.wrap (d.2.2.2.2.2.2.2.2.2.2.2.2.2.2.2.2.2.2.2.2.2.2.2.1 + (1 : Int))), ()) else none
  else
  iter (L_av1_Write_26 n) n (d.1, d.2.1, d.2.2.1, d.2.2.2.1, d.2.2.2.2.1, d.2.2.2.2.2.1, d.2.2.2.2.2.2.1, d.2.2.2.2.2.2.2.1, d.2.2.2.2.2.2.2.2.1, d.2.2.2.2.2.2.2.2.2.1, d.2.2.2.2.2.2.2.2.2.2.1, d.2.2.2.2.2.2.2.2.2.2.2.1, d.2.2.2.2.2.2.2.2.2.2.2.2.1, d.2.2.2.2.2.2.2.2.2.2.2.2.2.1, d.2.2.2.2.2.2.2.2.2.2.2.2.2.2.1, d.2.2.2.2.2.2.2.2.2.2.2.2.2.2.2.1, d.2.2.2.2.2.2.2.2.2.2.2.2.2.2.2.2.1, d.2.2.2.2.2.2.2.2.2.2.2.2.2.2.2.2.2.1, d.2.2.2.2.2.2.2.2.2.2.2.2.2.2.2.2.2.2.1, d.2.2.2.2.2.2.2.2.2.2.2.2.2.2.2.2.2.2.2.1, d.2.2.2.2.2.2.2.2.2.2.2.2.2.2.2.2.2.2.2.2.1, d.2.2.2.2.2.2.2.2.2.2.2.2.2.2.2.2.1, (d.2.2.2.2.2.2.2.2.2.2.2.2.2.2.2.2.1.length : Int), (0 : Int), ())
abbrev D_av1_Write_12 : Type := Bool × Bool × Int × Int × Bool × Int × Int × Int × (List (Int)) × (List (T_api_Template)) × (List (T_api_Size)) × Bool × Int × Bool × (List (Int)) × Bool × (List (Int)) × Bool × (List (Int)) × Int × Int × Int × (List (Int)) × (List (T_api_Template)) × (List (T_api_Size)) × (List (Int)) × Int × (List (Bool)) × Int × Int × Unit
noncomputable def L_av1_Write_12 (n : Nat) (J0 : D_av1_Write_12 → Option (T_api_Ink)) (d : D_av1_Write_12) : Option (T_api_Ink) :=
  if (decide (d.2.2.2.2.2.2.2.2.2.2.2.2.2.2.2.2.2.2.2.2.2.2.2.2.2.2.2.2.2.1 < d.2.2.2.2.2.2.2.2.2.2.2.2.2.2.2.2.2.2.2.2.2.2.2.2.2.2.2.2.1)) then
  if decide (0 ≤ d.2.2.2.2.2.2.2.2.2.2.2.2.2.2.2.2.2.2.2.2.2.2.2.2.2.2.2.2.2.1 ∧ d.2.2.2.2.2.2.2.2.2.2.2.2.2.2.2.2.2.2.2.2.2.2.2.2.2.2.2.2.2.1 < (d.2.2.2.2.2.2.2.2.2.2.2.2.2.2.2.2.2.2.2.2.2.2.2.2.2.2.2.1.length : Int)) then
  (P_av1_writer_truth (((d.2.2.2.2.2.2.2.2.2.2.2.2.2.2.2.2.2.2.2.2.2.2.2.2.2.1, d.2.2.2.2.2.2.2.2.2.2.2.2.2.2.2.2.2.2.2.2.2.2.2.2.2.2.1, ()), ()), (d.2.2.2.2.2.2.2.2.2.2.2.2.2.2.2.2.2.2.2.2.2.2.2.2.2.2.2.1.getD d.2.2.2.2.2.2.2.2.2.2.2.2.2.2.2.2.2.2.2.2.2.2.2.2.2.2.2.2.2.1.toNat false), ())).bind fun (r7 : (T_api_Ink × Unit) × Unit) =>
  J0 (d.1, d.2.1, d.2.2.1, d.2.2.2.1, d.2.2.2.2.1, d.2.2.2.2.2.1, d.2.2.2.2.2.2.1, d.2.2.2.2.2.2.2.1, d.2.2.2.2.2.2.2.2.1, d.2.2.2.2.2.2.2.2.2.1, d.2.2.2.2.2.2.2.2.2.2.1, d.2.2.2.2.2.2.2.2.2.2.2.1, d.2.2.2.2.2.2.2.2.2.2.2.2.1, d.2.2.2.2.2.2.2.2.2.2.2.2.2.1, d.2.2.2.2.2.2.2.2.2.2.2.2.2.2.1, d.2.2.2.2.2.2.2.2.2.2.2.2.2.2.2.1, d.2.2.2.2.2.2.2.2.2.2.2.2.2.2.2.2.1, d.2.2.2.2.2.2.2.2.2.2.2.2.2.2.2.2.2.1, d.2.2.2.2.2.2.2.2.2.2.2.2.2.2.2.2.2.2.1, d.2.2.2.2.2.2.2.2.2.2.2.2.2.2.2.2.2.2.2.1, d.2.2.2.2.2.2.2.2.2.2.2.2.2.2.2.2.2.2.2.2.1, d.2.2.2.2.2.2.2.2.2.2.2.2.2.2.2.2.2.2.2.2.2.1, d.2.2.2.2.2.2.2.2.2.2.2.2.2.2.2.2.2.2.2.2.2.2.1, d.2.2.2.2.2.2.2.2.2.2.2.2.2.2.2.2.2.2.2.2.2.2.2.1, d.2.2.2.2.2.2.2.2.2.2.2.2.2.2.2.2.2.2.2.2.2.2.2.2.1, r7.1.1.1, r7.1.1.2.1, d.2.2.2.2.2.2.2.2.2.2.2.2.2.2.2.2.2.2.2.2.2.2.2.2.2.2.2.1, d.2.2.2.2.2.2.2.2.2.2.2.2.2.2.2.2.2.2.2.2.2.2.2.2.2.2.2.2.1, (IntKind.i64.wrap (d.2.2.2.2.2.2.2.2.2.2.2.2.2.2.2.2.2.2.2.2.2.2.2.2.2.2.2.2.2.1 + (1 : Int))), ()) else none
  else
  (if d.2.2.2.2.1 then
  (P_templ_Put ((d.2.2.2.2.2.2.2.2.2.2.2.2.2.2.2.2.2.2.2.2.2.2.2.2.2.1, d.2.2.2.2.2.2.2.2.2.2.2.2.2.2.2.2.2.2.2.2.2.2.2.2.2.2.1, ()), (d.2.2.2.2.2.1, d.2.2.2.2.2.2.1, d.2.2.2.2.2.2.2.1, d.2.2.2.2.2.2.2.2.1, d.2.2.2.2.2.2.2.2.2.1, d.2.2.2.2.2.2.2.2.2.2.1, ()), ())).bind fun (r9 : T_api_Ink × Int × Unit) =>
  some (d.1, d.2.1, d.2.2.1, d.2.2.2.1, d.2.2.2.2.1, d.2.2.2.2.2.1, d.2.2.2.2.2.2.1, d.2.2.2.2.2.2.2.1, d.2.2.2.2.2.2.2.2.1, d.2.2.2.2.2.2.2.2.2.1, d.2.2.2.2.2.2.2.2.2.2.1, d.2.2.2.2.2.2.2.2.2.2.2.1, d.2.2.2.2.2.2.2.2.2.2.2.2.1, d.2.2.2.2.2.2.2.2.2.2.2.2.2.1, d.2.2.2.2.2.2.2.2.2.2.2.2.2.2.1, d.2.2.2.2.2.2.2.2.2.2.2.2.2.2.2.1, d.2.2.2.2.2.2.2.2.2.2.2.2.2.2.2.2.1, d.2.2.2.2.2.2.2.2.2.2.2.2.2.2.2.2.2.1, d.2.2.2.2.2.2.2.2.2.2.2.2.2.2.2.2.2.2.1, d.2.2.2.2.2.2.2.2.2.2.2.2.2.2.2.2.2.2.2.1, d.2.2.2.2.2.2.2.2.2.2.2.2.2.2.2.2.2.2.2.2.1, d.2.2.2.2.2.2.2.2.2.2.2.2.2.2.2.2.2.2.2.2.2.1, d.2.2.2.2.2.2.2.2.2.2.2.2.2.2.2.2.2.2.2.2.2.2.1, d.2.2.2.2.2.2.2.2.2.2.2.2.2.2.2.2.2.2.2.2.2.2.2.1, d.2.2.2.2.2.2.2.2.2.2.2.2.2.2.2.2.2.2.2.2.2.2.2.2.1, r9.1.1, r9.1.2.1, ())
  else
  some (d.1, d.2.1, d.2.2.1, d.2.2.2.1, d.2.2.2.2.1, d.2.2.2.2.2.1, d.2.2.2.2.2.2.1, d.2.2.2.2.2.2.2.1, d.2.2.2.2.2.2.2.2.1, d.2.2.2.2.2.2.2.2.2.1, d.2.2.2.2.2.2.2.2.2.2.1, d.2.2.2.2.2.2.2.2.2.2.2.1, d.2.2.2.2.2.2.2.2.2.2.2.2.1, d.2.2.2.2.2.2.2.2.2.2.2.2.2.1, d.2.2.2.2.2.2.2.2.2.2.2.2.2.2.1, d.2.2.2.2.2.2.2.2.2.2.2.2.2.2.2.1, d.2.2.2.2.2.2.2.2.2.2.2.2.2.2.2.2.1, d.2.2.2.2.2.2.2.2.2.2.2.2.2.2.2.2.2.1, d.2.2.2.2.2.2.2.2.2.2.2.2.2.2.2.2.2.2.1, d.2.2.2.2.2.2.2.2.2.2.2.2.2.2.2.2.2.2.2.1, d.2.2.2.2.2.2.2.2.2.2.2.2.2.2.2.2.2.2.2.2.1, d.2.2.2.2.2.2.2.2.2.2.2.2.2.2.2.2.2.2.2.2.2.1, d.2.2.2.2.2.2.2.2.2.2.2.2.2.2.2.2.2.2.2.2.2.2.1, d.2.2.2.2.2.2.2.2.2.2.2.2.2.2.2.2.2.2.2.2.2.2.2.1, d.2.2.2.2.2.2.2.2.2.2.2.2.2.2.2.2.2.2.2.2.2.2.2.2.1, d.2.2.2.2.2.2.2.2.2.2.2.2.2.2.2.2.2.2.2.2.2.2.2.2.2.1, d.2.2.2.2.2.2.2.2.2.2.2.2.2.2.2.2.2.2.2.2.2.2.2.2.2.2.1, ()) : Option (Bool × Bool × Int × Int × Bool × Int × Int × Int × (List (Int)) × (List (T_api_Template)) × (List (T_api_Size)) × Bool × Int × Bool × (List (Int)) × Bool × (List (Int)) × Bool × (List (Int)) × Int × Int × Int × (List (Int)) × (List (T_api_Template)) × (List (T_api_Size)) × (List (Int)) × Int × Unit)).bind (fun (d8 : Bool × Bool × Int × Int × Bool × Int × Int × Int × (List (Int)) × (List (T_api_Template)) × (List (T_api_Size)) × Bool × Int × Bool × (List (Int)) × Bool × (List (Int)) × Bool × (List (Int)) × Int × Int × Int × (List (Int)) × (List (T_api_Template)) × (List (T_api_Size)) × (List (Int)) × Int × Unit) =>
  (if d8.2.2.2.2.2.2.2.2.2.2.2.1 then
  (P_av1_writer_number (((d8.2.2.2.2.2.2.2.2.2.2.2.2.2.2.2.2.2.2.2.2.2.2.2.2.2.1, d8.2.2.2.2.2.2.2.2.2.2.2.2.2.2.2.2.2.2.2.2.2.2.2.2.2.2.1, ()), ()), (IntKind.u64.wrap d8.2.2.2.2.2.2.2.2.2.2.2.2.1), d8.2.2.2.2.2.2.2.2.2.2.2.2.2.2.2.2.2.2.2.2.1, ())).bind fun (r11 : (T_api_Ink × Unit) × Unit) =>
  some (d8.1, d8.2.1, d8.2.2.1, d8.2.2.2.1, d8.2.2.2.2.1, d8.2.2.2.2.2.1, d8.2.2.2.2.2.2.1, d8.2.2.2.2.2.2.2.1, d8.2.2.2.2.2.2.2.2.1, d8.2.2.2.2.2.2.2.2.2.1, d8.2.2.2.2.2.2.2.2.2.2.1, d8.2.2.2.2.2.2.2.2.2.2.2.1, d8.2.2.2.2.2.2.2.2.2.2.2.2.1, d8.2.2.2.2.2.2.2.2.2.2.2.2.2.1, d8.2.2.2.2.2.2.2.2.2.2.2.2.2.2.1, d8.2.2.2.2.2.2.2.2.2.2.2.2.2.2.2.1, d8.2.2.2.2.2.2.2.2.2.2.2.2.2.2.2.2.1, d8.2.2.2.2.2.2.2.2.2.2.2.2.2.2.2.2.2.1, d8.2.2.2.2.2.2.2.2.2.2.2.2.2.2.2.2.2.2.1, r11.1.1.1, r11.1.1.2.1, ())
  else
  some (d8.1, d8.2.1, d8.2.2.1, d8.2.2.2.1, d8.2.2.2.2.1, d8.2.2.2.2.2.1, d8.2.2.2.2.2.2.1, d8.2.2.2.2.2.2.2.1, d8.2.2.2.2.2.2.2.2.1, d8.2.2.2.2.2.2.2.2.2.1, d8.2.2.2.2.2.2.2.2.2.2.1, d8.2.2.2.2.2.2.2.2.2.2.2.1, d8.2.2.2.2.2.2.2.2.2.2.2.2.1, d8.2.2.2.2.2.2.2.2.2.2.2.2.2.1, d8.2.2.2.2.2.2.2.2.2.2.2.2.2.2.1, d8.2.2.2.2.2.2.2.2.2.2.2.2.2.2.2.1, d8.2.2.2.2.2.2.2.2.2.2.2.2.2.2.2.2.1, d8.2.2.2.2.2.2.2.2.2.2.2.2.2.2.2.2.2.1, d8.2.2.2.2.2.2.2.2.2.2.2.2.2.2.2.2.2.2.1, d8.2.2.2.2.2.2.2.2.2.2.2.2.2.2.2.2.2.2.2.2.2.2.2.2.2.1, d8.2.2.2.2.2.2.2.2.2.2.2.2.2.2.2.2.2.2.2.2.2.2.2.2.2.2.1, ()) : Option (Bool × Bool × Int × Int × Bool × Int × Int × Int × (List (Int)) × (List (T_api_Template)) × (List (T_api_Size)) × Bool × Int × Bool × (List (Int)) × Bool × (List (Int)) × Bool × (List (Int)) × (List (Int)) × Int × Unit)).bind (fun (d10 : Bool × Bool × Int × Int × Bool × Int × Int × Int × (List (Int)) × (List (T_api_Template)) × (List (T_api_Size)) × Bool × Int × Bool × (List (Int)) × Bool × (List (Int)) × Bool × (List (Int)) × (List (Int)) × Int × Unit) =>
  iter (L_av1_Write_21 n) n (d10.1, d10.2.1, d10.2.2.1, d10.2.2.2.1, d10.2.2.2.2.1, d10.2.2.2.2.2.1, d10.2.2.2.2.2.2.1, d10.2.2.2.2.2.2.2.1, d10.2.2.2.2.2.2.2.2.1, d10.2.2.2.2.2.2.2.2.2.1, d10.2.2.2.2.2.2.2.2.2.2.1, d10.2.2.2.2.2.2.2.2.2.2.2.1, d10.2.2.2.2.2.2.2.2.2.2.2.2.1, d10.2.2.2.2.2.2.2.2.2.2.2.2.2.1, d10.2.2.2.2.2.2.2.2.2.2.2.2.2.2.1, d10.2.2.2.2.2.2.2.2.2.2.2.2.2.2.2.1, d10.2.2.2.2.2.2.2.2.2.2.2.2.2.2.2.2.1, d10.2.2.2.2.2.2.2.2.2.2.2.2.2.2.2.2.2.1, d10.2.2.2.2.2.2.2.2.2.2.2.2.2.2.2.2.2.2.1, d10.2.2.2.2.2.2.2.2.2.2.2.2.2.2.2.2.2.2.2.1, d10.2.2.2.2.2.2.2.2.2.2.2.2.2.2.2.2.2.2.2.2.1, d10.2.2.2.2.2.2.2.2.2.2.2.2.2.2.1, (d10.2.2.2.2.2.2.2.2.2.2.2.2.2.2.1.length : Int), (0 : Int), ())))
/-- av1.Write -/
noncomputable def N_av1_Write (n : Nat) (d : T_api_Frame × T_api_Structure × Unit) : Option (T_api_Ink) :=
  (P_av1_Right d).bind fun (r1 : Bool × Unit) =>
  if (!r1.1) then
  some (([] : List (Int)), (1 : Int), ())
  else
  (P_av1_structure d).bind fun (r2 : T_api_Structure × Unit) =>
  (P_av1_writer_truth (((([] : List (Int)), (0 : Int), ()), ()), d.1.1, ())).bind fun (r3 : (T_api_Ink × Unit) × Unit) =>
  (P_av1_writer_truth (r3.1, d.1.2.1, ())).bind fun (r4 : (T_api_Ink × Unit) × Unit) =>
  (P_av1_writer_number (r4.1, (IntKind.u64.wrap d.1.2.2.1), (6 : Int), ())).bind fun (r5 : (T_api_Ink × Unit) × Unit) =>
  (P_av1_writer_number (r5.1, (IntKind.u64.wrap d.1.2.2.2.1), (16 : Int), ())).bind fun (r6 : (T_api_Ink × Unit) × Unit) =>
  if (if (if (if (if (!d.1.2.2.2.2.1) then (!d.1.2.2.2.2.2.2.1) else false) then (!d.1.2.2.2.2.2.2.2.2.1) else false) then (!d.1.2.2.2.2.2.2.2.2.2.2.1) else false) then (!d.1.2.2.2.2.2.2.2.2.2.2.2.2.1) else false) then
  some (r6.1.1.1, (0 : Int), ())
  else
  iter (L_av1_Write_12 n) n (d.1.1, d.1.2.1, d.1.2.2.1, d.1.2.2.2.1, d.1.2.2.2.2.1, d.1.2.2.2.2.2.1.1, d.1.2.2.2.2.2.1.2.1, d.1.2.2.2.2.2.1.2.2.1, d.1.2.2.2.2.2.1.2.2.2.1, d.1.2.2.2.2.2.1.2.2.2.2.1, d.1.2.2.2.2.2.1.2.2.2.2.2.1, d.1.2.2.2.2.2.2.1, d.1.2.2.2.2.2.2.2.1, d.1.2.2.2.2.2.2.2.2.1, d.1.2.2.2.2.2.2.2.2.2.1, d.1.2.2.2.2.2.2.2.2.2.2.1, d.1.2.2.2.2.2.2.2.2.2.2.2.1, d.1.2.2.2.2.2.2.2.2.2.2.2.2.1, d.1.2.2.2.2.2.2.2.2.2.2.2.2.2.1, r2.1.1, r2.1.2.1, r2.1.2.2.1, r2.1.2.2.2.1, r2.1.2.2.2.2.1, r2.1.2.2.2.2.2.1, r6.1.1.1, r6.1.1.2.1, ([d.1.2.2.2.2.1, d.1.2.2.2.2.2.2.1, d.1.2.2.2.2.2.2.2.2.1, d.1.2.2.2.2.2.2.2.2.2.2.1, d.1.2.2.2.2.2.2.2.2.2.2.2.2.1] : List (Bool)), (([d.1.2.2.2.2.1, d.1.2.2.2.2.2.2.1, d.1.2.2.2.2.2.2.2.2.1, d.1.2.2.2.2.2.2.2.2.2.2.1, d.1.2.2.2.2.2.2.2.2.2.2.2.2.1] : List (Bool)).length : Int), (0 : Int), ())
theorem e_av1_Write (n d) : fnK tab G_av1_Write an_av1_Write n Try.f10 (bodyOf Try.f10) in_av1_Write out_av1_Write d = N_av1_Write n d := by kernel_rfl
theorem E_av1_Write (d) : P_av1_Write d = N_av1_Write 1000000 d := e_av1_Write _ d
/-- av1.copyOf -/
noncomputable def N_av1_copyOf (n : Nat) (d : T_api_Template × Unit) : Option (T_api_Template × Unit) :=
  (P_slices_Clone_int_int (d.1.2.2.1, ())).bind fun (r1 : (List (Int)) × Unit) =>
  (P_slices_Clone_int_int (d.1.2.2.2.1, ())).bind fun (r2 : (List (Int)) × Unit) =>
  (P_slices_Clone_int_int (d.1.2.2.2.2.1, ())).bind fun (r3 : (List (Int)) × Unit) =>
  some ((d.1.1, d.1.2.1, r1.1, r2.1, r3.1, ()), ())
theorem e_av1_copyOf (n d) : fnK tab G_av1_copyOf an_av1_copyOf n Try.f36 (bodyOf Try.f36) in_av1_copyOf out_av1_copyOf d = N_av1_copyOf n d := by kernel_rfl
theorem E_av1_copyOf (d) : P_av1_copyOf d = N_av1_copyOf 1000000 d := e_av1_copyOf _ d
/-- av1.Whole -/
noncomputable def N_av1_Whole (n : Nat) (d : T_api_Frame × T_api_Structure × Unit) : Option (T_api_Template × Int × Unit) :=
  (P_av1_Right d).bind fun (r1 : Bool × Unit) =>
  if (!r1.1) then
  some (((0 : Int), (0 : Int), ([] : List (Int)), ([] : List (Int)), ([] : List (Int)), ()), (1 : Int), ())
  else
  (P_av1_structure d).bind fun (r2 : T_api_Structure × Unit) =>
  (P_av1_place (d.1.2.2.1, r2.1, ())).bind fun (r3 : Int × Bool × Unit) =>
  if decide (0 ≤ r3.1 ∧ r3.1 < (r2.1.2.2.2.2.1.length : Int)) then
  (if d.1.2.2.2.2.2.2.2.2.1 then
  some (d.1.1, d.1.2.1, d.1.2.2.1, d.1.2.2.2.1, d.1.2.2.2.2.1, d.1.2.2.2.2.2.1.1, d.1.2.2.2.2.2.1.2.1, d.1.2.2.2.2.2.1.2.2.1, d.1.2.2.2.2.2.1.2.2.2.1, d.1.2.2.2.2.2.1.2.2.2.2.1, d.1.2.2.2.2.2.1.2.2.2.2.2.1, d.1.2.2.2.2.2.2.1, d.1.2.2.2.2.2.2.2.1, d.1.2.2.2.2.2.2.2.2.1, d.1.2.2.2.2.2.2.2.2.2.1, d.1.2.2.2.2.2.2.2.2.2.2.1, d.1.2.2.2.2.2.2.2.2.2.2.2.1, d.1.2.2.2.2.2.2.2.2.2.2.2.2.1, d.1.2.2.2.2.2.2.2.2.2.2.2.2.2.1, (0 : Int), (0 : Int), ([] : List (Int)), ([] : List (Int)), ([] : List (Int)), (r2.1.2.2.2.2.1.getD r3.1.toNat ((0 : Int), (0 : Int), [], [], [], ())).1, (r2.1.2.2.2.2.1.getD r3.1.toNat ((0 : Int), (0 : Int), [], [], [], ())).2.1, d.1.2.2.2.2.2.2.2.2.2.1, (r2.1.2.2.2.2.1.getD r3.1.toNat ((0 : Int), (0 : Int), [], [], [], ())).2.2.2.1, (r2.1.2.2.2.2.1.getD r3.1.toNat ((0 : Int), (0 : Int), [], [], [], ())).2.2.2.2.1, ())
  else
  some (d.1.1, d.1.2.1, d.1.2.2.1, d.1.2.2.2.1, d.1.2.2.2.2.1, d.1.2.2.2.2.2.1.1, d.1.2.2.2.2.2.1.2.1, d.1.2.2.2.2.2.1.2.2.1, d.1.2.2.2.2.2.1.2.2.2.1, d.1.2.2.2.2.2.1.2.2.2.2.1, d.1.2.2.2.2.2.1.2.2.2.2.2.1, d.1.2.2.2.2.2.2.1, d.1.2.2.2.2.2.2.2.1, d.1.2.2.2.2.2.2.2.2.1, d.1.2.2.2.2.2.2.2.2.2.1, d.1.2.2.2.2.2.2.2.2.2.2.1, d.1.2.2.2.2.2.2.2.2.2.2.2.1, d.1.2.2.2.2.2.2.2.2.2.2.2.2.1, d.1.2.2.2.2.2.2.2.2.2.2.2.2.2.1, (0 : Int), (0 : Int), ([] : List (Int)), ([] : List (Int)), ([] : List (Int)), (r2.1.2.2.2.2.1.getD r3.1.toNat ((0 : Int), (0 : Int), [], [], [], ())).1, (r2.1.2.2.2.2.1.getD r3.1.toNat ((0 : Int), (0 : Int), [], [], [], ())).2.1, (r2.1.2.2.2.2.1.getD r3.1.toNat ((0 : Int), (0 : Int), [], [], [], ())).2.2.1, (r2.1.2.2.2.2.1.getD r3.1.toNat ((0 : Int), (0 : Int), [], [], [], ())).2.2.2.1, (r2.1.2.2.2.2.1.getD r3.1.toNat ((0 : Int), (0 : Int), [], [], [], ())).2.2.2.2.1, ()) : Option (Bool × Bool × Int × Int × Bool × Int × Int × Int × (List (Int)) × (List (T_api_Template)) × (List (T_api_Size)) × Bool × Int × Bool × (List (Int)) × Bool × (List (Int)) × Bool × (List (Int)) × Int × Int × (List (Int)) × (List (Int)) × (List (Int)) × Int × Int × (List (Int)) × (List (Int)) × (List (Int)) × Unit)).bind (fun (d4 : Bool × Bool × Int × Int × Bool × Int × Int × Int × (List (Int)) × (List (T_api_Template)) × (List (T_api_Size)) × Bool × Int × Bool × (List (Int)) × Bool × (List (Int)) × Bool × (List (Int)) × Int × Int × (List (Int)) × (List (Int)) × (List (Int)) × Int × Int × (List (Int)) × (List (Int)) × (List (Int)) × Unit) =>
  (if d4.2.2.2.2.2.2.2.2.2.2.2.2.2.2.2.1 then
  some (d4.1, d4.2.1, d4.2.2.1, d4.2.2.2.1, d4.2.2.2.2.1, d4.2.2.2.2.2.1, d4.2.2.2.2.2.2.1, d4.2.2.2.2.2.2.2.1, d4.2.2.2.2.2.2.2.2.1, d4.2.2.2.2.2.2.2.2.2.1, d4.2.2.2.2.2.2.2.2.2.2.1, d4.2.2.2.2.2.2.2.2.2.2.2.1, d4.2.2.2.2.2.2.2.2.2.2.2.2.1, d4.2.2.2.2.2.2.2.2.2.2.2.2.2.1, d4.2.2.2.2.2.2.2.2.2.2.2.2.2.2.1, d4.2.2.2.2.2.2.2.2.2.2.2.2.2.2.2.1, d4.2.2.2.2.2.2.2.2.2.2.2.2.2.2.2.2.1, d4.2.2.2.2.2.2.2.2.2.2.2.2.2.2.2.2.2.1, d4.2.2.2.2.2.2.2.2.2.2.2.2.2.2.2.2.2.2.1, d4.2.2.2.2.2.2.2.2.2.2.2.2.2.2.2.2.2.2.2.1, d4.2.2.2.2.2.2.2.2.2.2.2.2.2.2.2.2.2.2.2.2.1, d4.2.2.2.2.2.2.2.2.2.2.2.2.2.2.2.2.2.2.2.2.2.1, d4.2.2.2.2.2.2.2.2.2.2.2.2.2.2.2.2.2.2.2.2.2.2.1, d4.2.2.2.2.2.2.2.2.2.2.2.2.2.2.2.2.2.2.2.2.2.2.2.1, d4.2.2.2.2.2.2.2.2.2.2.2.2.2.2.2.2.2.2.2.2.2.2.2.2.1, d4.2.2.2.2.2.2.2.2.2.2.2.2.2.2.2.2.2.2.2.2.2.2.2.2.2.1, d4.2.2.2.2.2.2.2.2.2.2.2.2.2.2.2.2.2.2.2.2.2.2.2.2.2.2.1, d4.2.2.2.2.2.2.2.2.2.2.2.2.2.2.2.2.1, d4.2.2.2.2.2.2.2.2.2.2.2.2.2.2.2.2.2.2.2.2.2.2.2.2.2.2.2.2.1, ())
  else
  some d4 : Option (Bool × Bool × Int × Int × Bool × Int × Int × Int × (List (Int)) × (List (T_api_Template)) × (List (T_api_Size)) × Bool × Int × Bool × (List (Int)) × Bool × (List (Int)) × Bool × (List (Int)) × Int × Int × (List (Int)) × (List (Int)) × (List (Int)) × Int × Int × (List (Int)) × (List (Int)) × (List (Int)) × Unit)).bind (fun (d5 : Bool × Bool × Int × Int × Bool × Int × Int × Int × (List (Int)) × (List (T_api_Template)) × (List (T_api_Size)) × Bool × Int × Bool × (List (Int)) × Bool × (List (Int)) × Bool × (List (Int)) × Int × Int × (List (Int)) × (List (Int)) × (List (Int)) × Int × Int × (List (Int)) × (List (Int)) × (List (Int)) × Unit) =>
  (if d5.2.2.2.2.2.2.2.2.2.2.2.2.2.2.2.2.2.1 then
  some (d5.2.2.2.2.2.2.2.2.2.2.2.2.2.2.2.2.2.2.2.1, d5.2.2.2.2.2.2.2.2.2.2.2.2.2.2.2.2.2.2.2.2.1, d5.2.2.2.2.2.2.2.2.2.2.2.2.2.2.2.2.2.2.2.2.2.1, d5.2.2.2.2.2.2.2.2.2.2.2.2.2.2.2.2.2.2.2.2.2.2.1, d5.2.2.2.2.2.2.2.2.2.2.2.2.2.2.2.2.2.2.2.2.2.2.2.1, d5.2.2.2.2.2.2.2.2.2.2.2.2.2.2.2.2.2.2.2.2.2.2.2.2.1, d5.2.2.2.2.2.2.2.2.2.2.2.2.2.2.2.2.2.2.2.2.2.2.2.2.2.1, d5.2.2.2.2.2.2.2.2.2.2.2.2.2.2.2.2.2.2.2.2.2.2.2.2.2.2.1, d5.2.2.2.2.2.2.2.2.2.2.2.2.2.2.2.2.2.2.2.2.2.2.2.2.2.2.2.1, d5.2.2.2.2.2.2.2.2.2.2.2.2.2.2.2.2.2.2.1, ())
  else
  some (d5.2.2.2.2.2.2.2.2.2.2.2.2.2.2.2.2.2.2.2.1, d5.2.2.2.2.2.2.2.2.2.2.2.2.2.2.2.2.2.2.2.2.1, d5.2.2.2.2.2.2.2.2.2.2.2.2.2.2.2.2.2.2.2.2.2.1, d5.2.2.2.2.2.2.2.2.2.2.2.2.2.2.2.2.2.2.2.2.2.2.1, d5.2.2.2.2.2.2.2.2.2.2.2.2.2.2.2.2.2.2.2.2.2.2.2.1, d5.2.2.2.2.2.2.2.2.2.2.2.2.2.2.2.2.2.2.2.2.2.2.2.2.1, d5.2.2.2.2.2.2.2.2.2.2.2.2.2.2.2.2.2.2.2.2.2.2.2.2.2.1, d5.2.2.2.2.2.2.2.2.2.2.2.2.2.2.2.2.2.2.2.2.2.2.2.2.2.2.1, d5.2.2.2.2.2.2.2.2.2.2.2.2.2.2.2.2.2.2.2.2.2.2.2.2.2.2.2.1, d5.2.2.2.2.2.2.2.2.2.2.2.2.2.2.2.2.2.2.2.2.2.2.2.2.2.2.2.2.1, ()) : Option (Int × Int × (List (Int)) × (List (Int)) × (List (Int)) × Int × Int × (List (Int)) × (List (Int)) × (List (Int)) × Unit)).bind (fun (d6 : Int × Int × (List (Int)) × (List (Int)) × (List (Int)) × Int × Int × (List (Int)) × (List (Int)) × (List (Int)) × Unit) =>
  (P_av1_copyOf ((d6.2.2.2.2.2.1, d6.2.2.2.2.2.2.1, d6.2.2.2.2.2.2.2.1, d6.2.2.2.2.2.2.2.2.1, d6.2.2.2.2.2.2.2.2.2.1, ()), ())).bind fun (r7 : T_api_Template × Unit) =>
  some (r7.1, (0 : Int), ())))) else none
theorem e_av1_Whole (n d) : fnK tab G_av1_Whole an_av1_Whole n Try.f11 (bodyOf Try.f11) in_av1_Whole out_av1_Whole d = N_av1_Whole n d := by kernel_rfl
theorem E_av1_Whole (d) : P_av1_Whole d = N_av1_Whole 1000000 d := e_av1_Whole _ d
/-- bits.Start -/
noncomputable def N_bits_Start (n : Nat) (d : (List (Int)) × Unit) : Option (T_api_Bits × Unit) :=
  some ((d.1, (0 : Int), (0 : Int), ()), ())
theorem e_bits_Start (n d) : fnK tab G_bits_Start an_bits_Start n Try.f42 (bodyOf Try.f42) in_bits_Start out_bits_Start d = N_bits_Start n d := by kernel_rfl
theorem E_bits_Start (d) : P_bits_Start d = N_bits_Start 1000000 d := e_bits_Start _ d
/-- bits.right -/
noncomputable def N_bits_right (n : Nat) (d : T_api_Bits × Unit) : Option (Bool × Unit) :=
  some ((if (if (d.1.2.2.1 == (0 : Int)) then (decide (d.1.2.1 ≥ (0 : Int))) else false) then (decide (d.1.2.1 ≤ (IntKind.i64.wrap ((8 : Int) * (d.1.1.length : Int))))) else false), ())
theorem e_bits_right (n d) : fnK tab G_bits_right an_bits_right n Try.f77 (bodyOf Try.f77) in_bits_right out_bits_right d = N_bits_right n d := by kernel_rfl
theorem E_bits_right (d) : P_bits_right d = N_bits_right 1000000 d := e_bits_right _ d
/-- bits.Left -/
noncomputable def N_bits_Left (n : Nat) (d : T_api_Bits × Unit) : Option (Int × Unit) :=
  (P_bits_right d).bind fun (r1 : Bool × Unit) =>
  if (!r1.1) then
  some ((0 : Int), ())
  else
  some ((IntKind.i64.wrap ((IntKind.i64.wrap ((8 : Int) * (d.1.1.length : Int))) - d.1.2.1)), ())
theorem e_bits_Left (n d) : fnK tab G_bits_Left an_bits_Left n Try.f48 (bodyOf Try.f48) in_bits_Left out_bits_Left d = N_bits_Left n d := by kernel_rfl
theorem E_bits_Left (d) : P_bits_Left d = N_bits_Left 1000000 d := e_bits_Left _ d
/-- bits.fail -/
noncomputable def N_bits_fail (n : Nat) (d : T_api_Bits × Int × Unit) : Option (T_api_Bits × Unit) :=
  (if (d.1.2.2.1 == (0 : Int)) then
  some (d.1.1, d.1.2.1, d.2.1, ([] : List (Int)), (0 : Int), (0 : Int), ())
  else
  some (d.1.1, d.1.2.1, d.1.2.2.1, ([] : List (Int)), (0 : Int), (0 : Int), ()) : Option ((List (Int)) × Int × Int × (List (Int)) × Int × Int × Unit)).bind (fun (d1 : (List (Int)) × Int × Int × (List (Int)) × Int × Int × Unit) =>
  some ((d1.1, d1.2.1, d1.2.2.1, ()), ()))
theorem e_bits_fail (n d) : fnK tab G_bits_fail an_bits_fail n Try.f86 (bodyOf Try.f86) in_bits_fail out_bits_fail d = N_bits_fail n d := by kernel_rfl
theorem E_bits_fail (d) : P_bits_fail d = N_bits_fail 1000000 d := e_bits_fail _ d
abbrev D_bits_look_2 : Type := (List (Int)) × Int × Int × Int × Unit
noncomputable def L_bits_look_2 (n : Nat) (J0 : D_bits_look_2 → Option (Int × Unit)) (d : D_bits_look_2) : Option (Int × Unit) :=
  if (decide (d.2.2.1 > (0 : Int))) then
  if decide ((8 : Int) ≠ 0) then
  if decide ((8 : Int) ≠ 0) then
  if decide (0 ≤ (IntKind.i64.wrap (d.2.1.tdiv (8 : Int))) ∧ (IntKind.i64.wrap (d.2.1.tdiv (8 : Int))) < (d.1.length : Int)) then
  if decide (0 ≤ (IntKind.u64.wrap (IntKind.i64.wrap ((IntKind.i64.wrap ((8 : Int) - (d.2.1.tmod (8 : Int)))) - (if d.2.2.1 < (IntKind.i64.wrap ((8 : Int) - (d.2.1.tmod (8 : Int)))) then d.2.2.1 else (IntKind.i64.wrap ((8 : Int) - (d.2.1.tmod (8 : Int))))))))) then
  if decide (0 ≤ (IntKind.u64.wrap (if d.2.2.1 < (IntKind.i64.wrap ((8 : Int) - (d.2.1.tmod (8 : Int)))) then d.2.2.1 else (IntKind.i64.wrap ((8 : Int) - (d.2.1.tmod (8 : Int))))))) then
  if decide (0 ≤ (IntKind.u64.wrap (if d.2.2.1 < (IntKind.i64.wrap ((8 : Int) - (d.2.1.tmod (8 : Int)))) then d.2.2.1 else (IntKind.i64.wrap ((8 : Int) - (d.2.1.tmod (8 : Int))))))) then
  J0 (d.1, (IntKind.i64.wrap (d.2.1 + (if d.2.2.1 < (IntKind.i64.wrap ((8 : Int) - (d.2.1.tmod (8 : Int)))) then d.2.2.1 else (IntKind.i64.wrap ((8 : Int) - (d.2.1.tmod (8 : Int))))))), (IntKind.i64.wrap (d.2.2.1 - (if d.2.2.1 < (IntKind.i64.wrap ((8 : Int) - (d.2.1.tmod (8 : Int)))) then d.2.2.1 else (IntKind.i64.wrap ((8 : Int) - (d.2.1.tmod (8 : Int))))))), (IntKind.u64.wrap (BitVec.ofInt IntKind.u64.bits (IntKind.u64.wrap (d.2.2.2.1 * 2 ^ (min (IntKind.u64.wrap (if d.2.2.1 < (IntKind.i64.wrap ((8 : Int) - (d.2.1.tmod (8 : Int)))) then d.2.2.1 else (IntKind.i64.wrap ((8 : Int) - (d.2.1.tmod (8 : Int)))))).toNat IntKind.u64.bits))) ||| BitVec.ofInt IntKind.u64.bits (IntKind.u64.wrap (BitVec.ofInt IntKind.u64.bits ((IntKind.u64.wrap (d.1.getD (IntKind.i64.wrap (d.2.1.tdiv (8 : Int))).toNat (0 : Int))).fdiv (2 ^ (min (IntKind.u64.wrap (IntKind.i64.wrap ((IntKind.i64.wrap ((8 : Int) - (d.2.1.tmod (8 : Int)))) - (if d.2.2.1 < (IntKind.i64.wrap ((8 : Int) - (d.2.1.tmod (8 : Int)))) then d.2.2.1 else (IntKind.i64.wrap ((8 : Int) - (d.2.1.tmod (8 : Int)))))))).toNat IntKind.u64.bits))) &&& BitVec.ofInt IntKind.u64.bits (IntKind.u64.wrap ((IntKind.u64.wrap ((1 : Int) * 2 ^ (min (IntKind.u64.wrap (if d.2.2.1 < (IntKind.i64.wrap ((8 : Int) - (d.2.1.tmod (8 : Int)))) then d.2.2.1 else (IntKind.i64.wrap ((8 : Int) - (d.2.1.tmod (8 : Int)))))).toNat IntKind.u64.bits))) - (1 : Int)))).toNat)).toNat), ()) else none else none else none else none else none else none
  else
  some (d.2.2.2.1, ())
/-- bits.look -/
noncomputable def N_bits_look (n : Nat) (d : T_api_Bits) : Option (Int × Unit) :=
  iter (L_bits_look_2 n) n (d.1, d.2.1, d.2.2.1, (0 : Int), ())
theorem e_bits_look (n d) : fnK tab G_bits_look an_bits_look n Try.f87 (bodyOf Try.f87) in_bits_look out_bits_look d = N_bits_look n d := by kernel_rfl
theorem E_bits_look (d) : P_bits_look d = N_bits_look 1000000 d := e_bits_look _ d
/-- bits.Get -/
noncomputable def N_bits_Get (n : Nat) (d : T_api_Bits × Int × Unit) : Option (T_api_Bits × Int × Unit) :=
  (P_bits_right (d.1, ())).bind fun (r1 : Bool × Unit) =>
  if (if (if (!r1.1) then true else (decide (d.2.1 < (0 : Int)))) then true else (decide (d.2.1 > (64 : Int)))) then
  (P_bits_fail (d.1, (1 : Int), ())).bind fun (r2 : T_api_Bits × Unit) =>
  some (r2.1, (0 : Int), ())
  else
  (P_bits_Left (d.1, ())).bind fun (r3 : Int × Unit) =>
  if (decide (d.2.1 > r3.1)) then
  (P_bits_fail (d.1, (2 : Int), ())).bind fun (r4 : T_api_Bits × Unit) =>
  some (r4.1, (0 : Int), ())
  else
  (P_bits_look (d.1.1, d.1.2.1, d.2.1, ())).bind fun (r5 : Int × Unit) =>
  some ((d.1.1, (IntKind.i64.wrap (d.1.2.1 + d.2.1)), d.1.2.2.1, ()), r5.1, ())
theorem e_bits_Get (n d) : fnK tab G_bits_Get an_bits_Get n Try.f74 (bodyOf Try.f74) in_bits_Get out_bits_Get d = N_bits_Get n d := by kernel_rfl
theorem E_bits_Get (d) : P_bits_Get d = N_bits_Get 1000000 d := e_bits_Get _ d
/-- (*av1.reader).number -/
noncomputable def N_av1_reader_number (n : Nat) (d : (T_api_Bits × Unit) × Int × Unit) : Option (Int × (T_api_Bits × Unit) × Unit) :=
  (P_bits_Get (d.1.1, d.2.1, ())).bind fun (r1 : T_api_Bits × Int × Unit) =>
  some ((IntKind.i64.wrap r1.2.1), (r1.1, ()), ())
theorem e_av1_reader_number (n d) : fnK tab G_av1_reader_number an_av1_reader_number n Try.f44 (bodyOf Try.f44) in_av1_reader_number out_av1_reader_number d = N_av1_reader_number n d := by kernel_rfl
theorem E_av1_reader_number (d) : P_av1_reader_number d = N_av1_reader_number 1000000 d := e_av1_reader_number _ d
/-- (*av1.reader).truth -/
noncomputable def N_av1_reader_truth (n : Nat) (d : (T_api_Bits × Unit) × Unit) : Option (Bool × (T_api_Bits × Unit) × Unit) :=
  (P_av1_reader_number (d.1, (1 : Int), ())).bind fun (r1 : Int × (T_api_Bits × Unit) × Unit) =>
  some ((r1.1 == (1 : Int)), r1.2.1, ())
theorem e_av1_reader_truth (n d) : fnK tab G_av1_reader_truth an_av1_reader_truth n Try.f43 (bodyOf Try.f43) in_av1_reader_truth out_av1_reader_truth d = N_av1_reader_truth n d := by kernel_rfl
theorem E_av1_reader_truth (d) : P_av1_reader_truth d = N_av1_reader_truth 1000000 d := e_av1_reader_truth _ d
/-- (*templ.reader).number -/
noncomputable def N_templ_reader_number (n : Nat) (d : (T_api_Bits × Unit) × Int × Unit) : Option (Int × (T_api_Bits × Unit) × Unit) :=
  (P_bits_Get (d.1.1, d.2.1, ())).bind fun (r1 : T_api_Bits × Int × Unit) =>
  some ((IntKind.i64.wrap r1.2.1), (r1.1, ()), ())
theorem e_templ_reader_number (n d) : fnK tab G_templ_reader_number an_templ_reader_number n Try.f88 (bodyOf Try.f88) in_templ_reader_number out_templ_reader_number d = N_templ_reader_number n d := by kernel_rfl
theorem E_templ_reader_number (d) : P_templ_reader_number d = N_templ_reader_number 1000000 d := e_templ_reader_number _ d
/-- (*templ.reader).ok -/
noncomputable def N_templ_reader_ok (n : Nat) (d : (T_api_Bits × Unit) × Unit) : Option (Bool × Unit) :=
  some ((d.1.1.2.2.1 == (0 : Int)), ())
theorem e_templ_reader_ok (n d) : fnK tab G_templ_reader_ok an_templ_reader_ok n Try.f76 (bodyOf Try.f76) in_templ_reader_ok out_templ_reader_ok d = N_templ_reader_ok n d := by kernel_rfl
theorem E_templ_reader_ok (d) : P_templ_reader_ok d = N_templ_reader_ok 1000000 d := e_templ_reader_ok _ d
/-- (*templ.reader).wrong -/
noncomputable def N_templ_reader_wrong (n : Nat) (d : (T_api_Bits × Unit) × Unit) : Option ((T_api_Bits × Unit) × Unit) :=
  (P_templ_reader_ok d).bind fun (r1 : Bool × Unit) =>
  (if r1.1 then
  some (d.1.1.1, d.1.1.2.1, (6 : Int), ())
  else
  some d.1.1 : Option (T_api_Bits)).bind (fun (d2 : T_api_Bits) =>
  some ((d2, ()), ()))
theorem e_templ_reader_wrong (n d) : fnK tab G_templ_reader_wrong an_templ_reader_wrong n Try.f101 (bodyOf Try.f101) in_templ_reader_wrong out_templ_reader_wrong d = N_templ_reader_wrong n d := by kernel_rfl
theorem E_templ_reader_wrong (d) : P_templ_reader_wrong d = N_templ_reader_wrong 1000000 d := e_templ_reader_wrong _ d
abbrev D_templ_reader_layers_2 : Type := (List (Int)) × Int × Int × (List (T_api_Template)) × Unit
noncomputable def L_templ_reader_layers_2 (n : Nat) (J0 : D_templ_reader_layers_2 → Option ((List (T_api_Template)) × (T_api_Bits × Unit) × Unit)) (d : D_templ_reader_layers_2) : Option ((List (T_api_Template)) × (T_api_Bits × Unit) × Unit) :=
  (P_templ_reader_number (((d.1, d.2.1, d.2.2.1, ()), ()), (2 : Int), ())).bind fun (r1 : Int × (T_api_Bits × Unit) × Unit) =>
  if decide (0 ≤ (IntKind.i64.wrap ((d.2.2.2.1.length : Int) - (1 : Int))) ∧ (IntKind.i64.wrap ((d.2.2.2.1.length : Int) - (1 : Int))) < (d.2.2.2.1.length : Int)) then
  if decide (0 ≤ (IntKind.i64.wrap ((d.2.2.2.1.length : Int) - (1 : Int))) ∧ (IntKind.i64.wrap ((d.2.2.2.1.length : Int) - (1 : Int))) < (d.2.2.2.1.length : Int)) then
  (if (r1.1 == (1 : Int)) then
  some (r1.2.1.1.1, r1.2.1.1.2.1, r1.2.1.1.2.2.1, (d.2.2.2.1.getD (IntKind.i64.wrap ((d.2.2.2.1.length : Int) - (1 : Int))).toNat ((0 : Int), (0 : Int), [], [], [], ())).1, (IntKind.i64.wrap ((d.2.2.2.1.getD (IntKind.i64.wrap ((d.2.2.2.1.length : Int) - (1 : Int))).toNat ((0 : Int), (0 : Int), [], [], [], ())).2.1 + (1 : Int))), ([] : List (Int)), ([] : List (Int)), ([] : List (Int)), d.2.2.2.1, r1.1, ())
  else
  (if (r1.1 == (2 : Int)) then
  some (r1.2.1.1.1, r1.2.1.1.2.1, r1.2.1.1.2.2.1, (IntKind.i64.wrap ((d.2.2.2.1.getD (IntKind.i64.wrap ((d.2.2.2.1.length : Int) - (1 : Int))).toNat ((0 : Int), (0 : Int), [], [], [], ())).1 + (1 : Int))), (0 : Int), ([] : List (Int)), ([] : List (Int)), ([] : List (Int)), d.2.2.2.1, r1.1, ())
  else
  some (r1.2.1.1.1, r1.2.1.1.2.1, r1.2.1.1.2.2.1, (d.2.2.2.1.getD (IntKind.i64.wrap ((d.2.2.2.1.length : Int) - (1 : Int))).toNat ((0 : Int), (0 : Int), [], [], [], ())).1, (d.2.2.2.1.getD (IntKind.i64.wrap ((d.2.2.2.1.length : Int) - (1 : Int))).toNat ((0 : Int), (0 : Int), [], [], [], ())).2.1, ([] : List (Int)), ([] : List (Int)), ([] : List (Int)), d.2.2.2.1, r1.1, ()) : Option ((List (Int)) × Int × Int × Int × Int × (List (Int)) × (List (Int)) × (List (Int)) × (List (T_api_Template)) × Int × Unit)).bind (fun (d3 : (List (Int)) × Int × Int × Int × Int × (List (Int)) × (List (Int)) × (List (Int)) × (List (T_api_Template)) × Int × Unit) =>
  some d3) : Option ((List (Int)) × Int × Int × Int × Int × (List (Int)) × (List (Int)) × (List (Int)) × (List (T_api_Template)) × Int × Unit)).bind (fun (d2 : (List (Int)) × Int × Int × Int × Int × (List (Int)) × (List (Int)) × (List (Int)) × (List (T_api_Template)) × Int × Unit) =>
  (if (!(d2.2.2.2.2.2.2.2.2.2.1 == (3 : Int))) then (P_templ_reader_ok (((d2.1, d2.2.1, d2.2.2.1, ()), ()), ())) else some (false, ()) : Option (Bool × Unit)).bind fun (r4 : Bool × Unit) =>
  if (if (d2.2.2.2.2.2.2.2.2.2.1 == (3 : Int)) then true else (!r4.1)) then
  some (d2.2.2.2.2.2.2.2.2.1, ((d2.1, d2.2.1, d2.2.2.1, ()), ()), ())
  else
  if (if (if (decide (d2.2.2.2.1 > (3 : Int))) then true else (decide (d2.2.2.2.2.1 > (7 : Int)))) then true else ((d2.2.2.2.2.2.2.2.2.1.length : Int) == (64 : Int))) then
  (P_templ_reader_wrong (((d2.1, d2.2.1, d2.2.2.1, ()), ()), ())).bind fun (r5 : (T_api_Bits × Unit) × Unit) =>
  some (d2.2.2.2.2.2.2.2.2.1, r5.1, ())
  else
  if decide ((d2.2.2.2.2.2.2.2.2.1.length + ([(d2.2.2.2.1, d2.2.2.2.2.1, d2.2.2.2.2.2.1, d2.2.2.2.2.2.2.1, d2.2.2.2.2.2.2.2.1, ())] : List (T_api_Template)).length) * 88 ≤ 140737488355328) then
  J0 (d2.1, d2.2.1, d2.2.2.1, (d2.2.2.2.2.2.2.2.2.1 ++ ([(d2.2.2.2.1, d2.2.2.2.2.1, d2.2.2.2.2.2.1, d2.2.2.2.2.2.2.1, d2.2.2.2.2.2.2.2.1, ())] : List (T_api_Template))), ()) else none) else none else none
/-- (*templ.reader).layers -/
noncomputable def N_templ_reader_layers (n : Nat) (d : (T_api_Bits × Unit) × Unit) : Option ((List (T_api_Template)) × (T_api_Bits × Unit) × Unit) :=
  iter (L_templ_reader_layers_2 n) n (d.1.1.1, d.1.1.2.1, d.1.1.2.2.1, ([((0 : Int), (0 : Int), ([] : List (Int)), ([] : List (Int)), ([] : List (Int)), ())] : List (T_api_Template)), ())
theorem e_templ_reader_layers (n d) : fnK tab G_templ_reader_layers an_templ_reader_layers n Try.f89 (bodyOf Try.f89) in_templ_reader_layers out_templ_reader_layers d = N_templ_reader_layers n d := by kernel_rfl
theorem E_templ_reader_layers (d) : P_templ_reader_layers d = N_templ_reader_layers 1000000 d := e_templ_reader_layers _ d
abbrev D_templ_reader_diffs_2 : Type := (List (Int)) × Int × Int × (List (Int)) × Unit
noncomputable def L_templ_reader_diffs_2 (n : Nat) (J0 : D_templ_reader_diffs_2 → Option ((List (Int)) × (T_api_Bits × Unit) × Unit)) (d : D_templ_reader_diffs_2) : Option ((List (Int)) × (T_api_Bits × Unit) × Unit) :=
  (P_templ_reader_number (((d.1, d.2.1, d.2.2.1, ()), ()), (1 : Int), ())).bind fun (r1 : Int × (T_api_Bits × Unit) × Unit) =>
  if (r1.1 == (1 : Int)) then
  if ((d.2.2.2.1.length : Int) == (16 : Int)) then
  (P_templ_reader_wrong (r1.2.1, ())).bind fun (r2 : (T_api_Bits × Unit) × Unit) =>
  some (([] : List (Int)), r2.1, ())
  else
  (P_templ_reader_number (r1.2.1, (4 : Int), ())).bind fun (r3 : Int × (T_api_Bits × Unit) × Unit) =>
  if decide ((d.2.2.2.1.length + ([(IntKind.i64.wrap (r3.1 + (1 : Int)))] : List (Int)).length) * 8 ≤ 140737488355328) then
  J0 (r3.2.1.1.1, r3.2.1.1.2.1, r3.2.1.1.2.2.1, (d.2.2.2.1 ++ ([(IntKind.i64.wrap (r3.1 + (1 : Int)))] : List (Int))), ()) else none
  else
  some (d.2.2.2.1, r1.2.1, ())
/-- (*templ.reader).diffs -/
noncomputable def N_templ_reader_diffs (n : Nat) (d : (T_api_Bits × Unit) × Unit) : Option ((List (Int)) × (T_api_Bits × Unit) × Unit) :=
  iter (L_templ_reader_diffs_2 n) n (d.1.1.1, d.1.1.2.1, d.1.1.2.2.1, ([] : List (Int)), ())
theorem e_templ_reader_diffs (n d) : fnK tab G_templ_reader_diffs an_templ_reader_diffs n Try.f92 (bodyOf Try.f92) in_templ_reader_diffs out_templ_reader_diffs d = N_templ_reader_diffs n d := by kernel_rfl
theorem E_templ_reader_diffs (d) : P_templ_reader_diffs d = N_templ_reader_diffs 1000000 d := e_templ_reader_diffs _ d
/-- bits.Range -/
noncomputable def N_bits_Range (n : Nat) (d : T_api_Bits × Int × Unit) : Option (T_api_Bits × Int × Unit) :=
  (P_bits_right (d.1, ())).bind fun (r1 : Bool × Unit) =>
  if (if (if (!r1.1) then true else (decide (d.2.1 < (1 : Int)))) then true else (decide (d.2.1 > (4294967296 : Int)))) then
  (P_bits_fail (d.1, (1 : Int), ())).bind fun (r2 : T_api_Bits × Unit) =>
  some (r2.1, (0 : Int), ())
  else
  (P_bits_shape (d.2.1, ())).bind fun (r3 : Int × Int × Unit) =>
  (P_bits_Left (d.1, ())).bind fun (r4 : Int × Unit) =>
  if (decide ((IntKind.i64.wrap (r3.1 - (1 : Int))) > r4.1)) then
  (P_bits_fail (d.1, (2 : Int), ())).bind fun (r5 : T_api_Bits × Unit) =>
  some (r5.1, (0 : Int), ())
  else
  (P_bits_look (d.1.1, d.1.2.1, (IntKind.i64.wrap (r3.1 - (1 : Int))), ())).bind fun (r6 : Int × Unit) =>
  if (decide (r6.1 < r3.2.1)) then
  some ((d.1.1, (IntKind.i64.wrap (d.1.2.1 + (IntKind.i64.wrap (r3.1 - (1 : Int))))), d.1.2.2.1, ()), r6.1, ())
  else
  (P_bits_Left (d.1, ())).bind fun (r7 : Int × Unit) =>
  if (decide (r3.1 > r7.1)) then
  (P_bits_fail (d.1, (2 : Int), ())).bind fun (r8 : T_api_Bits × Unit) =>
  some (r8.1, (0 : Int), ())
  else
  (P_bits_look (d.1.1, d.1.2.1, r3.1, ())).bind fun (r9 : Int × Unit) =>
  some ((d.1.1, (IntKind.i64.wrap (d.1.2.1 + r3.1)), d.1.2.2.1, ()), (IntKind.u64.wrap (r9.1 - r3.2.1)), ())
theorem e_bits_Range (n d) : fnK tab G_bits_Range an_bits_Range n Try.f102 (bodyOf Try.f102) in_bits_Range out_bits_Range d = N_bits_Range n d := by kernel_rfl
theorem E_bits_Range (d) : P_bits_Range d = N_bits_Range 1000000 d := e_bits_Range _ d
/-- (*templ.reader).ranged -/
noncomputable def N_templ_reader_ranged (n : Nat) (d : (T_api_Bits × Unit) × Int × Unit) : Option (Int × (T_api_Bits × Unit) × Unit) :=
  (P_bits_Range (d.1.1, (IntKind.u64.wrap d.2.1), ())).bind fun (r1 : T_api_Bits × Int × Unit) =>
  some ((IntKind.i64.wrap r1.2.1), (r1.1, ()), ())
theorem e_templ_reader_ranged (n d) : fnK tab G_templ_reader_ranged an_templ_reader_ranged n Try.f93 (bodyOf Try.f93) in_templ_reader_ranged out_templ_reader_ranged d = N_templ_reader_ranged n d := by kernel_rfl
theorem E_templ_reader_ranged (d) : P_templ_reader_ranged d = N_templ_reader_ranged 1000000 d := e_templ_reader_ranged _ d
/-- (*templ.reader).read$1 -/
noncomputable def N_templ_reader_read_1 (n : Nat) (d : (T_api_Bits × Unit) × Unit × Unit) : Option (Int × (T_api_Bits × Unit) × Unit) :=
  (P_templ_reader_number (d.1, (2 : Int), ())).bind fun (r1 : Int × (T_api_Bits × Unit) × Unit) =>
  some (r1.1, r1.2.1, ())
theorem e_templ_reader_read_1 (n d) : fnK tab G_templ_reader_read_1 an_templ_reader_read_1 n Try.f91 (bodyOf Try.f91) in_templ_reader_read_1 out_templ_reader_read_1 d = N_templ_reader_read_1 n d := by kernel_rfl
theorem E_templ_reader_read_1 (d) : P_templ_reader_read_1 d = N_templ_reader_read_1 1000000 d := e_templ_reader_read_1 _ d
abbrev D_templ_reader_list__templ_reader_read_1_3 : Type := (List (Int)) × Int × Int × Int × (List (Int)) × Int × Unit
noncomputable def L_templ_reader_list__templ_reader_read_1_3 (n : Nat) (J0 : D_templ_reader_list__templ_reader_read_1_3 → Option ((List (Int)) × (T_api_Bits × Unit) × Unit)) (d : D_templ_reader_list__templ_reader_read_1_3) : Option ((List (Int)) × (T_api_Bits × Unit) × Unit) :=
  (if (decide (d.2.2.2.2.2.1 < d.2.2.2.1)) then (P_templ_reader_ok (((d.1, d.2.1, d.2.2.1, ()), ()), ())) else some (false, ()) : Option (Bool × Unit)).bind fun (r1 : Bool × Unit) =>
  if (if (decide (d.2.2.2.2.2.1 < d.2.2.2.1)) then r1.1 else false) then
  (P_templ_reader_read_1 (((d.1, d.2.1, d.2.2.1, ()), ()), (()), ())).bind fun (r2 : Int × (T_api_Bits × Unit) × Unit) =>
  if decide ((d.2.2.2.2.1.length + ([r2.1] : List (Int)).length) * 8 ≤ 140737488355328) then
  J0 (r2.2.1.1.1, r2.2.1.1.2.1, r2.2.1.1.2.2.1, d.2.2.2.1, (d.2.2.2.2.1 ++ ([r2.1] : List (Int))), (IntKind.i64.wrap (d.2.2.2.2.2.1 + (1 : Int))), ()) else none
  else
  some (d.2.2.2.2.1, ((d.1, d.2.1, d.2.2.1, ()), ()), ())
/-- (*templ.reader).list -/
noncomputable def N_templ_reader_list__templ_reader_read_1 (n : Nat) (d : (T_api_Bits × Unit) × Int × Unit × Unit) : Option ((List (Int)) × (T_api_Bits × Unit) × Unit) :=
  iter (L_templ_reader_list__templ_reader_read_1_3 n) n (d.1.1.1, d.1.1.2.1, d.1.1.2.2.1, d.2.1, ([] : List (Int)), (0 : Int), ())
theorem e_templ_reader_list__templ_reader_read_1 (n d) : fnK tab G_templ_reader_list__templ_reader_read_1 an_templ_reader_list__templ_reader_read_1 n Try.f90 (bodyOf Try.f90) in_templ_reader_list__templ_reader_read_1 out_templ_reader_list__templ_reader_read_1 d = N_templ_reader_list__templ_reader_read_1 n d := by kernel_rfl
theorem E_templ_reader_list__templ_reader_read_1 (d) : P_templ_reader_list__templ_reader_read_1 d = N_templ_reader_list__templ_reader_read_1 1000000 d := e_templ_reader_list__templ_reader_read_1 _ d
/-- (*templ.reader).read$2 -/
noncomputable def N_templ_reader_read_2 (n : Nat) (d : (T_api_Bits × Unit) × Unit × ((Int × Unit) × Unit) × Unit) : Option (Int × (T_api_Bits × Unit) × Unit) :=
  (P_templ_reader_ranged (d.1, d.2.2.1.1.1, ())).bind fun (r1 : Int × (T_api_Bits × Unit) × Unit) =>
  some (r1.1, r1.2.1, ())
theorem e_templ_reader_read_2 (n d) : fnK tab G_templ_reader_read_2 an_templ_reader_read_2 n Try.f94 (bodyOf Try.f94) in_templ_reader_read_2 out_templ_reader_read_2 d = N_templ_reader_read_2 n d := by kernel_rfl
theorem E_templ_reader_read_2 (d) : P_templ_reader_read_2 d = N_templ_reader_read_2 1000000 d := e_templ_reader_read_2 _ d
abbrev D_templ_reader_list__templ_reader_read_2_3 : Type := (List (Int)) × Int × Int × Int × Int × (List (Int)) × Int × Unit
noncomputable def L_templ_reader_list__templ_reader_read_2_3 (n : Nat) (J0 : D_templ_reader_list__templ_reader_read_2_3 → Option ((List (Int)) × (T_api_Bits × Unit) × Unit)) (d : D_templ_reader_list__templ_reader_read_2_3) : Option ((List (Int)) × (T_api_Bits × Unit) × Unit) :=
  (if (decide (d.2.2.2.2.2.2.1 < d.2.2.2.2.1)) then (P_templ_reader_ok (((d.1, d.2.1, d.2.2.1, ()), ()), ())) else some (false, ()) : Option (Bool × Unit)).bind fun (r1 : Bool × Unit) =>
  if (if (decide (d.2.2.2.2.2.2.1 < d.2.2.2.2.1)) then r1.1 else false) then
  (P_templ_reader_read_2 (((d.1, d.2.1, d.2.2.1, ()), ()), (()), ((d.2.2.2.1, ()), ()), ())).bind fun (r2 : Int × (T_api_Bits × Unit) × Unit) =>
  if decide ((d.2.2.2.2.2.1.length + ([r2.1] : List (Int)).length) * 8 ≤ 140737488355328) then
  J0 (r2.2.1.1.1, r2.2.1.1.2.1, r2.2.1.1.2.2.1, d.2.2.2.1, d.2.2.2.2.1, (d.2.2.2.2.2.1 ++ ([r2.1] : List (Int))), (IntKind.i64.wrap (d.2.2.2.2.2.2.1 + (1 : Int))), ()) else none
  else
  some (d.2.2.2.2.2.1, ((d.1, d.2.1, d.2.2.1, ()), ()), ())
/-- (*templ.reader).list -/
noncomputable def N_templ_reader_list__templ_reader_read_2 (n : Nat) (d : (T_api_Bits × Unit) × Int × ((Int × Unit) × Unit) × Unit) : Option ((List (Int)) × (T_api_Bits × Unit) × Unit) :=
  iter (L_templ_reader_list__templ_reader_read_2_3 n) n (d.1.1.1, d.1.1.2.1, d.1.1.2.2.1, d.2.2.1.1.1, d.2.1, ([] : List (Int)), (0 : Int), ())
theorem e_templ_reader_list__templ_reader_read_2 (n d) : fnK tab G_templ_reader_list__templ_reader_read_2 an_templ_reader_list__templ_reader_read_2 n Try.f90 (bodyOf Try.f90) in_templ_reader_list__templ_reader_read_2 out_templ_reader_list__templ_reader_read_2 d = N_templ_reader_list__templ_reader_read_2 n d := by kernel_rfl
theorem E_templ_reader_list__templ_reader_read_2 (d) : P_templ_reader_list__templ_reader_read_2 d = N_templ_reader_list__templ_reader_read_2 1000000 d := e_templ_reader_list__templ_reader_read_2 _ d
/-- (*templ.reader).read$3 -/
noncomputable def N_templ_reader_read_3 (n : Nat) (d : (T_api_Bits × Unit) × Unit × Unit) : Option (Int × (T_api_Bits × Unit) × Unit) :=
  (P_templ_reader_number (d.1, (4 : Int), ())).bind fun (r1 : Int × (T_api_Bits × Unit) × Unit) =>
  some (r1.1, r1.2.1, ())
theorem e_templ_reader_read_3 (n d) : fnK tab G_templ_reader_read_3 an_templ_reader_read_3 n Try.f95 (bodyOf Try.f95) in_templ_reader_read_3 out_templ_reader_read_3 d = N_templ_reader_read_3 n d := by kernel_rfl
theorem E_templ_reader_read_3 (d) : P_templ_reader_read_3 d = N_templ_reader_read_3 1000000 d := e_templ_reader_read_3 _ d
abbrev D_templ_reader_list__templ_reader_read_3_3 : Type := (List (Int)) × Int × Int × Int × (List (Int)) × Int × Unit
noncomputable def L_templ_reader_list__templ_reader_read_3_3 (n : Nat) (J0 : D_templ_reader_list__templ_reader_read_3_3 → Option ((List (Int)) × (T_api_Bits × Unit) × Unit)) (d : D_templ_reader_list__templ_reader_read_3_3) : Option ((List (Int)) × (T_api_Bits × Unit) × Unit) :=
  (if (decide (d.2.2.2.2.2.1 < d.2.2.2.1)) then (P_templ_reader_ok (((d.1, d.2.1, d.2.2.1, ()), ()), ())) else some (false, ()) : Option (Bool × Unit)).bind fun (r1 : Bool × Unit) =>
  if (if (decide (d.2.2.2.2.2.1 < d.2.2.2.1)) then r1.1 else false) then
  (P_templ_reader_read_3 (((d.1, d.2.1, d.2.2.1, ()), ()), (()), ())).bind fun (r2 : Int × (T_api_Bits × Unit) × Unit) =>
  if decide ((d.2.2.2.2.1.length + ([r2.1] : List (Int)).length) * 8 ≤ 140737488355328) then
  J0 (r2.2.1.1.1, r2.2.1.1.2.1, r2.2.1.1.2.2.1, d.2.2.2.1, (d.2.2.2.2.1 ++ ([r2.1] : List (Int))), (IntKind.i64.wrap (d.2.2.2.2.2.1 + (1 : Int))), ()) else none
  else
  some (d.2.2.2.2.1, ((d.1, d.2.1, d.2.2.1, ()), ()), ())
/-- (*templ.reader).list -/
noncomputable def N_templ_reader_list__templ_reader_read_3 (n : Nat) (d : (T_api_Bits × Unit) × Int × Unit × Unit) : Option ((List (Int)) × (T_api_Bits × Unit) × Unit) :=
  iter (L_templ_reader_list__templ_reader_read_3_3 n) n (d.1.1.1, d.1.1.2.1, d.1.1.2.2.1, d.2.1, ([] : List (Int)), (0 : Int), ())
theorem e_templ_reader_list__templ_reader_read_3 (n d) : fnK tab G_templ_reader_list__templ_reader_read_3 an_templ_reader_list__templ_reader_read_3 n Try.f90 (bodyOf Try.f90) in_templ_reader_list__templ_reader_read_3 out_templ_reader_list__templ_reader_read_3 d = N_templ_reader_list__templ_reader_read_3 n d := by kernel_rfl
theorem E_templ_reader_list__templ_reader_read_3 (d) : P_templ_reader_list__templ_reader_read_3 d = N_templ_reader_list__templ_reader_read_3 1000000 d := e_templ_reader_list__templ_reader_read_3 _ d
abbrev D_templ_reader_read_24 : Type := (List (Int)) × Int × Int × Int × Int × Int × Int × Int × Int × (List (Int)) × (List (T_api_Template)) × (List (T_api_Size)) × Int × Int × Unit
noncomputable def L_templ_reader_read_24 (n : Nat) (J0 : D_templ_reader_read_24 → Option ((List (Int)) × Int × Int × Int × Int × Int × Int × Int × Int × (List (Int)) × (List (T_api_Template)) × (List (T_api_Size)) × Unit)) (d : D_templ_reader_read_24) : Option ((List (Int)) × Int × Int × Int × Int × Int × Int × Int × Int × (List (Int)) × (List (T_api_Template)) × (List (T_api_Size)) × Unit) :=
  if (decide (d.2.2.2.2.2.2.2.2.2.2.2.2.2.1 < d.2.2.2.2.2.2.2.2.2.2.2.2.1)) then
  (P_templ_reader_number (((d.1, d.2.1, d.2.2.1, ()), ()), (16 : Int), ())).bind fun (r13 : Int × (T_api_Bits × Unit) × Unit) =>
  (P_templ_reader_number (r13.2.1, (16 : Int), ())).bind fun (r14 : Int × (T_api_Bits × Unit) × Unit) =>
  if decide ((d.2.2.2.2.2.2.2.2.2.2.2.1.length + ([((IntKind.i64.wrap (r13.1 + (1 : Int))), (IntKind.i64.wrap (r14.1 + (1 : Int))), ())] : List (T_api_Size)).length) * 16 ≤ 140737488355328) then
  J0 (r14.2.1.1.1, r14.2.1.1.2.1, r14.2.1.1.2.2.1, d.2.2.2.1, d.2.2.2.2.1, d.2.2.2.2.2.1, d.2.2.2.2.2.2.1, d.2.2.2.2.2.2.2.1, d.2.2.2.2.2.2.2.2.1, d.2.2.2.2.2.2.2.2.2.1, d.2.2.2.2.2.2.2.2.2.2.1, (d.2.2.2.2.2.2.2.2.2.2.2.1 ++ ([((IntKind.i64.wrap (r13.1 + (1 : Int))), (IntKind.i64.wrap (r14.1 + (1 : Int))), ())] : List (T_api_Size))), d.2.2.2.2.2.2.2.2.2.2.2.2.1, (IntKind.i64.wrap (d.2.2.2.2.2.2.2.2.2.2.2.2.2.1 + (1 : Int))), ()) else none
  else
  some (d.1, d.2.1, d.2.2.1, d.2.2.2.1, d.2.2.2.2.1, d.2.2.2.2.2.1, d.2.2.2.2.2.2.1, d.2.2.2.2.2.2.2.1, d.2.2.2.2.2.2.2.2.1, d.2.2.2.2.2.2.2.2.2.1, d.2.2.2.2.2.2.2.2.2.2.1, d.2.2.2.2.2.2.2.2.2.2.2.1, ())
abbrev D_templ_reader_read_18 : Type := (List (Int)) × Int × Int × Int × Int × Int × Int × Int × Int × (List (Int)) × (List (T_api_Template)) × Int × Int × Unit
noncomputable def L_templ_reader_read_18 (n : Nat) (J0 : D_templ_reader_read_18 → Option (T_api_Structure × (T_api_Bits × Unit) × Unit)) (d : D_templ_reader_read_18) : Option (T_api_Structure × (T_api_Bits × Unit) × Unit) :=
  if (decide (d.2.2.2.2.2.2.2.2.2.2.2.2.1 < d.2.2.2.2.2.2.2.2.2.2.2.1)) then
  (P_templ_reader_list__templ_reader_read_3 (((d.1, d.2.1, d.2.2.1, ()), ()), d.2.2.2.2.2.2.2.2.1, (()), ())).bind fun (r9 : (List (Int)) × (T_api_Bits × Unit) × Unit) =>
  if decide (0 ≤ d.2.2.2.2.2.2.2.2.2.2.2.2.1 ∧ d.2.2.2.2.2.2.2.2.2.2.2.2.1 < (d.2.2.2.2.2.2.2.2.2.2.1.length : Int)) then
  J0 (r9.2.1.1.1, r9.2.1.1.2.1, r9.2.1.1.2.2.1, d.2.2.2.1, d.2.2.2.2.1, d.2.2.2.2.2.1, d.2.2.2.2.2.2.1, d.2.2.2.2.2.2.2.1, d.2.2.2.2.2.2.2.2.1, d.2.2.2.2.2.2.2.2.2.1, (d.2.2.2.2.2.2.2.2.2.2.1.set d.2.2.2.2.2.2.2.2.2.2.2.2.1.toNat ((d.2.2.2.2.2.2.2.2.2.2.1.getD d.2.2.2.2.2.2.2.2.2.2.2.2.1.toNat ((0 : Int), (0 : Int), [], [], [], ())).1, (d.2.2.2.2.2.2.2.2.2.2.1.getD d.2.2.2.2.2.2.2.2.2.2.2.2.1.toNat ((0 : Int), (0 : Int), [], [], [], ())).2.1, (d.2.2.2.2.2.2.2.2.2.2.1.getD d.2.2.2.2.2.2.2.2.2.2.2.2.1.toNat ((0 : Int), (0 : Int), [], [], [], ())).2.2.1, (d.2.2.2.2.2.2.2.2.2.2.1.getD d.2.2.2.2.2.2.2.2.2.2.2.2.1.toNat ((0 : Int), (0 : Int), [], [], [], ())).2.2.2.1, r9.1, ())), d.2.2.2.2.2.2.2.2.2.2.2.1, (IntKind.i64.wrap (d.2.2.2.2.2.2.2.2.2.2.2.2.1 + (1 : Int))), ()) else none
  else
  (P_templ_reader_number (((d.1, d.2.1, d.2.2.1, ()), ()), (1 : Int), ())).bind fun (r10 : Int × (T_api_Bits × Unit) × Unit) =>
  (if (r10.1 == (1 : Int)) then
  (P_templ_sizes ((d.2.2.2.2.2.2.1, d.2.2.2.2.2.2.2.1, d.2.2.2.2.2.2.2.2.1, d.2.2.2.2.2.2.2.2.2.1, d.2.2.2.2.2.2.2.2.2.2.1, ([] : List (T_api_Size)), ()), ())).bind fun (r12 : Int × Unit) =>
  iter (L_templ_reader_read_24 n) n (r10.2.1.1.1, r10.2.1.1.2.1, r10.2.1.1.2.2.1, d.2.2.2.1, d.2.2.2.2.1, d.2.2.2.2.2.1, d.2.2.2.2.2.2.1, d.2.2.2.2.2.2.2.1, d.2.2.2.2.2.2.2.2.1, d.2.2.2.2.2.2.2.2.2.1, d.2.2.2.2.2.2.2.2.2.2.1, ([] : List (T_api_Size)), r12.1, (0 : Int), ())
  else
  some (r10.2.1.1.1, r10.2.1.1.2.1, r10.2.1.1.2.2.1, d.2.2.2.1, d.2.2.2.2.1, d.2.2.2.2.2.1, d.2.2.2.2.2.2.1, d.2.2.2.2.2.2.2.1, d.2.2.2.2.2.2.2.2.1, d.2.2.2.2.2.2.2.2.2.1, d.2.2.2.2.2.2.2.2.2.2.1, ([] : List (T_api_Size)), ()) : Option ((List (Int)) × Int × Int × Int × Int × Int × Int × Int × Int × (List (Int)) × (List (T_api_Template)) × (List (T_api_Size)) × Unit)).bind (fun (d11 : (List (Int)) × Int × Int × Int × Int × Int × Int × Int × Int × (List (Int)) × (List (T_api_Template)) × (List (T_api_Size)) × Unit) =>
  some ((d11.2.2.2.2.2.2.1, d11.2.2.2.2.2.2.2.1, d11.2.2.2.2.2.2.2.2.1, d11.2.2.2.2.2.2.2.2.2.1, d11.2.2.2.2.2.2.2.2.2.2.1, d11.2.2.2.2.2.2.2.2.2.2.2.1, ()), ((d11.1, d11.2.1, d11.2.2.1, ()), ()), ()))
abbrev D_templ_reader_read_10 : Type := (List (Int)) × Int × Int × Int × Int × Int × Int × Int × Int × (List (T_api_Template)) × Int × Int × Unit
noncomputable def L_templ_reader_read_10 (n : Nat) (J0 : D_templ_reader_read_10 → Option (T_api_Structure × (T_api_Bits × Unit) × Unit)) (d : D_templ_reader_read_10) : Option (T_api_Structure × (T_api_Bits × Unit) × Unit) :=
  if (decide (d.2.2.2.2.2.2.2.2.2.2.2.1 < d.2.2.2.2.2.2.2.2.2.2.1)) then
  (P_templ_reader_diffs (((d.1, d.2.1, d.2.2.1, ()), ()), ())).bind fun (r5 : (List (Int)) × (T_api_Bits × Unit) × Unit) =>
  if decide (0 ≤ d.2.2.2.2.2.2.2.2.2.2.2.1 ∧ d.2.2.2.2.2.2.2.2.2.2.2.1 < (d.2.2.2.2.2.2.2.2.2.1.length : Int)) then
  J0 (r5.2.1.1.1, r5.2.1.1.2.1, r5.2.1.1.2.2.1, d.2.2.2.1, d.2.2.2.2.1, d.2.2.2.2.2.1, d.2.2.2.2.2.2.1, d.2.2.2.2.2.2.2.1, d.2.2.2.2.2.2.2.2.1, (d.2.2.2.2.2.2.2.2.2.1.set d.2.2.2.2.2.2.2.2.2.2.2.1.toNat ((d.2.2.2.2.2.2.2.2.2.1.getD d.2.2.2.2.2.2.2.2.2.2.2.1.toNat ((0 : Int), (0 : Int), [], [], [], ())).1, (d.2.2.2.2.2.2.2.2.2.1.getD d.2.2.2.2.2.2.2.2.2.2.2.1.toNat ((0 : Int), (0 : Int), [], [], [], ())).2.1, (d.2.2.2.2.2.2.2.2.2.1.getD d.2.2.2.2.2.2.2.2.2.2.2.1.toNat ((0 : Int), (0 : Int), [], [], [], ())).2.2.1, r5.1, (d.2.2.2.2.2.2.2.2.2.1.getD d.2.2.2.2.2.2.2.2.2.2.2.1.toNat ((0 : Int), (0 : Int), [], [], [], ())).2.2.2.2.1, ())), d.2.2.2.2.2.2.2.2.2.2.1, (IntKind.i64.wrap (d.2.2.2.2.2.2.2.2.2.2.2.1 + (1 : Int))), ()) else none
  else
  (P_templ_reader_ranged (((d.1, d.2.1, d.2.2.1, ()), ()), (IntKind.i64.wrap (d.2.2.2.2.2.2.2.1 + (1 : Int))), ())).bind fun (r6 : Int × (T_api_Bits × Unit) × Unit) =>
  (if (decide (r6.1 > (0 : Int))) then
  (P_templ_reader_list__templ_reader_read_2 (r6.2.1, d.2.2.2.2.2.2.2.1, ((r6.1, ()), ()), ())).bind fun (r8 : (List (Int)) × (T_api_Bits × Unit) × Unit) =>
  some (r8.2.1.1.1, r8.2.1.1.2.1, r8.2.1.1.2.2.1, d.2.2.2.1, d.2.2.2.2.1, d.2.2.2.2.2.1, d.2.2.2.2.2.2.1, d.2.2.2.2.2.2.2.1, r6.1, r8.1, d.2.2.2.2.2.2.2.2.2.1, ())
  else
  some (r6.2.1.1.1, r6.2.1.1.2.1, r6.2.1.1.2.2.1, d.2.2.2.1, d.2.2.2.2.1, d.2.2.2.2.2.1, d.2.2.2.2.2.2.1, d.2.2.2.2.2.2.2.1, r6.1, ([] : List (Int)), d.2.2.2.2.2.2.2.2.2.1, ()) : Option ((List (Int)) × Int × Int × Int × Int × Int × Int × Int × Int × (List (Int)) × (List (T_api_Template)) × Unit)).bind (fun (d7 : (List (Int)) × Int × Int × Int × Int × Int × Int × Int × Int × (List (Int)) × (List (T_api_Template)) × Unit) =>
  iter (L_templ_reader_read_18 n) n (d7.1, d7.2.1, d7.2.2.1, d7.2.2.2.1, d7.2.2.2.2.1, d7.2.2.2.2.2.1, d7.2.2.2.2.2.2.1, d7.2.2.2.2.2.2.2.1, d7.2.2.2.2.2.2.2.2.1, d7.2.2.2.2.2.2.2.2.2.1, d7.2.2.2.2.2.2.2.2.2.2.1, (d7.2.2.2.2.2.2.2.2.2.2.1.length : Int), (0 : Int), ()))
abbrev D_templ_reader_read_5 : Type := (List (Int)) × Int × Int × Int × Int × Int × Int × Int × Int × (List (T_api_Template)) × Int × Int × Unit
noncomputable def L_templ_reader_read_5 (n : Nat) (J0 : D_templ_reader_read_5 → Option (T_api_Structure × (T_api_Bits × Unit) × Unit)) (d : D_templ_reader_read_5) : Option (T_api_Structure × (T_api_Bits × Unit) × Unit) :=
  if (decide (d.2.2.2.2.2.2.2.2.2.2.2.1 < d.2.2.2.2.2.2.2.2.2.2.1)) then
  (P_templ_reader_list__templ_reader_read_1 (((d.1, d.2.1, d.2.2.1, ()), ()), d.2.2.2.2.2.2.2.1, (()), ())).bind fun (r4 : (List (Int)) × (T_api_Bits × Unit) × Unit) =>
  if decide (0 ≤ d.2.2.2.2.2.2.2.2.2.2.2.1 ∧ d.2.2.2.2.2.2.2.2.2.2.2.1 < (d.2.2.2.2.2.2.2.2.2.1.length : Int)) then
  J0 (r4.2.1.1.1, r4.2.1.1.2.1, r4.2.1.1.2.2.1, d.2.2.2.1, d.2.2.2.2.1, d.2.2.2.2.2.1, d.2.2.2.2.2.2.1, d.2.2.2.2.2.2.2.1, d.2.2.2.2.2.2.2.2.1, (d.2.2.2.2.2.2.2.2.2.1.set d.2.2.2.2.2.2.2.2.2.2.2.1.toNat ((d.2.2.2.2.2.2.2.2.2.1.getD d.2.2.2.2.2.2.2.2.2.2.2.1.toNat ((0 : Int), (0 : Int), [], [], [], ())).1, (d.2.2.2.2.2.2.2.2.2.1.getD d.2.2.2.2.2.2.2.2.2.2.2.1.toNat ((0 : Int), (0 : Int), [], [], [], ())).2.1, r4.1, (d.2.2.2.2.2.2.2.2.2.1.getD d.2.2.2.2.2.2.2.2.2.2.2.1.toNat ((0 : Int), (0 : Int), [], [], [], ())).2.2.2.1, (d.2.2.2.2.2.2.2.2.2.1.getD d.2.2.2.2.2.2.2.2.2.2.2.1.toNat ((0 : Int), (0 : Int), [], [], [], ())).2.2.2.2.1, ())), d.2.2.2.2.2.2.2.2.2.2.1, (IntKind.i64.wrap (d.2.2.2.2.2.2.2.2.2.2.2.1 + (1 : Int))), ()) else none
  else
  iter (L_templ_reader_read_10 n) n (d.1, d.2.1, d.2.2.1, d.2.2.2.1, d.2.2.2.2.1, d.2.2.2.2.2.1, d.2.2.2.2.2.2.1, d.2.2.2.2.2.2.2.1, d.2.2.2.2.2.2.2.2.1, d.2.2.2.2.2.2.2.2.2.1, (d.2.2.2.2.2.2.2.2.2.1.length : Int), (0 : Int), ())
/-- (*templ.reader).read -/
noncomputable def N_templ_reader_read (n : Nat) (d : (T_api_Bits × Unit) × Unit) : Option (T_api_Structure × (T_api_Bits × Unit) × Unit) :=
  (P_templ_reader_number (d.1, (6 : Int), ())).bind fun (r1 : Int × (T_api_Bits × Unit) × Unit) =>
  (P_templ_reader_number (r1.2.1, (5 : Int), ())).bind fun (r2 : Int × (T_api_Bits × Unit) × Unit) =>
  (P_templ_reader_layers (r2.2.1, ())).bind fun (r3 : (List (T_api_Template)) × (T_api_Bits × Unit) × Unit) =>
  iter (L_templ_reader_read_5 n) n (r3.2.1.1.1, r3.2.1.1.2.1, r3.2.1.1.2.2.1, (0 : Int), (0 : Int), (0 : Int), r1.1, (IntKind.i64.wrap (r2.1 + (1 : Int))), (0 : Int), r3.1, (r3.1.length : Int), (0 : Int), ())
theorem e_templ_reader_read (n d) : fnK tab G_templ_reader_read an_templ_reader_read n Try.f75 (bodyOf Try.f75) in_templ_reader_read out_templ_reader_read d = N_templ_reader_read n d := by kernel_rfl
theorem E_templ_reader_read (d) : P_templ_reader_read d = N_templ_reader_read 1000000 d := e_templ_reader_read _ d
/-- templ.Get -/
noncomputable def N_templ_Get (n : Nat) (d : T_api_Bits × Unit) : Option (T_api_Bits × T_api_Structure × Unit) :=
  (P_templ_reader_read (d, ())).bind fun (r1 : T_api_Structure × (T_api_Bits × Unit) × Unit) =>
  (P_templ_reader_ok (r1.2.1, ())).bind fun (r2 : Bool × Unit) =>
  if (!r2.1) then
  some ((d.1.1, d.1.2.1, r1.2.1.1.2.2.1, ()), ((0 : Int), (0 : Int), (0 : Int), ([] : List (Int)), ([] : List (T_api_Template)), ([] : List (T_api_Size)), ()), ())
  else
  some (r1.2.1.1, r1.1, ())
theorem e_templ_Get (n d) : fnK tab G_templ_Get an_templ_Get n Try.f45 (bodyOf Try.f45) in_templ_Get out_templ_Get d = N_templ_Get n d := by kernel_rfl
theorem E_templ_Get (d) : P_templ_Get d = N_templ_Get 1000000 d := e_templ_Get _ d
abbrev D_av1_reader_list_5 : Type := (List (Int)) × Int × Int × Int × Int × (List (Int)) × Int × Unit
noncomputable def L_av1_reader_list_5 (n : Nat) (J0 : D_av1_reader_list_5 → Option ((List (Int)) × (T_api_Bits × Unit) × Unit)) (d : D_av1_reader_list_5) : Option ((List (Int)) × (T_api_Bits × Unit) × Unit) :=
  if (if (decide (d.2.2.2.2.2.2.1 < d.2.2.2.1)) then (d.2.2.1 == (0 : Int)) else false) then
  (P_av1_reader_number (((d.1, d.2.1, d.2.2.1, ()), ()), d.2.2.2.2.1, ())).bind fun (r1 : Int × (T_api_Bits × Unit) × Unit) =>
  if decide ((d.2.2.2.2.2.1.length + ([r1.1] : List (Int)).length) * 8 ≤ 140737488355328) then
  J0 (r1.2.1.1.1, r1.2.1.1.2.1, r1.2.1.1.2.2.1, d.2.2.2.1, d.2.2.2.2.1, (d.2.2.2.2.2.1 ++ ([r1.1] : List (Int))), (IntKind.i64.wrap (d.2.2.2.2.2.2.1 + (1 : Int))), ()) else none
  else
  some (d.2.2.2.2.2.1, ((d.1, d.2.1, d.2.2.1, ()), ()), ())
/-- (*av1.reader).list -/
noncomputable def N_av1_reader_list (n : Nat) (d : (T_api_Bits × Unit) × Bool × Int × Int × Unit) : Option ((List (Int)) × (T_api_Bits × Unit) × Unit) :=
  if (!d.2.1) then
  some (([] : List (Int)), d.1, ())
  else
  iter (L_av1_reader_list_5 n) n (d.1.1.1, d.1.1.2.1, d.1.1.2.2.1, d.2.2.1, d.2.2.2.1, ([] : List (Int)), (0 : Int), ())
theorem e_av1_reader_list (n d) : fnK tab G_av1_reader_list an_av1_reader_list n Try.f46 (bodyOf Try.f46) in_av1_reader_list out_av1_reader_list d = N_av1_reader_list n d := by kernel_rfl
theorem E_av1_reader_list (d) : P_av1_reader_list d = N_av1_reader_list 1000000 d := e_av1_reader_list _ d
abbrev D_av1_reader_diffs_4 : Type := (List (Int)) × Int × Int × (List (Int)) × Unit
noncomputable def L_av1_reader_diffs_4 (n : Nat) (J0 : D_av1_reader_diffs_4 → Option ((List (Int)) × (T_api_Bits × Unit) × Unit)) (d : D_av1_reader_diffs_4) : Option ((List (Int)) × (T_api_Bits × Unit) × Unit) :=
  (P_av1_reader_number (((d.1, d.2.1, d.2.2.1, ()), ()), (2 : Int), ())).bind fun (r1 : Int × (T_api_Bits × Unit) × Unit) =>
  if (r1.1 == (0 : Int)) then
  some (d.2.2.2.1, r1.2.1, ())
  else
  if ((d.2.2.2.1.length : Int) == (16 : Int)) then
  some (([] : List (Int)), ((r1.2.1.1.1, r1.2.1.1.2.1, (6 : Int), ()), ()), ())
  else
  (P_av1_reader_number (r1.2.1, (IntKind.i64.wrap ((4 : Int) * r1.1)), ())).bind fun (r2 : Int × (T_api_Bits × Unit) × Unit) =>
  if decide ((d.2.2.2.1.length + ([(IntKind.i64.wrap (r2.1 + (1 : Int)))] : List (Int)).length) * 8 ≤ 140737488355328) then
  J0 (r2.2.1.1.1, r2.2.1.1.2.1, r2.2.1.1.2.2.1, (d.2.2.2.1 ++ ([(IntKind.i64.wrap (r2.1 + (1 : Int)))] : List (Int))), ()) else none
/-- (*av1.reader).diffs -/
noncomputable def N_av1_reader_diffs (n : Nat) (d : (T_api_Bits × Unit) × Bool × Unit) : Option ((List (Int)) × (T_api_Bits × Unit) × Unit) :=
  if (!d.2.1) then
  some (([] : List (Int)), d.1, ())
  else
  iter (L_av1_reader_diffs_4 n) n (d.1.1.1, d.1.1.2.1, d.1.1.2.2.1, ([] : List (Int)), ())
theorem e_av1_reader_diffs (n d) : fnK tab G_av1_reader_diffs an_av1_reader_diffs n Try.f47 (bodyOf Try.f47) in_av1_reader_diffs out_av1_reader_diffs d = N_av1_reader_diffs n d := by kernel_rfl
theorem E_av1_reader_diffs (d) : P_av1_reader_diffs d = N_av1_reader_diffs 1000000 d := e_av1_reader_diffs _ d
abbrev DJ_av1_Read_98 : Type := Bool × Bool × Int × Int × Bool × Int × Int × Int × (List (Int)) × (List (T_api_Template)) × (List (T_api_Size)) × Bool × Int × Bool × (List (Int)) × Bool × (List (Int)) × Bool × (List (Int)) × (List (Int)) × Int × Int × Bool × Bool × Int × Int × Bool × Int × Int × Int × (List (Int)) × (List (T_api_Template)) × (List (T_api_Size)) × Bool × Int × Bool × (List (Int)) × Bool × (List (Int)) × Bool × (List (Int)) × Int × Int × Int × (List (Int)) × (List (T_api_Template)) × (List (T_api_Size)) × Unit
noncomputable def J_av1_Read_98 (n : Nat) (d19 : DJ_av1_Read_98) : Option (T_api_Frame × Int × Unit) :=
  (P_av1_reader_list (((d19.2.2.2.2.2.2.2.2.2.2.2.2.2.2.2.2.2.2.2.1, d19.2.2.2.2.2.2.2.2.2.2.2.2.2.2.2.2.2.2.2.2.1, d19.2.2.2.2.2.2.2.2.2.2.2.2.2.2.2.2.2.2.2.2.2.1, ()), ()), d19.2.2.2.2.2.2.2.2.2.2.2.2.2.2.2.2.2.2.2.2.2.2.2.2.2.2.2.2.2.2.2.2.2.2.2.1, d19.2.2.2.2.2.2.2.2.2.2.2.2.2.2.2.2.2.2.2.2.2.2.2.2.2.2.2.2.2.2.2.2.2.2.2.2.2.2.2.2.2.2.1, (2 : Int), ())).bind fun (r21 : (List (Int)) × (T_api_Bits × Unit) × Unit) =>
  (P_av1_reader_diffs (r21.2.1, d19.2.2.2.2.2.2.2.2.2.2.2.2.2.2.2.2.2.2.2.2.2.2.2.2.2.2.2.2.2.2.2.2.2.2.2.2.2.1, ())).bind fun (r22 : (List (Int)) × (T_api_Bits × Unit) × Unit) =>
  (P_av1_reader_list (r22.2.1, d19.2.2.2.2.2.2.2.2.2.2.2.2.2.2.2.2.2.2.2.2.2.2.2.2.2.2.2.2.2.2.2.2.2.2.2.2.2.2.2.1, d19.2.2.2.2.2.2.2.2.2.2.2.2.2.2.2.2.2.2.2.2.2.2.2.2.2.2.2.2.2.2.2.2.2.2.2.2.2.2.2.2.2.2.2.1, (8 : Int), ())).bind fun (r23 : (List (Int)) × (T_api_Bits × Unit) × Unit) =>
  if (r23.2.1.1.2.2.1 != (0 : Int)) then
  some ((false, false, (0 : Int), (0 : Int), false, ((0 : Int), (0 : Int), (0 : Int), ([] : List (Int)), ([] : List (T_api_Template)), ([] : List (T_api_Size)), ()), false, (0 : Int), false, ([] : List (Int)), false, ([] : List (Int)), false, ([] : List (Int)), ()), r23.2.1.1.2.2.1, ())
  else
  (P_bits_Left r23.2.1).bind fun (r24 : Int × Unit) =>
  if (decide (r24.1 ≥ (8 : Int))) then
  some ((false, false, (0 : Int), (0 : Int), false, ((0 : Int), (0 : Int), (0 : Int), ([] : List (Int)), ([] : List (T_api_Template)), ([] : List (T_api_Size)), ()), false, (0 : Int), false, ([] : List (Int)), false, ([] : List (Int)), false, ([] : List (Int)), ()), (4 : Int), ())
  else
  some ((d19.2.2.2.2.2.2.2.2.2.2.2.2.2.2.2.2.2.2.2.2.2.2.1, d19.2.2.2.2.2.2.2.2.2.2.2.2.2.2.2.2.2.2.2.2.2.2.2.1, d19.2.2.2.2.2.2.2.2.2.2.2.2.2.2.2.2.2.2.2.2.2.2.2.2.1, d19.2.2.2.2.2.2.2.2.2.2.2.2.2.2.2.2.2.2.2.2.2.2.2.2.2.1, d19.2.2.2.2.2.2.2.2.2.2.2.2.2.2.2.2.2.2.2.2.2.2.2.2.2.2.1, (d19.2.2.2.2.2.2.2.2.2.2.2.2.2.2.2.2.2.2.2.2.2.2.2.2.2.2.2.1, d19.2.2.2.2.2.2.2.2.2.2.2.2.2.2.2.2.2.2.2.2.2.2.2.2.2.2.2.2.1, d19.2.2.2.2.2.2.2.2.2.2.2.2.2.2.2.2.2.2.2.2.2.2.2.2.2.2.2.2.2.1, d19.2.2.2.2.2.2.2.2.2.2.2.2.2.2.2.2.2.2.2.2.2.2.2.2.2.2.2.2.2.2.1, d19.2.2.2.2.2.2.2.2.2.2.2.2.2.2.2.2.2.2.2.2.2.2.2.2.2.2.2.2.2.2.2.1, d19.2.2.2.2.2.2.2.2.2.2.2.2.2.2.2.2.2.2.2.2.2.2.2.2.2.2.2.2.2.2.2.2.1, ()), d19.2.2.2.2.2.2.2.2.2.2.2.2.2.2.2.2.2.2.2.2.2.2.2.2.2.2.2.2.2.2.2.2.2.1, d19.2.2.2.2.2.2.2.2.2.2.2.2.2.2.2.2.2.2.2.2.2.2.2.2.2.2.2.2.2.2.2.2.2.2.1, d19.2.2.2.2.2.2.2.2.2.2.2.2.2.2.2.2.2.2.2.2.2.2.2.2.2.2.2.2.2.2.2.2.2.2.2.1, r21.1, d19.2.2.2.2.2.2.2.2.2.2.2.2.2.2.2.2.2.2.2.2.2.2.2.2.2.2.2.2.2.2.2.2.2.2.2.2.2.1, r22.1, d19.2.2.2.2.2.2.2.2.2.2.2.2.2.2.2.2.2.2.2.2.2.2.2.2.2.2.2.2.2.2.2.2.2.2.2.2.2.2.2.1, r23.1, ()), (0 : Int), ())
abbrev DJ_av1_Read_56 : Type := Int × Int × Int × (List (Int)) × (List (T_api_Template)) × (List (T_api_Size)) × Bool × Bool × Int × Int × Bool × Int × Int × Int × (List (Int)) × (List (T_api_Template)) × (List (T_api_Size)) × Bool × Int × Bool × (List (Int)) × Bool × (List (Int)) × Bool × (List (Int)) × (List (Int)) × Int × Int × Bool × Bool × Int × Int × Bool × Int × Int × Int × (List (Int)) × (List (T_api_Template)) × (List (T_api_Size)) × Bool × Int × Bool × (List (Int)) × Bool × (List (Int)) × Bool × (List (Int)) × Unit
noncomputable def J_av1_Read_56 (n : Nat) (d14 : DJ_av1_Read_56) : Option (T_api_Frame × Int × Unit) :=
  if (d14.2.2.2.2.2.2.2.2.2.2.2.2.2.2.2.2.2.2.2.2.2.2.2.2.2.2.2.1 != (0 : Int)) then
  some ((false, false, (0 : Int), (0 : Int), false, ((0 : Int), (0 : Int), (0 : Int), ([] : List (Int)), ([] : List (T_api_Template)), ([] : List (T_api_Size)), ()), false, (0 : Int), false, ([] : List (Int)), false, ([] : List (Int)), false, ([] : List (Int)), ()), d14.2.2.2.2.2.2.2.2.2.2.2.2.2.2.2.2.2.2.2.2.2.2.2.2.2.2.2.1, ())
  else
  (P_av1_structure ((d14.2.2.2.2.2.2.2.2.2.2.2.2.2.2.2.2.2.2.2.2.2.2.2.2.2.2.2.2.1, d14.2.2.2.2.2.2.2.2.2.2.2.2.2.2.2.2.2.2.2.2.2.2.2.2.2.2.2.2.2.1, d14.2.2.2.2.2.2.2.2.2.2.2.2.2.2.2.2.2.2.2.2.2.2.2.2.2.2.2.2.2.2.1, d14.2.2.2.2.2.2.2.2.2.2.2.2.2.2.2.2.2.2.2.2.2.2.2.2.2.2.2.2.2.2.2.1, d14.2.2.2.2.2.2.2.2.2.2.2.2.2.2.2.2.2.2.2.2.2.2.2.2.2.2.2.2.2.2.2.2.1, (d14.2.2.2.2.2.2.2.2.2.2.2.2.2.2.2.2.2.2.2.2.2.2.2.2.2.2.2.2.2.2.2.2.2.1, d14.2.2.2.2.2.2.2.2.2.2.2.2.2.2.2.2.2.2.2.2.2.2.2.2.2.2.2.2.2.2.2.2.2.2.1, d14.2.2.2.2.2.2.2.2.2.2.2.2.2.2.2.2.2.2.2.2.2.2.2.2.2.2.2.2.2.2.2.2.2.2.2.1, d14.2.2.2.2.2.2.2.2.2.2.2.2.2.2.2.2.2.2.2.2.2.2.2.2.2.2.2.2.2.2.2.2.2.2.2.2.1, d14.2.2.2.2.2.2.2.2.2.2.2.2.2.2.2.2.2.2.2.2.2.2.2.2.2.2.2.2.2.2.2.2.2.2.2.2.2.1, d14.2.2.2.2.2.2.2.2.2.2.2.2.2.2.2.2.2.2.2.2.2.2.2.2.2.2.2.2.2.2.2.2.2.2.2.2.2.2.1, ()), d14.2.2.2.2.2.2.2.2.2.2.2.2.2.2.2.2.2.2.2.2.2.2.2.2.2.2.2.2.2.2.2.2.2.2.2.2.2.2.2.1, d14.2.2.2.2.2.2.2.2.2.2.2.2.2.2.2.2.2.2.2.2.2.2.2.2.2.2.2.2.2.2.2.2.2.2.2.2.2.2.2.2.1, d14.2.2.2.2.2.2.2.2.2.2.2.2.2.2.2.2.2.2.2.2.2.2.2.2.2.2.2.2.2.2.2.2.2.2.2.2.2.2.2.2.2.1, d14.2.2.2.2.2.2.2.2.2.2.2.2.2.2.2.2.2.2.2.2.2.2.2.2.2.2.2.2.2.2.2.2.2.2.2.2.2.2.2.2.2.2.1, d14.2.2.2.2.2.2.2.2.2.2.2.2.2.2.2.2.2.2.2.2.2.2.2.2.2.2.2.2.2.2.2.2.2.2.2.2.2.2.2.2.2.2.2.1, d14.2.2.2.2.2.2.2.2.2.2.2.2.2.2.2.2.2.2.2.2.2.2.2.2.2.2.2.2.2.2.2.2.2.2.2.2.2.2.2.2.2.2.2.2.1, d14.2.2.2.2.2.2.2.2.2.2.2.2.2.2.2.2.2.2.2.2.2.2.2.2.2.2.2.2.2.2.2.2.2.2.2.2.2.2.2.2.2.2.2.2.2.1, d14.2.2.2.2.2.2.2.2.2.2.2.2.2.2.2.2.2.2.2.2.2.2.2.2.2.2.2.2.2.2.2.2.2.2.2.2.2.2.2.2.2.2.2.2.2.2.1, ()), (d14.1, d14.2.1, d14.2.2.1, d14.2.2.2.1, d14.2.2.2.2.1, d14.2.2.2.2.2.1, ()), ())).bind fun (r16 : T_api_Structure × Unit) =>
  (P_av1_nothing (r16.1, ())).bind fun (r17 : Bool × Unit) =>
  if r17.1 then
  some ((false, false, (0 : Int), (0 : Int), false, ((0 : Int), (0 : Int), (0 : Int), ([] : List (Int)), ([] : List (T_api_Template)), ([] : List (T_api_Size)), ()), false, (0 : Int), false, ([] : List (Int)), false, ([] : List (Int)), false, ([] : List (Int)), ()), (8 : Int), ())
  else
  (P_av1_place (d14.2.2.2.2.2.2.2.2.2.2.2.2.2.2.2.2.2.2.2.2.2.2.2.2.2.2.2.2.2.2.1, r16.1, ())).bind fun (r18 : Int × Bool × Unit) =>
  if (!r18.2.1) then
  some ((false, false, (0 : Int), (0 : Int), false, ((0 : Int), (0 : Int), (0 : Int), ([] : List (Int)), ([] : List (T_api_Template)), ([] : List (T_api_Size)), ()), false, (0 : Int), false, ([] : List (Int)), false, ([] : List (Int)), false, ([] : List (Int)), ()), (6 : Int), ())
  else
  (if d14.2.2.2.2.2.2.2.2.2.2.2.2.2.2.2.2.2.2.2.2.2.2.2.2.2.2.2.2.2.2.2.2.2.2.2.2.2.2.2.1 then
  (P_av1_reader_number (((d14.2.2.2.2.2.2.2.2.2.2.2.2.2.2.2.2.2.2.2.2.2.2.2.2.2.1, d14.2.2.2.2.2.2.2.2.2.2.2.2.2.2.2.2.2.2.2.2.2.2.2.2.2.2.1, d14.2.2.2.2.2.2.2.2.2.2.2.2.2.2.2.2.2.2.2.2.2.2.2.2.2.2.2.1, ()), ()), r16.1.2.1, ())).bind fun (r20 : Int × (T_api_Bits × Unit) × Unit) =>
  some (d14.2.2.2.2.2.2.1, d14.2.2.2.2.2.2.2.1, d14.2.2.2.2.2.2.2.2.1, d14.2.2.2.2.2.2.2.2.2.1, d14.2.2.2.2.2.2.2.2.2.2.1, d14.2.2.2.2.2.2.2.2.2.2.2.1, d14.2.2.2.2.2.2.2.2.2.2.2.2.1, d14.2.2.2.2.2.2.2.2.2.2.2.2.2.1, d14.2.2.2.2.2.2.2.2.2.2.2.2.2.2.1, d14.2.2.2.2.2.2.2.2.2.2.2.2.2.2.2.1, d14.2.2.2.2.2.2.2.2.2.2.2.2.2.2.2.2.1, d14.2.2.2.2.2.2.2.2.2.2.2.2.2.2.2.2.2.1, d14.2.2.2.2.2.2.2.2.2.2.2.2.2.2.2.2.2.2.1, d14.2.2.2.2.2.2.2.2.2.2.2.2.2.2.2.2.2.2.2.1, d14.2.2.2.2.2.2.2.2.2.2.2.2.2.2.2.2.2.2.2.2.1, d14.2.2.2.2.2.2.2.2.2.2.2.2.2.2.2.2.2.2.2.2.2.1, d14.2.2.2.2.2.2.2.2.2.2.2.2.2.2.2.2.2.2.2.2.2.2.1, d14.2.2.2.2.2.2.2.2.2.2.2.2.2.2.2.2.2.2.2.2.2.2.2.1, d14.2.2.2.2.2.2.2.2.2.2.2.2.2.2.2.2.2.2.2.2.2.2.2.2.1, r20.2.1.1.1, r20.2.1.1.2.1, r20.2.1.1.2.2.1, d14.2.2.2.2.2.2.2.2.2.2.2.2.2.2.2.2.2.2.2.2.2.2.2.2.2.2.2.2.1, d14.2.2.2.2.2.2.2.2.2.2.2.2.2.2.2.2.2.2.2.2.2.2.2.2.2.2.2.2.2.1, d14.2.2.2.2.2.2.2.2.2.2.2.2.2.2.2.2.2.2.2.2.2.2.2.2.2.2.2.2.2.2.1, d14.2.2.2.2.2.2.2.2.2.2.2.2.2.2.2.2.2.2.2.2.2.2.2.2.2.2.2.2.2.2.2.1, d14.2.2.2.2.2.2.2.2.2.2.2.2.2.2.2.2.2.2.2.2.2.2.2.2.2.2.2.2.2.2.2.2.1, d14.2.2.2.2.2.2.2.2.2.2.2.2.2.2.2.2.2.2.2.2.2.2.2.2.2.2.2.2.2.2.2.2.2.1, d14.2.2.2.2.2.2.2.2.2.2.2.2.2.2.2.2.2.2.2.2.2.2.2.2.2.2.2.2.2.2.2.2.2.2.1, d14.2.2.2.2.2.2.2.2.2.2.2.2.2.2.2.2.2.2.2.2.2.2.2.2.2.2.2.2.2.2.2.2.2.2.2.1, d14.2.2.2.2.2.2.2.2.2.2.2.2.2.2.2.2.2.2.2.2.2.2.2.2.2.2.2.2.2.2.2.2.2.2.2.2.1, d14.2.2.2.2.2.2.2.2.2.2.2.2.2.2.2.2.2.2.2.2.2.2.2.2.2.2.2.2.2.2.2.2.2.2.2.2.2.1, d14.2.2.2.2.2.2.2.2.2.2.2.2.2.2.2.2.2.2.2.2.2.2.2.2.2.2.2.2.2.2.2.2.2.2.2.2.2.2.1, d14.2.2.2.2.2.2.2.2.2.2.2.2.2.2.2.2.2.2.2.2.2.2.2.2.2.2.2.2.2.2.2.2.2.2.2.2.2.2.2.1, (IntKind.u32.wrap r20.1), d14.2.2.2.2.2.2.2.2.2.2.2.2.2.2.2.2.2.2.2.2.2.2.2.2.2.2.2.2.2.2.2.2.2.2.2.2.2.2.2.2.2.1, d14.2.2.2.2.2.2.2.2.2.2.2.2.2.2.2.2.2.2.2.2.2.2.2.2.2.2.2.2.2.2.2.2.2.2.2.2.2.2.2.2.2.2.1, d14.2.2.2.2.2.2.2.2.2.2.2.2.2.2.2.2.2.2.2.2.2.2.2.2.2.2.2.2.2.2.2.2.2.2.2.2.2.2.2.2.2.2.2.1, d14.2.2.2.2.2.2.2.2.2.2.2.2.2.2.2.2.2.2.2.2.2.2.2.2.2.2.2.2.2.2.2.2.2.2.2.2.2.2.2.2.2.2.2.2.1, d14.2.2.2.2.2.2.2.2.2.2.2.2.2.2.2.2.2.2.2.2.2.2.2.2.2.2.2.2.2.2.2.2.2.2.2.2.2.2.2.2.2.2.2.2.2.1, d14.2.2.2.2.2.2.2.2.2.2.2.2.2.2.2.2.2.2.2.2.2.2.2.2.2.2.2.2.2.2.2.2.2.2.2.2.2.2.2.2.2.2.2.2.2.2.1, r16.1.1, r16.1.2.1, r16.1.2.2.1, r16.1.2.2.2.1, r16.1.2.2.2.2.1, r16.1.2.2.2.2.2.1, ())
  else
  some (d14.2.2.2.2.2.2.1, d14.2.2.2.2.2.2.2.1, d14.2.2.2.2.2.2.2.2.1, d14.2.2.2.2.2.2.2.2.2.1, d14.2.2.2.2.2.2.2.2.2.2.1, d14.2.2.2.2.2.2.2.2.2.2.2.1, d14.2.2.2.2.2.2.2.2.2.2.2.2.1, d14.2.2.2.2.2.2.2.2.2.2.2.2.2.1, d14.2.2.2.2.2.2.2.2.2.2.2.2.2.2.1, d14.2.2.2.2.2.2.2.2.2.2.2.2.2.2.2.1, d14.2.2.2.2.2.2.2.2.2.2.2.2.2.2.2.2.1, d14.2.2.2.2.2.2.2.2.2.2.2.2.2.2.2.2.2.1, d14.2.2.2.2.2.2.2.2.2.2.2.2.2.2.2.2.2.2.1, d14.2.2.2.2.2.2.2.2.2.2.2.2.2.2.2.2.2.2.2.1, d14.2.2.2.2.2.2.2.2.2.2.2.2.2.2.2.2.2.2.2.2.1, d14.2.2.2.2.2.2.2.2.2.2.2.2.2.2.2.2.2.2.2.2.2.1, d14.2.2.2.2.2.2.2.2.2.2.2.2.2.2.2.2.2.2.2.2.2.2.1, d14.2.2.2.2.2.2.2.2.2.2.2.2.2.2.2.2.2.2.2.2.2.2.2.1, d14.2.2.2.2.2.2.2.2.2.2.2.2.2.2.2.2.2.2.2.2.2.2.2.2.1, d14.2.2.2.2.2.2.2.2.2.2.2.2.2.2.2.2.2.2.2.2.2.2.2.2.2.1, d14.2.2.2.2.2.2.2.2.2.2.2.2.2.2.2.2.2.2.2.2.2.2.2.2.2.2.1, d14.2.2.2.2.2.2.2.2.2.2.2.2.2.2.2.2.2.2.2.2.2.2.2.2.2.2.2.1, d14.2.2.2.2.2.2.2.2.2.2.2.2.2.2.2.2.2.2.2.2.2.2.2.2.2.2.2.2.1, d14.2.2.2.2.2.2.2.2.2.2.2.2.2.2.2.2.2.2.2.2.2.2.2.2.2.2.2.2.2.1, d14.2.2.2.2.2.2.2.2.2.2.2.2.2.2.2.2.2.2.2.2.2.2.2.2.2.2.2.2.2.2.1, d14.2.2.2.2.2.2.2.2.2.2.2.2.2.2.2.2.2.2.2.2.2.2.2.2.2.2.2.2.2.2.2.1, d14.2.2.2.2.2.2.2.2.2.2.2.2.2.2.2.2.2.2.2.2.2.2.2.2.2.2.2.2.2.2.2.2.1, d14.2.2.2.2.2.2.2.2.2.2.2.2.2.2.2.2.2.2.2.2.2.2.2.2.2.2.2.2.2.2.2.2.2.1, d14.2.2.2.2.2.2.2.2.2.2.2.2.2.2.2.2.2.2.2.2.2.2.2.2.2.2.2.2.2.2.2.2.2.2.1, d14.2.2.2.2.2.2.2.2.2.2.2.2.2.2.2.2.2.2.2.2.2.2.2.2.2.2.2.2.2.2.2.2.2.2.2.1, d14.2.2.2.2.2.2.2.2.2.2.2.2.2.2.2.2.2.2.2.2.2.2.2.2.2.2.2.2.2.2.2.2.2.2.2.2.1, d14.2.2.2.2.2.2.2.2.2.2.2.2.2.2.2.2.2.2.2.2.2.2.2.2.2.2.2.2.2.2.2.2.2.2.2.2.2.1, d14.2.2.2.2.2.2.2.2.2.2.2.2.2.2.2.2.2.2.2.2.2.2.2.2.2.2.2.2.2.2.2.2.2.2.2.2.2.2.1, d14.2.2.2.2.2.2.2.2.2.2.2.2.2.2.2.2.2.2.2.2.2.2.2.2.2.2.2.2.2.2.2.2.2.2.2.2.2.2.2.1, d14.2.2.2.2.2.2.2.2.2.2.2.2.2.2.2.2.2.2.2.2.2.2.2.2.2.2.2.2.2.2.2.2.2.2.2.2.2.2.2.2.1, d14.2.2.2.2.2.2.2.2.2.2.2.2.2.2.2.2.2.2.2.2.2.2.2.2.2.2.2.2.2.2.2.2.2.2.2.2.2.2.2.2.2.1, d14.2.2.2.2.2.2.2.2.2.2.2.2.2.2.2.2.2.2.2.2.2.2.2.2.2.2.2.2.2.2.2.2.2.2.2.2.2.2.2.2.2.2.1, d14.2.2.2.2.2.2.2.2.2.2.2.2.2.2.2.2.2.2.2.2.2.2.2.2.2.2.2.2.2.2.2.2.2.2.2.2.2.2.2.2.2.2.2.1, d14.2.2.2.2.2.2.2.2.2.2.2.2.2.2.2.2.2.2.2.2.2.2.2.2.2.2.2.2.2.2.2.2.2.2.2.2.2.2.2.2.2.2.2.2.1, d14.2.2.2.2.2.2.2.2.2.2.2.2.2.2.2.2.2.2.2.2.2.2.2.2.2.2.2.2.2.2.2.2.2.2.2.2.2.2.2.2.2.2.2.2.2.1, d14.2.2.2.2.2.2.2.2.2.2.2.2.2.2.2.2.2.2.2.2.2.2.2.2.2.2.2.2.2.2.2.2.2.2.2.2.2.2.2.2.2.2.2.2.2.2.1, r16.1.1, r16.1.2.1, r16.1.2.2.1, r16.1.2.2.2.1, r16.1.2.2.2.2.1, r16.1.2.2.2.2.2.1, ()) : Option (Bool × Bool × Int × Int × Bool × Int × Int × Int × (List (Int)) × (List (T_api_Template)) × (List (T_api_Size)) × Bool × Int × Bool × (List (Int)) × Bool × (List (Int)) × Bool × (List (Int)) × (List (Int)) × Int × Int × Bool × Bool × Int × Int × Bool × Int × Int × Int × (List (Int)) × (List (T_api_Template)) × (List (T_api_Size)) × Bool × Int × Bool × (List (Int)) × Bool × (List (Int)) × Bool × (List (Int)) × Int × Int × Int × (List (Int)) × (List (T_api_Template)) × (List (T_api_Size)) × Unit)).bind (J_av1_Read_98 n)
abbrev DJ_av1_Read_39 : Type := Int × Int × Int × (List (Int)) × (List (T_api_Template)) × (List (T_api_Size)) × Bool × Bool × Int × Int × Bool × Int × Int × Int × (List (Int)) × (List (T_api_Template)) × (List (T_api_Size)) × Bool × Int × Bool × (List (Int)) × Bool × (List (Int)) × Bool × (List (Int)) × (List (Int)) × Int × Int × Bool × Bool × Int × Int × Bool × Int × Int × Int × (List (Int)) × (List (T_api_Template)) × (List (T_api_Size)) × Bool × Int × Bool × (List (Int)) × Bool × (List (Int)) × Bool × (List (Int)) × Unit
noncomputable def J_av1_Read_39 (n : Nat) (d8 : DJ_av1_Read_39) : Option (T_api_Frame × Int × Unit) :=
  (if d8.2.2.2.2.2.2.2.2.2.2.2.2.2.2.2.2.2.2.2.2.2.2.2.2.2.2.2.2.2.2.2.2.1 then
  (P_templ_Get ((d8.2.2.2.2.2.2.2.2.2.2.2.2.2.2.2.2.2.2.2.2.2.2.2.2.2.1, d8.2.2.2.2.2.2.2.2.2.2.2.2.2.2.2.2.2.2.2.2.2.2.2.2.2.2.1, d8.2.2.2.2.2.2.2.2.2.2.2.2.2.2.2.2.2.2.2.2.2.2.2.2.2.2.2.1, ()), ())).bind fun (r15 : T_api_Bits × T_api_Structure × Unit) =>
  some (d8.1, d8.2.1, d8.2.2.1, d8.2.2.2.1, d8.2.2.2.2.1, d8.2.2.2.2.2.1, d8.2.2.2.2.2.2.1, d8.2.2.2.2.2.2.2.1, d8.2.2.2.2.2.2.2.2.1, d8.2.2.2.2.2.2.2.2.2.1, d8.2.2.2.2.2.2.2.2.2.2.1, d8.2.2.2.2.2.2.2.2.2.2.2.1, d8.2.2.2.2.2.2.2.2.2.2.2.2.1, d8.2.2.2.2.2.2.2.2.2.2.2.2.2.1, d8.2.2.2.2.2.2.2.2.2.2.2.2.2.2.1, d8.2.2.2.2.2.2.2.2.2.2.2.2.2.2.2.1, d8.2.2.2.2.2.2.2.2.2.2.2.2.2.2.2.2.1, d8.2.2.2.2.2.2.2.2.2.2.2.2.2.2.2.2.2.1, d8.2.2.2.2.2.2.2.2.2.2.2.2.2.2.2.2.2.2.1, d8.2.2.2.2.2.2.2.2.2.2.2.2.2.2.2.2.2.2.2.1, d8.2.2.2.2.2.2.2.2.2.2.2.2.2.2.2.2.2.2.2.2.1, d8.2.2.2.2.2.2.2.2.2.2.2.2.2.2.2.2.2.2.2.2.2.1, d8.2.2.2.2.2.2.2.2.2.2.2.2.2.2.2.2.2.2.2.2.2.2.1, d8.2.2.2.2.2.2.2.2.2.2.2.2.2.2.2.2.2.2.2.2.2.2.2.1, d8.2.2.2.2.2.2.2.2.2.2.2.2.2.2.2.2.2.2.2.2.2.2.2.2.1, r15.1.1, r15.1.2.1, r15.1.2.2.1, d8.2.2.2.2.2.2.2.2.2.2.2.2.2.2.2.2.2.2.2.2.2.2.2.2.2.2.2.2.1, d8.2.2.2.2.2.2.2.2.2.2.2.2.2.2.2.2.2.2.2.2.2.2.2.2.2.2.2.2.2.1, d8.2.2.2.2.2.2.2.2.2.2.2.2.2.2.2.2.2.2.2.2.2.2.2.2.2.2.2.2.2.2.1, d8.2.2.2.2.2.2.2.2.2.2.2.2.2.2.2.2.2.2.2.2.2.2.2.2.2.2.2.2.2.2.2.1, d8.2.2.2.2.2.2.2.2.2.2.2.2.2.2.2.2.2.2.2.2.2.2.2.2.2.2.2.2.2.2.2.2.1, r15.2.1.1, r15.2.1.2.1, r15.2.1.2.2.1, r15.2.1.2.2.2.1, r15.2.1.2.2.2.2.1, r15.2.1.2.2.2.2.2.1, d8.2.2.2.2.2.2.2.2.2.2.2.2.2.2.2.2.2.2.2.2.2.2.2.2.2.2.2.2.2.2.2.2.2.2.2.2.2.2.2.1, d8.2.2.2.2.2.2.2.2.2.2.2.2.2.2.2.2.2.2.2.2.2.2.2.2.2.2.2.2.2.2.2.2.2.2.2.2.2.2.2.2.1, d8.2.2.2.2.2.2.2.2.2.2.2.2.2.2.2.2.2.2.2.2.2.2.2.2.2.2.2.2.2.2.2.2.2.2.2.2.2.2.2.2.2.1, d8.2.2.2.2.2.2.2.2.2.2.2.2.2.2.2.2.2.2.2.2.2.2.2.2.2.2.2.2.2.2.2.2.2.2.2.2.2.2.2.2.2.2.1, d8.2.2.2.2.2.2.2.2.2.2.2.2.2.2.2.2.2.2.2.2.2.2.2.2.2.2.2.2.2.2.2.2.2.2.2.2.2.2.2.2.2.2.2.1, d8.2.2.2.2.2.2.2.2.2.2.2.2.2.2.2.2.2.2.2.2.2.2.2.2.2.2.2.2.2.2.2.2.2.2.2.2.2.2.2.2.2.2.2.2.1, d8.2.2.2.2.2.2.2.2.2.2.2.2.2.2.2.2.2.2.2.2.2.2.2.2.2.2.2.2.2.2.2.2.2.2.2.2.2.2.2.2.2.2.2.2.2.1, d8.2.2.2.2.2.2.2.2.2.2.2.2.2.2.2.2.2.2.2.2.2.2.2.2.2.2.2.2.2.2.2.2.2.2.2.2.2.2.2.2.2.2.2.2.2.2.1, ())
  else
  some d8 : Option (Int × Int × Int × (List (Int)) × (List (T_api_Template)) × (List (T_api_Size)) × Bool × Bool × Int × Int × Bool × Int × Int × Int × (List (Int)) × (List (T_api_Template)) × (List (T_api_Size)) × Bool × Int × Bool × (List (Int)) × Bool × (List (Int)) × Bool × (List (Int)) × (List (Int)) × Int × Int × Bool × Bool × Int × Int × Bool × Int × Int × Int × (List (Int)) × (List (T_api_Template)) × (List (T_api_Size)) × Bool × Int × Bool × (List (Int)) × Bool × (List (Int)) × Bool × (List (Int)) × Unit)).bind (J_av1_Read_56 n)
/-- av1.Read -/
noncomputable def N_av1_Read (n : Nat) (d : (List (Int)) × T_api_Structure × Unit) : Option (T_api_Frame × Int × Unit) :=
  (P_av1_nothing (d.2.1, ())).bind fun (r1 : Bool × Unit) =>
  (if (!r1.1) then (P_templ_Right (d.2.1, ())) else some (false, ()) : Option (Bool × Unit)).bind fun (r2 : Bool × Unit) =>
  if (if (!r1.1) then (!r2.1) else false) then
  some ((false, false, (0 : Int), (0 : Int), false, ((0 : Int), (0 : Int), (0 : Int), ([] : List (Int)), ([] : List (T_api_Template)), ([] : List (T_api_Size)), ()), false, (0 : Int), false, ([] : List (Int)), false, ([] : List (Int)), false, ([] : List (Int)), ()), (1 : Int), ())
  else
  if (decide ((d.1.length : Int) < (3 : Int))) then
  some ((false, false, (0 : Int), (0 : Int), false, ((0 : Int), (0 : Int), (0 : Int), ([] : List (Int)), ([] : List (T_api_Template)), ([] : List (T_api_Size)), ()), false, (0 : Int), false, ([] : List (Int)), false, ([] : List (Int)), false, ([] : List (Int)), ()), (2 : Int), ())
  else
  (P_bits_Start (d.1, ())).bind fun (r3 : T_api_Bits × Unit) =>
  (P_av1_reader_truth ((r3.1, ()), ())).bind fun (r4 : Bool × (T_api_Bits × Unit) × Unit) =>
  (P_av1_reader_truth (r4.2.1, ())).bind fun (r5 : Bool × (T_api_Bits × Unit) × Unit) =>
  (P_av1_reader_number (r5.2.1, (6 : Int), ())).bind fun (r6 : Int × (T_api_Bits × Unit) × Unit) =>
  (P_av1_reader_number (r6.2.1, (16 : Int), ())).bind fun (r7 : Int × (T_api_Bits × Unit) × Unit) =>
  (if (decide ((d.1.length : Int) > (3 : Int))) then
  (P_av1_reader_truth (r7.2.1, ())).bind fun (r9 : Bool × (T_api_Bits × Unit) × Unit) =>
  (P_av1_reader_truth (r9.2.1, ())).bind fun (r10 : Bool × (T_api_Bits × Unit) × Unit) =>
  (P_av1_reader_truth (r10.2.1, ())).bind fun (r11 : Bool × (T_api_Bits × Unit) × Unit) =>
  (P_av1_reader_truth (r11.2.1, ())).bind fun (r12 : Bool × (T_api_Bits × Unit) × Unit) =>
  (P_av1_reader_truth (r12.2.1, ())).bind fun (r13 : Bool × (T_api_Bits × Unit) × Unit) =>
  some (d.2.1.1, d.2.1.2.1, d.2.1.2.2.1, d.2.1.2.2.2.1, d.2.1.2.2.2.2.1, d.2.1.2.2.2.2.2.1, false, false, (0 : Int), (0 : Int), false, (0 : Int), (0 : Int), (0 : Int), ([] : List (Int)), ([] : List (T_api_Template)), ([] : List (T_api_Size)), false, (0 : Int), false, ([] : List (Int)), false, ([] : List (Int)), false, ([] : List (Int)), r13.2.1.1.1, r13.2.1.1.2.1, r13.2.1.1.2.2.1, r4.1, r5.1, r6.1, r7.1, r9.1, (0 : Int), (0 : Int), (0 : Int), ([] : List (Int)), ([] : List (T_api_Template)), ([] : List (T_api_Size)), r10.1, (0 : Int), r11.1, ([] : List (Int)), r12.1, ([] : List (Int)), r13.1, ([] : List (Int)), ())
  else
  some (d.2.1.1, d.2.1.2.1, d.2.1.2.2.1, d.2.1.2.2.2.1, d.2.1.2.2.2.2.1, d.2.1.2.2.2.2.2.1, false, false, (0 : Int), (0 : Int), false, (0 : Int), (0 : Int), (0 : Int), ([] : List (Int)), ([] : List (T_api_Template)), ([] : List (T_api_Size)), false, (0 : Int), false, ([] : List (Int)), false, ([] : List (Int)), false, ([] : List (Int)), r7.2.1.1.1, r7.2.1.1.2.1, r7.2.1.1.2.2.1, r4.1, r5.1, r6.1, r7.1, false, (0 : Int), (0 : Int), (0 : Int), ([] : List (Int)), ([] : List (T_api_Template)), ([] : List (T_api_Size)), false, (0 : Int), false, ([] : List (Int)), false, ([] : List (Int)), false, ([] : List (Int)), ()) : Option (Int × Int × Int × (List (Int)) × (List (T_api_Template)) × (List (T_api_Size)) × Bool × Bool × Int × Int × Bool × Int × Int × Int × (List (Int)) × (List (T_api_Template)) × (List (T_api_Size)) × Bool × Int × Bool × (List (Int)) × Bool × (List (Int)) × Bool × (List (Int)) × (List (Int)) × Int × Int × Bool × Bool × Int × Int × Bool × Int × Int × Int × (List (Int)) × (List (T_api_Template)) × (List (T_api_Size)) × Bool × Int × Bool × (List (Int)) × Bool × (List (Int)) × Bool × (List (Int)) × Unit)).bind (J_av1_Read_39 n)
theorem e_av1_Read (n d) : fnK tab G_av1_Read an_av1_Read n Try.f16 (bodyOf Try.f16) in_av1_Read out_av1_Read d = N_av1_Read n d := by kernel_rfl
theorem E_av1_Read (d) : P_av1_Read d = N_av1_Read 1000000 d := e_av1_Read _ d
abbrev D_av1_Known_7 : Type := Int × Int × Int × (List (Int)) × (List (T_api_Template)) × (List (T_api_Size)) × Int × Int × Int × (List (Int)) × (List (T_api_Template)) × (List (T_api_Size)) × Int × Int × Unit
noncomputable def L_av1_Known_7 (n : Nat) (J0 : D_av1_Known_7 → Option (T_api_Structure × Unit)) (d : D_av1_Known_7) : Option (T_api_Structure × Unit) :=
  if (decide (d.2.2.2.2.2.2.2.2.2.2.2.2.2.1 < d.2.2.2.2.2.2.2.2.2.2.2.2.1)) then
  if decide (0 ≤ d.2.2.2.2.2.2.2.2.2.2.2.2.2.1 ∧ d.2.2.2.2.2.2.2.2.2.2.2.2.2.1 < (d.2.2.2.2.2.2.2.2.2.2.1.length : Int)) then
  (P_av1_copyOf ((d.2.2.2.2.2.2.2.2.2.2.1.getD d.2.2.2.2.2.2.2.2.2.2.2.2.2.1.toNat ((0 : Int), (0 : Int), [], [], [], ())), ())).bind fun (r7 : T_api_Template × Unit) =>
  if decide (0 ≤ d.2.2.2.2.2.2.2.2.2.2.2.2.2.1 ∧ d.2.2.2.2.2.2.2.2.2.2.2.2.2.1 < (d.2.2.2.2.2.2.2.2.2.2.1.length : Int)) then
  J0 (d.1, d.2.1, d.2.2.1, d.2.2.2.1, d.2.2.2.2.1, d.2.2.2.2.2.1, d.2.2.2.2.2.2.1, d.2.2.2.2.2.2.2.1, d.2.2.2.2.2.2.2.2.1, d.2.2.2.2.2.2.2.2.2.1, (d.2.2.2.2.2.2.2.2.2.2.1.set d.2.2.2.2.2.2.2.2.2.2.2.2.2.1.toNat r7.1), d.2.2.2.2.2.2.2.2.2.2.2.1, d.2.2.2.2.2.2.2.2.2.2.2.2.1, (IntKind.i64.wrap (d.2.2.2.2.2.2.2.2.2.2.2.2.2.1 + (1 : Int))), ()) else none else none
  else
  some ((d.2.2.2.2.2.2.1, d.2.2.2.2.2.2.2.1, d.2.2.2.2.2.2.2.2.1, d.2.2.2.2.2.2.2.2.2.1, d.2.2.2.2.2.2.2.2.2.2.1, d.2.2.2.2.2.2.2.2.2.2.2.1, ()), ())
/-- av1.Known -/
noncomputable def N_av1_Known (n : Nat) (d : T_api_Frame × T_api_Structure × Unit) : Option (T_api_Structure × Unit) :=
  (P_av1_Right d).bind fun (r1 : Bool × Unit) =>
  (if r1.1 then
  (P_av1_structure d).bind fun (r3 : T_api_Structure × Unit) =>
  some ((0 : Int), (0 : Int), (0 : Int), ([] : List (Int)), ([] : List (T_api_Template)), ([] : List (T_api_Size)), r3.1.1, r3.1.2.1, r3.1.2.2.1, r3.1.2.2.2.1, r3.1.2.2.2.2.1, r3.1.2.2.2.2.2.1, ())
  else
  some ((0 : Int), (0 : Int), (0 : Int), ([] : List (Int)), ([] : List (T_api_Template)), ([] : List (T_api_Size)), d.2.1.1, d.2.1.2.1, d.2.1.2.2.1, d.2.1.2.2.2.1, d.2.1.2.2.2.2.1, d.2.1.2.2.2.2.2.1, ()) : Option (Int × Int × Int × (List (Int)) × (List (T_api_Template)) × (List (T_api_Size)) × Int × Int × Int × (List (Int)) × (List (T_api_Template)) × (List (T_api_Size)) × Unit)).bind (fun (d2 : Int × Int × Int × (List (Int)) × (List (T_api_Template)) × (List (T_api_Size)) × Int × Int × Int × (List (Int)) × (List (T_api_Template)) × (List (T_api_Size)) × Unit) =>
  (P_slices_Clone_int_int (d2.2.2.2.2.2.2.2.2.2.1, ())).bind fun (r4 : (List (Int)) × Unit) =>
  (P_slices_Clone_api_Size_api_Size (d2.2.2.2.2.2.2.2.2.2.2.2.1, ())).bind fun (r5 : (List (T_api_Size)) × Unit) =>
  (P_slices_Clone_api_Template_api_Template (d2.2.2.2.2.2.2.2.2.2.2.1, ())).bind fun (r6 : (List (T_api_Template)) × Unit) =>
  iter (L_av1_Known_7 n) n (d2.1, d2.2.1, d2.2.2.1, d2.2.2.2.1, d2.2.2.2.2.1, d2.2.2.2.2.2.1, d2.2.2.2.2.2.2.1, d2.2.2.2.2.2.2.2.1, d2.2.2.2.2.2.2.2.2.1, r4.1, r6.1, r5.1, (r6.1.length : Int), (0 : Int), ()))
theorem e_av1_Known (n d) : fnK tab G_av1_Known an_av1_Known n Try.f20 (bodyOf Try.f20) in_av1_Known out_av1_Known d = N_av1_Known n d := by kernel_rfl
theorem E_av1_Known (d) : P_av1_Known d = N_av1_Known 1000000 d := e_av1_Known _ d
abbrev D_crossbarref24_Ints_4 : Type := (List (Int)) × (List (Int)) × Int × Unit
noncomputable def L_crossbarref24_Ints_4 (n : Nat) (J0 : D_crossbarref24_Ints_4 → Option (Bool × Unit)) (d : D_crossbarref24_Ints_4) : Option (Bool × Unit) :=
  if (decide (d.2.2.1 < (d.1.length : Int))) then
  if decide (0 ≤ d.2.2.1 ∧ d.2.2.1 < (d.1.length : Int)) then
  if decide (0 ≤ d.2.2.1 ∧ d.2.2.1 < (d.2.1.length : Int)) then
  if ((d.1.getD d.2.2.1.toNat (0 : Int)) != (d.2.1.getD d.2.2.1.toNat (0 : Int))) then
  some (false, ())
  else
  J0 (d.1, d.2.1, (IntKind.i64.wrap (d.2.2.1 + (1 : Int))), ()) else none else none
  else
  some (true, ())
/-- crossbarref24.Ints -/
noncomputable def N_crossbarref24_Ints (n : Nat) (d : (List (Int)) × (List (Int)) × Unit) : Option (Bool × Unit) :=
  if ((d.1.length : Int) != (d.2.1.length : Int)) then
  some (false, ())
  else
  iter (L_crossbarref24_Ints_4 n) n (d.1, d.2.1, (0 : Int), ())
theorem e_crossbarref24_Ints (n d) : fnK tab G_crossbarref24_Ints an_crossbarref24_Ints n Try.f40 (bodyOf Try.f40) in_crossbarref24_Ints out_crossbarref24_Ints d = N_crossbarref24_Ints n d := by kernel_rfl
theorem E_crossbarref24_Ints (d) : P_crossbarref24_Ints d = N_crossbarref24_Ints 1000000 d := e_crossbarref24_Ints _ d
abbrev D_crossbarref26_Same_9 : Type := Int × Int × Int × (List (Int)) × (List (T_api_Template)) × (List (T_api_Size)) × Int × Int × Int × (List (Int)) × (List (T_api_Template)) × (List (T_api_Size)) × Int × Unit
noncomputable def L_crossbarref26_Same_9 (n : Nat) (J0 : D_crossbarref26_Same_9 → Option (Bool × Unit)) (d : D_crossbarref26_Same_9) : Option (Bool × Unit) :=
  if (decide (d.2.2.2.2.2.2.2.2.2.2.2.2.1 < (d.2.2.2.2.1.length : Int))) then
  if decide (0 ≤ d.2.2.2.2.2.2.2.2.2.2.2.2.1 ∧ d.2.2.2.2.2.2.2.2.2.2.2.2.1 < (d.2.2.2.2.1.length : Int)) then
  if decide (0 ≤ d.2.2.2.2.2.2.2.2.2.2.2.2.1 ∧ d.2.2.2.2.2.2.2.2.2.2.2.2.1 < (d.2.2.2.2.2.2.2.2.2.2.1.length : Int)) then
  (if (!(if ((d.2.2.2.2.1.getD d.2.2.2.2.2.2.2.2.2.2.2.2.1.toNat ((0 : Int), (0 : Int), [], [], [], ())).1 != (d.2.2.2.2.2.2.2.2.2.2.1.getD d.2.2.2.2.2.2.2.2.2.2.2.2.1.toNat ((0 : Int), (0 : Int), [], [], [], ())).1) then true else ((d.2.2.2.2.1.getD d.2.2.2.2.2.2.2.2.2.2.2.2.1.toNat ((0 : Int), (0 : Int), [], [], [], ())).2.1 != (d.2.2.2.2.2.2.2.2.2.2.1.getD d.2.2.2.2.2.2.2.2.2.2.2.2.1.toNat ((0 : Int), (0 : Int), [], [], [], ())).2.1))) then (P_crossbarref24_Ints ((d.2.2.2.2.1.getD d.2.2.2.2.2.2.2.2.2.2.2.2.1.toNat ((0 : Int), (0 : Int), [], [], [], ())).2.2.1, (d.2.2.2.2.2.2.2.2.2.2.1.getD d.2.2.2.2.2.2.2.2.2.2.2.2.1.toNat ((0 : Int), (0 : Int), [], [], [], ())).2.2.1, ())) else some (false, ()) : Option (Bool × Unit)).bind fun (r2 : Bool × Unit) =>
  (if (!(if (if ((d.2.2.2.2.1.getD d.2.2.2.2.2.2.2.2.2.2.2.2.1.toNat ((0 : Int), (0 : Int), [], [], [], ())).1 != (d.2.2.2.2.2.2.2.2.2.2.1.getD d.2.2.2.2.2.2.2.2.2.2.2.2.1.toNat ((0 : Int), (0 : Int), [], [], [], ())).1) then true else ((d.2.2.2.2.1.getD d.2.2.2.2.2.2.2.2.2.2.2.2.1.toNat ((0 : Int), (0 : Int), [], [], [], ())).2.1 != (d.2.2.2.2.2.2.2.2.2.2.1.getD d.2.2.2.2.2.2.2.2.2.2.2.2.1.toNat ((0 : Int), (0 : Int), [], [], [], ())).2.1)) then true else (!r2.1))) then (P_crossbarref24_Ints ((d.2.2.2.2.1.getD d.2.2.2.2.2.2.2.2.2.2.2.2.1.toNat ((0 : Int), (0 : Int), [], [], [], ())).2.2.2.1, (d.2.2.2.2.2.2.2.2.2.2.1.getD d.2.2.2.2.2.2.2.2.2.2.2.2.1.toNat ((0 : Int), (0 : Int), [], [], [], ())).2.2.2.1, ())) else some (false, ()) : Option (Bool × Unit)).bind fun (r3 : Bool × Unit) =>
  (if (!(if (if (if ((d.2.2.2.2.1.getD d.2.2.2.2.2.2.2.2.2.2.2.2.1.toNat ((0 : Int), (0 : Int), [], [], [], ())).1 != (d.2.2.2.2.2.2.2.2.2.2.1.getD d.2.2.2.2.2.2.2.2.2.2.2.2.1.toNat ((0 : Int), (0 : Int), [], [], [], ())).1) then true else ((d.2.2.2.2.1.getD d.2.2.2.2.2.2.2.2.2.2.2.2.1.toNat ((0 : Int), (0 : Int), [], [], [], ())).2.1 != (d.2.2.2.2.2.2.2.2.2.2.1.getD d.2.2.2.2.2.2.2.2.2.2.2.2.1.toNat ((0 : Int), (0 : Int), [], [], [], ())).2.1)) then true else (!r2.1)) then true else (!r3.1))) then (P_crossbarref24_Ints ((d.2.2.2.2.1.getD d.2.2.2.2.2.2.2.2.2.2.2.2.1.toNat ((0 : Int), (0 : Int), [], [], [], ())).2.2.2.2.1, (d.2.2.2.2.2.2.2.2.2.2.1.getD d.2.2.2.2.2.2.2.2.2.2.2.2.1.toNat ((0 : Int), (0 : Int), [], [], [], ())).2.2.2.2.1, ())) else some (false, ()) : Option (Bool × Unit)).bind fun (r4 : Bool × Unit) =>
  if (if (if (if (if ((d.2.2.2.2.1.getD d.2.2.2.2.2.2.2.2.2.2.2.2.1.toNat ((0 : Int), (0 : Int), [], [], [], ())).1 != (d.2.2.2.2.2.2.2.2.2.2.1.getD d.2.2.2.2.2.2.2.2.2.2.2.2.1.toNat ((0 : Int), (0 : Int), [], [], [], ())).1) then true else ((d.2.2.2.2.1.getD d.2.2.2.2.2.2.2.2.2.2.2.2.1.toNat ((0 : Int), (0 : Int), [], [], [], ())).2.1 != (d.2.2.2.2.2.2.2.2.2.2.1.getD d.2.2.2.2.2.2.2.2.2.2.2.2.1.toNat ((0 : Int), (0 : Int), [], [], [], ())).2.1)) then true else (!r2.1)) then true else (!r3.1)) then true else (!r4.1)) then
  some (false, ())
  else
  J0 (d.1, d.2.1, d.2.2.1, d.2.2.2.1, d.2.2.2.2.1, d.2.2.2.2.2.1, d.2.2.2.2.2.2.1, d.2.2.2.2.2.2.2.1, d.2.2.2.2.2.2.2.2.1, d.2.2.2.2.2.2.2.2.2.1, d.2.2.2.2.2.2.2.2.2.2.1, d.2.2.2.2.2.2.2.2.2.2.2.1, (IntKind.i64.wrap (d.2.2.2.2.2.2.2.2.2.2.2.2.1 + (1 : Int))), ()) else none else none
  else
  some (true, ())
abbrev D_crossbarref26_Same_4 : Type := Int × Int × Int × (List (Int)) × (List (T_api_Template)) × (List (T_api_Size)) × Int × Int × Int × (List (Int)) × (List (T_api_Template)) × (List (T_api_Size)) × Int × Unit
noncomputable def L_crossbarref26_Same_4 (n : Nat) (J0 : D_crossbarref26_Same_4 → Option (Bool × Unit)) (d : D_crossbarref26_Same_4) : Option (Bool × Unit) :=
  if (decide (d.2.2.2.2.2.2.2.2.2.2.2.2.1 < (d.2.2.2.2.2.1.length : Int))) then
  if decide (0 ≤ d.2.2.2.2.2.2.2.2.2.2.2.2.1 ∧ d.2.2.2.2.2.2.2.2.2.2.2.2.1 < (d.2.2.2.2.2.1.length : Int)) then
  if decide (0 ≤ d.2.2.2.2.2.2.2.2.2.2.2.2.1 ∧ d.2.2.2.2.2.2.2.2.2.2.2.2.1 < (d.2.2.2.2.2.2.2.2.2.2.2.1.length : Int)) then
  if (!(((d.2.2.2.2.2.1.getD d.2.2.2.2.2.2.2.2.2.2.2.2.1.toNat ((0 : Int), (0 : Int), ())).1 == (d.2.2.2.2.2.2.2.2.2.2.2.1.getD d.2.2.2.2.2.2.2.2.2.2.2.2.1.toNat ((0 : Int), (0 : Int), ())).1) && (((d.2.2.2.2.2.1.getD d.2.2.2.2.2.2.2.2.2.2.2.2.1.toNat ((0 : Int), (0 : Int), ())).2.1 == (d.2.2.2.2.2.2.2.2.2.2.2.1.getD d.2.2.2.2.2.2.2.2.2.2.2.2.1.toNat ((0 : Int), (0 : Int), ())).2.1) && true))) then
  some (false, ())
  else
  J0 (d.1, d.2.1, d.2.2.1, d.2.2.2.1, d.2.2.2.2.1, d.2.2.2.2.2.1, d.2.2.2.2.2.2.1, d.2.2.2.2.2.2.2.1, d.2.2.2.2.2.2.2.2.1, d.2.2.2.2.2.2.2.2.2.1, d.2.2.2.2.2.2.2.2.2.2.1, d.2.2.2.2.2.2.2.2.2.2.2.1, (IntKind.i64.wrap (d.2.2.2.2.2.2.2.2.2.2.2.2.1 + (1 : Int))), ()) else none else none
  else
  iter (L_crossbarref26_Same_9 n) n (d.1, d.2.1, d.2.2.1, d.2.2.2.1, d.2.2.2.2.1, d.2.2.2.2.2.1, d.2.2.2.2.2.2.1, d.2.2.2.2.2.2.2.1, d.2.2.2.2.2.2.2.2.1, d.2.2.2.2.2.2.2.2.2.1, d.2.2.2.2.2.2.2.2.2.2.1, d.2.2.2.2.2.2.2.2.2.2.2.1, (0 : Int), ())
/-- crossbarref26.Same -/
noncomputable def N_crossbarref26_Same (n : Nat) (d : T_api_Structure × T_api_Structure × Unit) : Option (Bool × Unit) :=
  (if (!(if (if (d.1.1 != d.2.1.1) then true else (d.1.2.1 != d.2.1.2.1)) then true else (d.1.2.2.1 != d.2.1.2.2.1))) then (P_crossbarref24_Ints (d.1.2.2.2.1, d.2.1.2.2.2.1, ())) else some (false, ()) : Option (Bool × Unit)).bind fun (r1 : Bool × Unit) =>
  if (if (if (if (if (if (d.1.1 != d.2.1.1) then true else (d.1.2.1 != d.2.1.2.1)) then true else (d.1.2.2.1 != d.2.1.2.2.1)) then true else (!r1.1)) then true else ((d.1.2.2.2.2.1.length : Int) != (d.2.1.2.2.2.2.1.length : Int))) then true else ((d.1.2.2.2.2.2.1.length : Int) != (d.2.1.2.2.2.2.2.1.length : Int))) then
  some (false, ())
  else
  iter (L_crossbarref26_Same_4 n) n (d.1.1, d.1.2.1, d.1.2.2.1, d.1.2.2.2.1, d.1.2.2.2.2.1, d.1.2.2.2.2.2.1, d.2.1.1, d.2.1.2.1, d.2.1.2.2.1, d.2.1.2.2.2.1, d.2.1.2.2.2.2.1, d.2.1.2.2.2.2.2.1, (0 : Int), ())
theorem e_crossbarref26_Same (n d) : fnK tab G_crossbarref26_Same an_crossbarref26_Same n Try.f19 (bodyOf Try.f19) in_crossbarref26_Same out_crossbarref26_Same d = N_crossbarref26_Same n d := by kernel_rfl
theorem E_crossbarref26_Same (d) : P_crossbarref26_Same d = N_crossbarref26_Same 1000000 d := e_crossbarref26_Same _ d
/-- crossbarref27.Same -/
noncomputable def N_crossbarref27_Same (n : Nat) (d : T_api_Frame × T_api_Frame × Unit) : Option (Bool × Unit) :=
  if (if (if (if (if (if (if (d.1.1 != d.2.1.1) then true else (d.1.2.1 != d.2.1.2.1)) then true else (d.1.2.2.1 != d.2.1.2.2.1)) then true else (d.1.2.2.2.1 != d.2.1.2.2.2.1)) then true else (d.1.2.2.2.2.1 != d.2.1.2.2.2.2.1)) then true else (d.1.2.2.2.2.2.2.1 != d.2.1.2.2.2.2.2.2.1)) then true else (d.1.2.2.2.2.2.2.2.1 != d.2.1.2.2.2.2.2.2.2.1)) then
  some (false, ())
  else
  (if (!(if (if (d.1.2.2.2.2.2.2.2.2.1 != d.2.1.2.2.2.2.2.2.2.2.1) then true else (d.1.2.2.2.2.2.2.2.2.2.2.1 != d.2.1.2.2.2.2.2.2.2.2.2.2.1)) then true else (d.1.2.2.2.2.2.2.2.2.2.2.2.2.1 != d.2.1.2.2.2.2.2.2.2.2.2.2.2.2.1))) then (P_crossbarref26_Same (d.1.2.2.2.2.2.1, d.2.1.2.2.2.2.2.1, ())) else some (false, ()) : Option (Bool × Unit)).bind fun (r1 : Bool × Unit) =>
  if (if (if (if (d.1.2.2.2.2.2.2.2.2.1 != d.2.1.2.2.2.2.2.2.2.2.1) then true else (d.1.2.2.2.2.2.2.2.2.2.2.1 != d.2.1.2.2.2.2.2.2.2.2.2.2.1)) then true else (d.1.2.2.2.2.2.2.2.2.2.2.2.2.1 != d.2.1.2.2.2.2.2.2.2.2.2.2.2.2.1)) then true else (!r1.1)) then
  some (false, ())
  else
  (P_crossbarref24_Ints (d.1.2.2.2.2.2.2.2.2.2.1, d.2.1.2.2.2.2.2.2.2.2.2.1, ())).bind fun (r2 : Bool × Unit) =>
  (if r2.1 then (P_crossbarref24_Ints (d.1.2.2.2.2.2.2.2.2.2.2.2.1, d.2.1.2.2.2.2.2.2.2.2.2.2.2.1, ())) else some (false, ()) : Option (Bool × Unit)).bind fun (r3 : Bool × Unit) =>
  (if (if r2.1 then r3.1 else false) then (P_crossbarref24_Ints (d.1.2.2.2.2.2.2.2.2.2.2.2.2.2.1, d.2.1.2.2.2.2.2.2.2.2.2.2.2.2.2.1, ())) else some (false, ()) : Option (Bool × Unit)).bind fun (r4 : Bool × Unit) =>
  some ((if (if r2.1 then r3.1 else false) then r4.1 else false), ())
theorem e_crossbarref27_Same (n d) : fnK tab G_crossbarref27_Same an_crossbarref27_Same n Try.f21 (bodyOf Try.f21) in_crossbarref27_Same out_crossbarref27_Same d = N_crossbarref27_Same n d := by kernel_rfl
theorem E_crossbarref27_Same (d) : P_crossbarref27_Same d = N_crossbarref27_Same 1000000 d := e_crossbarref27_Same _ d
/-- bytes.Equal -/
noncomputable def N_bytes_Equal (n : Nat) (d : (List (Int)) × (List (Int)) × Unit) : Option (Bool × Unit) :=
  some (((u8s d.1) == (u8s d.2.1)), ())
theorem e_bytes_Equal (n d) : fnK tab G_bytes_Equal an_bytes_Equal n Try.f57 (bodyOf Try.f57) in_bytes_Equal out_bytes_Equal d = N_bytes_Equal n d := by kernel_rfl
theorem E_bytes_Equal (d) : P_bytes_Equal d = N_bytes_Equal 1000000 d := e_bytes_Equal _ d
/-- av1.Canon -/
noncomputable def N_av1_Canon (n : Nat) (d : (List (Int)) × T_api_Structure × Unit) : Option (Bool × Unit) :=
  (P_av1_Read d).bind fun (r1 : T_api_Frame × Int × Unit) =>
  if (r1.2.1 != (0 : Int)) then
  some (false, ())
  else
  (P_av1_Write (r1.1, d.2.1, ())).bind fun (r2 : T_api_Ink) =>
  (if (r2.2.1 == (0 : Int)) then (P_bytes_Equal (r2.1, d.1, ())) else some (false, ()) : Option (Bool × Unit)).bind fun (r3 : Bool × Unit) =>
  some ((if (r2.2.1 == (0 : Int)) then r3.1 else false), ())
theorem e_av1_Canon (n d) : fnK tab G_av1_Canon an_av1_Canon n Try.f22 (bodyOf Try.f22) in_av1_Canon out_av1_Canon d = N_av1_Canon n d := by kernel_rfl
theorem E_av1_Canon (d) : P_av1_Canon d = N_av1_Canon 1000000 d := e_av1_Canon _ d
/-- crossbarlaw27.awake -/
noncomputable def N_crossbarlaw27_awake (n : Nat) (d : Unit) : Option (Bool × Unit) :=
  (P_av1_Write ((true, false, (6 : Int), (258 : Int), false, ((0 : Int), (0 : Int), (0 : Int), ([] : List (Int)), ([] : List (T_api_Template)), ([] : List (T_api_Size)), ()), false, (0 : Int), false, ([] : List (Int)), true, ([(17 : Int)] : List (Int)), false, ([] : List (Int)), ()), ((5 : Int), (1 : Int), (0 : Int), ([] : List (Int)), ([((0 : Int), (0 : Int), ([(3 : Int)] : List (Int)), ([] : List (Int)), ([] : List (Int)), ()), ((0 : Int), (0 : Int), ([(1 : Int)] : List (Int)), ([(2 : Int)] : List (Int)), ([] : List (Int)), ())] : List (T_api_Template)), ([] : List (T_api_Size)), ()), ())).bind fun (r1 : T_api_Ink) =>
  (P_av1_Read (r1.1, ((5 : Int), (1 : Int), (0 : Int), ([] : List (Int)), ([((0 : Int), (0 : Int), ([(3 : Int)] : List (Int)), ([] : List (Int)), ([] : List (Int)), ()), ((0 : Int), (0 : Int), ([(1 : Int)] : List (Int)), ([(2 : Int)] : List (Int)), ([] : List (Int)), ())] : List (T_api_Template)), ([] : List (T_api_Size)), ()), ())).bind fun (r2 : T_api_Frame × Int × Unit) =>
  (P_av1_Whole (r2.1, ((5 : Int), (1 : Int), (0 : Int), ([] : List (Int)), ([((0 : Int), (0 : Int), ([(3 : Int)] : List (Int)), ([] : List (Int)), ([] : List (Int)), ()), ((0 : Int), (0 : Int), ([(1 : Int)] : List (Int)), ([(2 : Int)] : List (Int)), ([] : List (Int)), ())] : List (T_api_Template)), ([] : List (T_api_Size)), ()), ())).bind fun (r3 : T_api_Template × Int × Unit) =>
  (P_av1_Read (([(7 : Int), (0 : Int), (0 : Int)] : List (Int)), ((5 : Int), (1 : Int), (0 : Int), ([] : List (Int)), ([((0 : Int), (0 : Int), ([(3 : Int)] : List (Int)), ([] : List (Int)), ([] : List (Int)), ()), ((0 : Int), (0 : Int), ([(1 : Int)] : List (Int)), ([(2 : Int)] : List (Int)), ([] : List (Int)), ())] : List (T_api_Template)), ([] : List (T_api_Size)), ()), ())).bind fun (r4 : T_api_Frame × Int × Unit) =>
  (P_av1_Read (([(5 : Int), (0 : Int), (0 : Int)] : List (Int)), ((0 : Int), (0 : Int), (0 : Int), ([] : List (Int)), ([] : List (T_api_Template)), ([] : List (T_api_Size)), ()), ())).bind fun (r5 : T_api_Frame × Int × Unit) =>
  (if (if (if (if (if (if (r1.2.1 == (0 : Int)) then (r2.2.1 == (0 : Int)) else false) then (r3.2.1 == (0 : Int)) else false) then (r4.2.1 == (6 : Int)) else false) then (r5.2.1 == (8 : Int)) else false) then ((u8s r1.1) == ([134, 1, 2, 20, 32, 0] : List UInt8)) else false) then (P_crossbarref27_Same ((true, false, (6 : Int), (258 : Int), false, ((0 : Int), (0 : Int), (0 : Int), ([] : List (Int)), ([] : List (T_api_Template)), ([] : List (T_api_Size)), ()), false, (0 : Int), false, ([] : List (Int)), true, ([(17 : Int)] : List (Int)), false, ([] : List (Int)), ()), r2.1, ())) else some (false, ()) : Option (Bool × Unit)).bind fun (r6 : Bool × Unit) =>
  if (!(if (if (if (if (if (if (if (r1.2.1 == (0 : Int)) then (r2.2.1 == (0 : Int)) else false) then (r3.2.1 == (0 : Int)) else false) then (r4.2.1 == (6 : Int)) else false) then (r5.2.1 == (8 : Int)) else false) then ((u8s r1.1) == ([134, 1, 2, 20, 32, 0] : List UInt8)) else false) then r6.1 else false) then ((r3.1.2.2.1.length : Int) == (1 : Int)) else false) || decide (0 ≤ (0 : Int) ∧ (0 : Int) < (r3.1.2.2.1.length : Int))) then
  if (!(if (if (if (if (if (if (if (if (if (r1.2.1 == (0 : Int)) then (r2.2.1 == (0 : Int)) else false) then (r3.2.1 == (0 : Int)) else false) then (r4.2.1 == (6 : Int)) else false) then (r5.2.1 == (8 : Int)) else false) then ((u8s r1.1) == ([134, 1, 2, 20, 32, 0] : List UInt8)) else false) then r6.1 else false) then ((r3.1.2.2.1.length : Int) == (1 : Int)) else false) then ((r3.1.2.2.1.getD (0 : Int).toNat (0 : Int)) == (1 : Int)) else false) then ((r3.1.2.2.2.1.length : Int) == (1 : Int)) else false) || decide (0 ≤ (0 : Int) ∧ (0 : Int) < (r3.1.2.2.2.1.length : Int))) then
  (if (if (if (if (if (if (if (if (if (if (if (r1.2.1 == (0 : Int)) then (r2.2.1 == (0 : Int)) else false) then (r3.2.1 == (0 : Int)) else false) then (r4.2.1 == (6 : Int)) else false) then (r5.2.1 == (8 : Int)) else false) then ((u8s r1.1) == ([134, 1, 2, 20, 32, 0] : List UInt8)) else false) then r6.1 else false) then ((r3.1.2.2.1.length : Int) == (1 : Int)) else false) then ((r3.1.2.2.1.getD (0 : Int).toNat (0 : Int)) == (1 : Int)) else false) then ((r3.1.2.2.2.1.length : Int) == (1 : Int)) else false) then ((r3.1.2.2.2.1.getD (0 : Int).toNat (0 : Int)) == (17 : Int)) else false) then (P_av1_Canon (r1.1, ((5 : Int), (1 : Int), (0 : Int), ([] : List (Int)), ([((0 : Int), (0 : Int), ([(3 : Int)] : List (Int)), ([] : List (Int)), ([] : List (Int)), ()), ((0 : Int), (0 : Int), ([(1 : Int)] : List (Int)), ([(2 : Int)] : List (Int)), ([] : List (Int)), ())] : List (T_api_Template)), ([] : List (T_api_Size)), ()), ())) else some (false, ()) : Option (Bool × Unit)).bind fun (r7 : Bool × Unit) =>
  (if (if (if (if (if (if (if (if (if (if (if (if (r1.2.1 == (0 : Int)) then (r2.2.1 == (0 : Int)) else false) then (r3.2.1 == (0 : Int)) else false) then (r4.2.1 == (6 : Int)) else false) then (r5.2.1 == (8 : Int)) else false) then ((u8s r1.1) == ([134, 1, 2, 20, 32, 0] : List UInt8)) else false) then r6.1 else false) then ((r3.1.2.2.1.length : Int) == (1 : Int)) else false) then ((r3.1.2.2.1.getD (0 : Int).toNat (0 : Int)) == (1 : Int)) else false) then ((r3.1.2.2.2.1.length : Int) == (1 : Int)) else false) then ((r3.1.2.2.2.1.getD (0 : Int).toNat (0 : Int)) == (17 : Int)) else false) then r7.1 else false) then (P_av1_Right ((true, false, (6 : Int), (258 : Int), false, ((0 : Int), (0 : Int), (0 : Int), ([] : List (Int)), ([] : List (T_api_Template)), ([] : List (T_api_Size)), ()), false, (0 : Int), false, ([] : List (Int)), true, ([(17 : Int)] : List (Int)), false, ([] : List (Int)), ()), ((5 : Int), (1 : Int), (0 : Int), ([] : List (Int)), ([((0 : Int), (0 : Int), ([(3 : Int)] : List (Int)), ([] : List (Int)), ([] : List (Int)), ()), ((0 : Int), (0 : Int), ([(1 : Int)] : List (Int)), ([(2 : Int)] : List (Int)), ([] : List (Int)), ())] : List (T_api_Template)), ([] : List (T_api_Size)), ()), ())) else some (false, ()) : Option (Bool × Unit)).bind fun (r8 : Bool × Unit) =>
  (if (if (if (if (if (if (if (if (if (if (if (if (if (r1.2.1 == (0 : Int)) then (r2.2.1 == (0 : Int)) else false) then (r3.2.1 == (0 : Int)) else false) then (r4.2.1 == (6 : Int)) else false) then (r5.2.1 == (8 : Int)) else false) then ((u8s r1.1) == ([134, 1, 2, 20, 32, 0] : List UInt8)) else false) then r6.1 else false) then ((r3.1.2.2.1.length : Int) == (1 : Int)) else false) then ((r3.1.2.2.1.getD (0 : Int).toNat (0 : Int)) == (1 : Int)) else false) then ((r3.1.2.2.2.1.length : Int) == (1 : Int)) else false) then ((r3.1.2.2.2.1.getD (0 : Int).toNat (0 : Int)) == (17 : Int)) else false) then r7.1 else false) then r8.1 else false) then (P_av1_Known ((true, false, (6 : Int), (258 : Int), false, ((0 : Int), (0 : Int), (0 : Int), ([] : List (Int)), ([] : List (T_api_Template)), ([] : List (T_api_Size)), ()), false, (0 : Int), false, ([] : List (Int)), true, ([(17 : Int)] : List (Int)), false, ([] : List (Int)), ()), ((5 : Int), (1 : Int), (0 : Int), ([] : List (Int)), ([((0 : Int), (0 : Int), ([(3 : Int)] : List (Int)), ([] : List (Int)), ([] : List (Int)), ()), ((0 : Int), (0 : Int), ([(1 : Int)] : List (Int)), ([(2 : Int)] : List (Int)), ([] : List (Int)), ())] : List (T_api_Template)), ([] : List (T_api_Size)), ()), ())) else some (((0 : Int), (0 : Int), (0 : Int), [], [], [], ()), ()) : Option (T_api_Structure × Unit)).bind fun (r9 : T_api_Structure × Unit) =>
  (if (if (if (if (if (if (if (if (if (if (if (if (if (r1.2.1 == (0 : Int)) then (r2.2.1 == (0 : Int)) else false) then (r3.2.1 == (0 : Int)) else false) then (r4.2.1 == (6 : Int)) else false) then (r5.2.1 == (8 : Int)) else false) then ((u8s r1.1) == ([134, 1, 2, 20, 32, 0] : List UInt8)) else false) then r6.1 else false) then ((r3.1.2.2.1.length : Int) == (1 : Int)) else false) then ((r3.1.2.2.1.getD (0 : Int).toNat (0 : Int)) == (1 : Int)) else false) then ((r3.1.2.2.2.1.length : Int) == (1 : Int)) else false) then ((r3.1.2.2.2.1.getD (0 : Int).toNat (0 : Int)) == (17 : Int)) else false) then r7.1 else false) then r8.1 else false) then (P_templ_Same (r9.1, ((5 : Int), (1 : Int), (0 : Int), ([] : List (Int)), ([((0 : Int), (0 : Int), ([(3 : Int)] : List (Int)), ([] : List (Int)), ([] : List (Int)), ()), ((0 : Int), (0 : Int), ([(1 : Int)] : List (Int)), ([(2 : Int)] : List (Int)), ([] : List (Int)), ())] : List (T_api_Template)), ([] : List (T_api_Size)), ()), ())) else some (false, ()) : Option (Bool × Unit)).bind fun (r10 : Bool × Unit) =>
  some ((if (if (if (if (if (if (if (if (if (if (if (if (if (r1.2.1 == (0 : Int)) then (r2.2.1 == (0 : Int)) else false) then (r3.2.1 == (0 : Int)) else false) then (r4.2.1 == (6 : Int)) else false) then (r5.2.1 == (8 : Int)) else false) then ((u8s r1.1) == ([134, 1, 2, 20, 32, 0] : List UInt8)) else false) then r6.1 else false) then ((r3.1.2.2.1.length : Int) == (1 : Int)) else false) then ((r3.1.2.2.1.getD (0 : Int).toNat (0 : Int)) == (1 : Int)) else false) then ((r3.1.2.2.2.1.length : Int) == (1 : Int)) else false) then ((r3.1.2.2.2.1.getD (0 : Int).toNat (0 : Int)) == (17 : Int)) else false) then r7.1 else false) then r8.1 else false) then r10.1 else false), ()) else none else none
theorem e_crossbarlaw27_awake (n d) : fnK tab G_crossbarlaw27_awake an_crossbarlaw27_awake n Try.f6 (bodyOf Try.f6) in_crossbarlaw27_awake out_crossbarlaw27_awake d = N_crossbarlaw27_awake n d := by kernel_rfl
theorem E_crossbarlaw27_awake (d) : P_crossbarlaw27_awake d = N_crossbarlaw27_awake 1000000 d := e_crossbarlaw27_awake _ d
abbrev D_crossbarref26_Short_2 : Type := Int × Int × Int × (List (Int)) × (List (T_api_Template)) × (List (T_api_Size)) × Int × Unit
noncomputable def L_crossbarref26_Short_2 (n : Nat) (J0 : D_crossbarref26_Short_2 → Option (Bool × Unit)) (d : D_crossbarref26_Short_2) : Option (Bool × Unit) :=
  if (if (decide (d.2.2.2.2.2.2.1 < (d.2.2.2.2.1.length : Int))) then (decide (d.2.2.2.2.2.2.1 < (99 : Int))) else false) then
  if decide (0 ≤ d.2.2.2.2.2.2.1 ∧ d.2.2.2.2.2.2.1 < (d.2.2.2.2.1.length : Int)) then
  if (if (if (decide ((((d.2.2.2.2.1.getD d.2.2.2.2.2.2.1.toNat ((0 : Int), (0 : Int), [], [], [], ())).2.2.1).length : Int) > (99 : Int))) then true else (decide ((((d.2.2.2.2.1.getD d.2.2.2.2.2.2.1.toNat ((0 : Int), (0 : Int), [], [], [], ())).2.2.2.1).length : Int) > (99 : Int)))) then true else (decide ((((d.2.2.2.2.1.getD d.2.2.2.2.2.2.1.toNat ((0 : Int), (0 : Int), [], [], [], ())).2.2.2.2.1).length : Int) > (99 : Int)))) then
  some (false, ())
  else
  J0 (d.1, d.2.1, d.2.2.1, d.2.2.2.1, d.2.2.2.2.1, d.2.2.2.2.2.1, (IntKind.i64.wrap (d.2.2.2.2.2.2.1 + (1 : Int))), ()) else none
  else
  some ((if (if (decide ((d.2.2.2.2.1.length : Int) ≤ (99 : Int))) then (decide ((d.2.2.2.1.length : Int) ≤ (99 : Int))) else false) then (decide ((d.2.2.2.2.2.1.length : Int) ≤ (99 : Int))) else false), ())
/-- crossbarref26.Short -/
noncomputable def N_crossbarref26_Short (n : Nat) (d : T_api_Structure × Unit) : Option (Bool × Unit) :=
  iter (L_crossbarref26_Short_2 n) n (d.1.1, d.1.2.1, d.1.2.2.1, d.1.2.2.2.1, d.1.2.2.2.2.1, d.1.2.2.2.2.2.1, (0 : Int), ())
theorem e_crossbarref26_Short (n d) : fnK tab G_crossbarref26_Short an_crossbarref26_Short n Try.f8 (bodyOf Try.f8) in_crossbarref26_Short out_crossbarref26_Short d = N_crossbarref26_Short n d := by kernel_rfl
theorem E_crossbarref26_Short (d) : P_crossbarref26_Short d = N_crossbarref26_Short 1000000 d := e_crossbarref26_Short _ d
/-- crossbarref27.Short -/
noncomputable def N_crossbarref27_Short (n : Nat) (d : T_api_Frame × Unit) : Option (Bool × Unit) :=
  (P_crossbarref26_Short (d.1.2.2.2.2.2.1, ())).bind fun (r1 : Bool × Unit) =>
  some ((if (if (if r1.1 then (decide ((d.1.2.2.2.2.2.2.2.2.2.1.length : Int) ≤ (99 : Int))) else false) then (decide ((d.1.2.2.2.2.2.2.2.2.2.2.2.1.length : Int) ≤ (99 : Int))) else false) then (decide ((d.1.2.2.2.2.2.2.2.2.2.2.2.2.2.1.length : Int) ≤ (99 : Int))) else false), ())
theorem e_crossbarref27_Short (n d) : fnK tab G_crossbarref27_Short an_crossbarref27_Short n Try.f7 (bodyOf Try.f7) in_crossbarref27_Short out_crossbarref27_Short d = N_crossbarref27_Short n d := by kernel_rfl
theorem E_crossbarref27_Short (d) : P_crossbarref27_Short d = N_crossbarref27_Short 1000000 d := e_crossbarref27_Short _ d
abbrev D_crossbarlaw27_Av1Known_19 : Type := Bool × Bool × Int × Int × Bool × Int × Int × Int × (List (Int)) × (List (T_api_Template)) × (List (T_api_Size)) × Bool × Int × Bool × (List (Int)) × Bool × (List (Int)) × Bool × (List (Int)) × Int × Int × Int × (List (Int)) × (List (T_api_Template)) × (List (T_api_Size)) × Int × Int × (List (Int)) × (List (Int)) × (List (Int)) × Int × Unit
noncomputable def L_crossbarlaw27_Av1Known_19 (n : Nat) (J0 : D_crossbarlaw27_Av1Known_19 → Option (Bool × Unit)) (d : D_crossbarlaw27_Av1Known_19) : Option (Bool × Unit) :=
  if (decide (d.2.2.2.2.2.2.2.2.2.2.2.2.2.2.2.2.2.2.2.2.2.2.2.2.2.2.2.2.2.2.1 < (d.2.2.2.2.2.2.2.2.2.2.2.2.2.2.2.2.2.2.2.2.2.2.2.1.length : Int))) then
  if decide ((64 : Int) ≠ 0) then
  if (((IntKind.i64.wrap (d.2.2.2.2.2.2.2.2.2.2.2.2.2.2.2.2.2.2.2.1 + d.2.2.2.2.2.2.2.2.2.2.2.2.2.2.2.2.2.2.2.2.2.2.2.2.2.2.2.2.2.2.1)).tmod (64 : Int)) == d.2.2.1) then
  if decide (0 ≤ d.2.2.2.2.2.2.2.2.2.2.2.2.2.2.2.2.2.2.2.2.2.2.2.2.2.2.2.2.2.2.1 ∧ d.2.2.2.2.2.2.2.2.2.2.2.2.2.2.2.2.2.2.2.2.2.2.2.2.2.2.2.2.2.2.1 < (d.2.2.2.2.2.2.2.2.2.2.2.2.2.2.2.2.2.2.2.2.2.2.2.1.length : Int)) then
  if (!(d.2.2.2.2.2.2.2.2.2.2.2.2.2.2.2.2.2.2.2.2.2.2.2.2.2.1 == (d.2.2.2.2.2.2.2.2.2.2.2.2.2.2.2.2.2.2.2.2.2.2.2.1.getD d.2.2.2.2.2.2.2.2.2.2.2.2.2.2.2.2.2.2.2.2.2.2.2.2.2.2.2.2.2.2.1.toNat ((0 : Int), (0 : Int), [], [], [], ())).1) || decide (0 ≤ d.2.2.2.2.2.2.2.2.2.2.2.2.2.2.2.2.2.2.2.2.2.2.2.2.2.2.2.2.2.2.1 ∧ d.2.2.2.2.2.2.2.2.2.2.2.2.2.2.2.2.2.2.2.2.2.2.2.2.2.2.2.2.2.2.1 < (d.2.2.2.2.2.2.2.2.2.2.2.2.2.2.2.2.2.2.2.2.2.2.2.1.length : Int))) then
  some ((if (d.2.2.2.2.2.2.2.2.2.2.2.2.2.2.2.2.2.2.2.2.2.2.2.2.2.1 == (d.2.2.2.2.2.2.2.2.2.2.2.2.2.2.2.2.2.2.2.2.2.2.2.1.getD d.2.2.2.2.2.2.2.2.2.2.2.2.2.2.2.2.2.2.2.2.2.2.2.2.2.2.2.2.2.2.1.toNat ((0 : Int), (0 : Int), [], [], [], ())).1) then (d.2.2.2.2.2.2.2.2.2.2.2.2.2.2.2.2.2.2.2.2.2.2.2.2.2.2.1 == (d.2.2.2.2.2.2.2.2.2.2.2.2.2.2.2.2.2.2.2.2.2.2.2.1.getD d.2.2.2.2.2.2.2.2.2.2.2.2.2.2.2.2.2.2.2.2.2.2.2.2.2.2.2.2.2.2.1.toNat ((0 : Int), (0 : Int), [], [], [], ())).2.1) else false), ()) else none else none
  else
  J0 (d.1, d.2.1, d.2.2.1, d.2.2.2.1, d.2.2.2.2.1, d.2.2.2.2.2.1, d.2.2.2.2.2.2.1, d.2.2.2.2.2.2.2.1, d.2.2.2.2.2.2.2.2.1, d.2.2.2.2.2.2.2.2.2.1, d.2.2.2.2.2.2.2.2.2.2.1, d.2.2.2.2.2.2.2.2.2.2.2.1, d.2.2.2.2.2.2.2.2.2.2.2.2.1, d.2.2.2.2.2.2.2.2.2.2.2.2.2.1, d.2.2.2.2.2.2.2.2.2.2.2.2.2.2.1, d.2.2.2.2.2.2.2.2.2.2.2.2.2.2.2.1, d.2.2.2.2.2.2.2.2.2.2.2.2.2.2.2.2.1, d.2.2.2.2.2.2.2.2.2.2.2.2.2.2.2.2.2.1, d.2.2.2.2.2.2.2.2.2.2.2.2.2.2.2.2.2.2.1, d.2.2.2.2.2.2.2.2.2.2.2.2.2.2.2.2.2.2.2.1, d.2.2.2.2.2.2.2.2.2.2.2.2.2.2.2.2.2.2.2.2.1, d.2.2.2.2.2.2.2.2.2.2.2.2.2.2.2.2.2.2.2.2.2.1, d.2.2.2.2.2.2.2.2.2.2.2.2.2.2.2.2.2.2.2.2.2.2.1, d.2.2.2.2.2.2.2.2.2.2.2.2.2.2.2.2.2.2.2.2.2.2.2.1, d.2.2.2.2.2.2.2.2.2.2.2.2.2.2.2.2.2.2.2.2.2.2.2.2.1, d.2.2.2.2.2.2.2.2.2.2.2.2.2.2.2.2.2.2.2.2.2.2.2.2.2.1, d.2.2.2.2.2.2.2.2.2.2.2.2.2.2.2.2.2.2.2.2.2.2.2.2.2.2.1, d.2.2.2.2.2.2.2.2.2.2.2.2.2.2.2.2.2.2.2.2.2.2.2.2.2.2.2.1, d.2.2.2.2.2.2.2.2.2.2.2.2.2.2.2.2.2.2.2.2.2.2.2.2.2.2.2.2.1, d.2.2.2.2.2.2.2.2.2.2.2.2.2.2.2.2.2.2.2.2.2.2.2.2.2.2.2.2.2.1, (IntKind.i64.wrap (d.2.2.2.2.2.2.2.2.2.2.2.2.2.2.2.2.2.2.2.2.2.2.2.2.2.2.2.2.2.2.1 + (1 : Int))), ()) else none
  else
  some (false, ())
/-- crossbarlaw27.Av1Known -/
noncomputable def N_crossbarlaw27_Av1Known (n : Nat) (d : T_api_Frame × T_api_Structure × Unit) : Option (Bool × Unit) :=
  (P_crossbarlaw27_awake (())).bind fun (r1 : Bool × Unit) =>
  if (!r1.1) then
  some (false, ())
  else
  (P_crossbarref27_Short (d.1, ())).bind fun (r2 : Bool × Unit) =>
  (if (!(!r2.1)) then (P_crossbarref26_Short (d.2.1, ())) else some (false, ()) : Option (Bool × Unit)).bind fun (r3 : Bool × Unit) =>
  if (if (!r2.1) then true else (!r3.1)) then
  some (true, ())
  else
  (P_av1_Write d).bind fun (r4 : T_api_Ink) =>
  (P_av1_Known d).bind fun (r5 : T_api_Structure × Unit) =>
  (if d.1.2.2.2.2.1 then (P_templ_Right (d.2.1, ())) else some (false, ()) : Option (Bool × Unit)).bind fun (r6 : Bool × Unit) =>
  (if (d.1.2.2.2.2.1 && (!r6.1)) then (P_templ_Same (d.2.1, ((0 : Int), (0 : Int), (0 : Int), ([] : List (Int)), ([] : List (T_api_Template)), ([] : List (T_api_Size)), ()), ())) else some (false, ()) : Option (Bool × Unit)).bind fun (r7 : Bool × Unit) =>
  (if (if d.1.2.2.2.2.1 then (if r6.1 then true else r7.1) else false) then
  (P_av1_Write (d.1, ((0 : Int), (0 : Int), (0 : Int), ([] : List (Int)), ([] : List (T_api_Template)), ([] : List (T_api_Size)), ()), ())).bind fun (r9 : T_api_Ink) =>
  (if ((!(if (r4.2.1 != r9.2.1) then true else ((u8s r4.1) != (u8s r9.1)))) && (r4.2.1 == (0 : Int))) then (P_templ_Same (r5.1, d.1.2.2.2.2.2.1, ())) else some (false, ()) : Option (Bool × Unit)).bind fun (r10 : Bool × Unit) =>
  if (if (if (r4.2.1 != r9.2.1) then true else ((u8s r4.1) != (u8s r9.1))) then true else (if (r4.2.1 == (0 : Int)) then (!r10.1) else false)) then
  Option.map Sum.inr (some (false, ()))
  else
  some (.inl (d.1.1, d.1.2.1, d.1.2.2.1, d.1.2.2.2.1, d.1.2.2.2.2.1, d.1.2.2.2.2.2.1.1, d.1.2.2.2.2.2.1.2.1, d.1.2.2.2.2.2.1.2.2.1, d.1.2.2.2.2.2.1.2.2.2.1, d.1.2.2.2.2.2.1.2.2.2.2.1, d.1.2.2.2.2.2.1.2.2.2.2.2.1, d.1.2.2.2.2.2.2.1, d.1.2.2.2.2.2.2.2.1, d.1.2.2.2.2.2.2.2.2.1, d.1.2.2.2.2.2.2.2.2.2.1, d.1.2.2.2.2.2.2.2.2.2.2.1, d.1.2.2.2.2.2.2.2.2.2.2.2.1, d.1.2.2.2.2.2.2.2.2.2.2.2.2.1, d.1.2.2.2.2.2.2.2.2.2.2.2.2.2.1, d.2.1.1, d.2.1.2.1, d.2.1.2.2.1, d.2.1.2.2.2.1, d.2.1.2.2.2.2.1, d.2.1.2.2.2.2.2.1, r5.1.1, r5.1.2.1, r5.1.2.2.1, r5.1.2.2.2.1, r5.1.2.2.2.2.1, r5.1.2.2.2.2.2.1, r4.2.1, ()))
  else
  some (.inl (d.1.1, d.1.2.1, d.1.2.2.1, d.1.2.2.2.1, d.1.2.2.2.2.1, d.1.2.2.2.2.2.1.1, d.1.2.2.2.2.2.1.2.1, d.1.2.2.2.2.2.1.2.2.1, d.1.2.2.2.2.2.1.2.2.2.1, d.1.2.2.2.2.2.1.2.2.2.2.1, d.1.2.2.2.2.2.1.2.2.2.2.2.1, d.1.2.2.2.2.2.2.1, d.1.2.2.2.2.2.2.2.1, d.1.2.2.2.2.2.2.2.2.1, d.1.2.2.2.2.2.2.2.2.2.1, d.1.2.2.2.2.2.2.2.2.2.2.1, d.1.2.2.2.2.2.2.2.2.2.2.2.1, d.1.2.2.2.2.2.2.2.2.2.2.2.2.1, d.1.2.2.2.2.2.2.2.2.2.2.2.2.2.1, d.2.1.1, d.2.1.2.1, d.2.1.2.2.1, d.2.1.2.2.2.1, d.2.1.2.2.2.2.1, d.2.1.2.2.2.2.2.1, r5.1.1, r5.1.2.1, r5.1.2.2.1, r5.1.2.2.2.1, r5.1.2.2.2.2.1, r5.1.2.2.2.2.2.1, r4.2.1, ())) : Option ((Bool × Bool × Int × Int × Bool × Int × Int × Int × (List (Int)) × (List (T_api_Template)) × (List (T_api_Size)) × Bool × Int × Bool × (List (Int)) × Bool × (List (Int)) × Bool × (List (Int)) × Int × Int × Int × (List (Int)) × (List (T_api_Template)) × (List (T_api_Size)) × Int × Int × Int × (List (Int)) × (List (T_api_Template)) × (List (T_api_Size)) × Int × Unit) ⊕ (Bool × Unit))).bind fun (q : (Bool × Bool × Int × Int × Bool × Int × Int × Int × (List (Int)) × (List (T_api_Template)) × (List (T_api_Size)) × Bool × Int × Bool × (List (Int)) × Bool × (List (Int)) × Bool × (List (Int)) × Int × Int × Int × (List (Int)) × (List (T_api_Template)) × (List (T_api_Size)) × Int × Int × Int × (List (Int)) × (List (T_api_Template)) × (List (T_api_Size)) × Int × Unit) ⊕ (Bool × Unit)) => Sum.elim (fun (d8 : Bool × Bool × Int × Int × Bool × Int × Int × Int × (List (Int)) × (List (T_api_Template)) × (List (T_api_Size)) × Bool × Int × Bool × (List (Int)) × Bool × (List (Int)) × Bool × (List (Int)) × Int × Int × Int × (List (Int)) × (List (T_api_Template)) × (List (T_api_Size)) × Int × Int × Int × (List (Int)) × (List (T_api_Template)) × (List (T_api_Size)) × Int × Unit) =>
  (if (!d8.2.2.2.2.1) then (P_templ_Same ((d8.2.2.2.2.2.2.2.2.2.2.2.2.2.2.2.2.2.2.2.2.2.2.2.2.2.1, d8.2.2.2.2.2.2.2.2.2.2.2.2.2.2.2.2.2.2.2.2.2.2.2.2.2.2.1, d8.2.2.2.2.2.2.2.2.2.2.2.2.2.2.2.2.2.2.2.2.2.2.2.2.2.2.2.1, d8.2.2.2.2.2.2.2.2.2.2.2.2.2.2.2.2.2.2.2.2.2.2.2.2.2.2.2.2.1, d8.2.2.2.2.2.2.2.2.2.2.2.2.2.2.2.2.2.2.2.2.2.2.2.2.2.2.2.2.2.1, d8.2.2.2.2.2.2.2.2.2.2.2.2.2.2.2.2.2.2.2.2.2.2.2.2.2.2.2.2.2.2.1, ()), (d8.2.2.2.2.2.2.2.2.2.2.2.2.2.2.2.2.2.2.2.1, d8.2.2.2.2.2.2.2.2.2.2.2.2.2.2.2.2.2.2.2.2.1, d8.2.2.2.2.2.2.2.2.2.2.2.2.2.2.2.2.2.2.2.2.2.1, d8.2.2.2.2.2.2.2.2.2.2.2.2.2.2.2.2.2.2.2.2.2.2.1, d8.2.2.2.2.2.2.2.2.2.2.2.2.2.2.2.2.2.2.2.2.2.2.2.1, d8.2.2.2.2.2.2.2.2.2.2.2.2.2.2.2.2.2.2.2.2.2.2.2.2.1, ()), ())) else some (false, ()) : Option (Bool × Unit)).bind fun (r11 : Bool × Unit) =>
  if (if (!d8.2.2.2.2.1) then (!r11.1) else false) then
  some (false, ())
  else
  (P_av1_Whole ((d8.1, d8.2.1, d8.2.2.1, d8.2.2.2.1, d8.2.2.2.2.1, (d8.2.2.2.2.2.1, d8.2.2.2.2.2.2.1, d8.2.2.2.2.2.2.2.1, d8.2.2.2.2.2.2.2.2.1, d8.2.2.2.2.2.2.2.2.2.1, d8.2.2.2.2.2.2.2.2.2.2.1, ()), d8.2.2.2.2.2.2.2.2.2.2.2.1, d8.2.2.2.2.2.2.2.2.2.2.2.2.1, d8.2.2.2.2.2.2.2.2.2.2.2.2.2.1, d8.2.2.2.2.2.2.2.2.2.2.2.2.2.2.1, d8.2.2.2.2.2.2.2.2.2.2.2.2.2.2.2.1, d8.2.2.2.2.2.2.2.2.2.2.2.2.2.2.2.2.1, d8.2.2.2.2.2.2.2.2.2.2.2.2.2.2.2.2.2.1, d8.2.2.2.2.2.2.2.2.2.2.2.2.2.2.2.2.2.2.1, ()), (d8.2.2.2.2.2.2.2.2.2.2.2.2.2.2.2.2.2.2.2.1, d8.2.2.2.2.2.2.2.2.2.2.2.2.2.2.2.2.2.2.2.2.1, d8.2.2.2.2.2.2.2.2.2.2.2.2.2.2.2.2.2.2.2.2.2.1, d8.2.2.2.2.2.2.2.2.2.2.2.2.2.2.2.2.2.2.2.2.2.2.1, d8.2.2.2.2.2.2.2.2.2.2.2.2.2.2.2.2.2.2.2.2.2.2.2.1, d8.2.2.2.2.2.2.2.2.2.2.2.2.2.2.2.2.2.2.2.2.2.2.2.2.1, ()), ())).bind fun (r12 : T_api_Template × Int × Unit) =>
  if (d8.2.2.2.2.2.2.2.2.2.2.2.2.2.2.2.2.2.2.2.2.2.2.2.2.2.2.2.2.2.2.2.1 != (0 : Int)) then
  (if (r12.2.1 == (1 : Int)) then (P_templ_Same ((d8.2.2.2.2.2.2.2.2.2.2.2.2.2.2.2.2.2.2.2.2.2.2.2.2.2.1, d8.2.2.2.2.2.2.2.2.2.2.2.2.2.2.2.2.2.2.2.2.2.2.2.2.2.2.1, d8.2.2.2.2.2.2.2.2.2.2.2.2.2.2.2.2.2.2.2.2.2.2.2.2.2.2.2.1, d8.2.2.2.2.2.2.2.2.2.2.2.2.2.2.2.2.2.2.2.2.2.2.2.2.2.2.2.2.1, d8.2.2.2.2.2.2.2.2.2.2.2.2.2.2.2.2.2.2.2.2.2.2.2.2.2.2.2.2.2.1, d8.2.2.2.2.2.2.2.2.2.2.2.2.2.2.2.2.2.2.2.2.2.2.2.2.2.2.2.2.2.2.1, ()), (d8.2.2.2.2.2.2.2.2.2.2.2.2.2.2.2.2.2.2.2.1, d8.2.2.2.2.2.2.2.2.2.2.2.2.2.2.2.2.2.2.2.2.1, d8.2.2.2.2.2.2.2.2.2.2.2.2.2.2.2.2.2.2.2.2.2.1, d8.2.2.2.2.2.2.2.2.2.2.2.2.2.2.2.2.2.2.2.2.2.2.1, d8.2.2.2.2.2.2.2.2.2.2.2.2.2.2.2.2.2.2.2.2.2.2.2.1, d8.2.2.2.2.2.2.2.2.2.2.2.2.2.2.2.2.2.2.2.2.2.2.2.2.1, ()), ())) else some (false, ()) : Option (Bool × Unit)).bind fun (r13 : Bool × Unit) =>
  some ((if (r12.2.1 == (1 : Int)) then r13.1 else false), ())
  else
  (if (!(if (if (r12.2.1 != (0 : Int)) then true else ((r12.1.2.2.1.length : Int) != d8.2.2.2.2.2.2.2.2.2.2.2.2.2.2.2.2.2.2.2.2.2.2.2.2.2.2.1)) then true else ((r12.1.2.2.2.2.1.length : Int) != d8.2.2.2.2.2.2.2.2.2.2.2.2.2.2.2.2.2.2.2.2.2.2.2.2.2.2.2.1))) then (P_templ_Right ((d8.2.2.2.2.2.2.2.2.2.2.2.2.2.2.2.2.2.2.2.2.2.2.2.2.2.1, d8.2.2.2.2.2.2.2.2.2.2.2.2.2.2.2.2.2.2.2.2.2.2.2.2.2.2.1, d8.2.2.2.2.2.2.2.2.2.2.2.2.2.2.2.2.2.2.2.2.2.2.2.2.2.2.2.1, d8.2.2.2.2.2.2.2.2.2.2.2.2.2.2.2.2.2.2.2.2.2.2.2.2.2.2.2.2.1, d8.2.2.2.2.2.2.2.2.2.2.2.2.2.2.2.2.2.2.2.2.2.2.2.2.2.2.2.2.2.1, d8.2.2.2.2.2.2.2.2.2.2.2.2.2.2.2.2.2.2.2.2.2.2.2.2.2.2.2.2.2.2.1, ()), ())) else some (false, ()) : Option (Bool × Unit)).bind fun (r14 : Bool × Unit) =>
  if (if (if (if (r12.2.1 != (0 : Int)) then true else ((r12.1.2.2.1.length : Int) != d8.2.2.2.2.2.2.2.2.2.2.2.2.2.2.2.2.2.2.2.2.2.2.2.2.2.2.1)) then true else ((r12.1.2.2.2.2.1.length : Int) != d8.2.2.2.2.2.2.2.2.2.2.2.2.2.2.2.2.2.2.2.2.2.2.2.2.2.2.2.1)) then true else (!r14.1)) then
  some (false, ())
  else
  iter (L_crossbarlaw27_Av1Known_19 n) n (d8.1, d8.2.1, d8.2.2.1, d8.2.2.2.1, d8.2.2.2.2.1, d8.2.2.2.2.2.1, d8.2.2.2.2.2.2.1, d8.2.2.2.2.2.2.2.1, d8.2.2.2.2.2.2.2.2.1, d8.2.2.2.2.2.2.2.2.2.1, d8.2.2.2.2.2.2.2.2.2.2.1, d8.2.2.2.2.2.2.2.2.2.2.2.1, d8.2.2.2.2.2.2.2.2.2.2.2.2.1, d8.2.2.2.2.2.2.2.2.2.2.2.2.2.1, d8.2.2.2.2.2.2.2.2.2.2.2.2.2.2.1, d8.2.2.2.2.2.2.2.2.2.2.2.2.2.2.2.1, d8.2.2.2.2.2.2.2.2.2.2.2.2.2.2.2.2.1, d8.2.2.2.2.2.2.2.2.2.2.2.2.2.2.2.2.2.1, d8.2.2.2.2.2.2.2.2.2.2.2.2.2.2.2.2.2.2.1, d8.2.2.2.2.2.2.2.2.2.2.2.2.2.2.2.2.2.2.2.2.2.2.2.2.2.1, d8.2.2.2.2.2.2.2.2.2.2.2.2.2.2.2.2.2.2.2.2.2.2.2.2.2.2.1, d8.2.2.2.2.2.2.2.2.2.2.2.2.2.2.2.2.2.2.2.2.2.2.2.2.2.2.2.1, d8.2.2.2.2.2.2.2.2.2.2.2.2.2.2.2.2.2.2.2.2.2.2.2.2.2.2.2.2.1, d8.2.2.2.2.2.2.2.2.2.2.2.2.2.2.2.2.2.2.2.2.2.2.2.2.2.2.2.2.2.1, d8.2.2.2.2.2.2.2.2.2.2.2.2.2.2.2.2.2.2.2.2.2.2.2.2.2.2.2.2.2.2.1, r12.1.1, r12.1.2.1, r12.1.2.2.1, r12.1.2.2.2.1, r12.1.2.2.2.2.1, (0 : Int), ())) some q
theorem e_crossbarlaw27_Av1Known (n d) : fnK tab G_crossbarlaw27_Av1Known an_crossbarlaw27_Av1Known n Try.f5 (bodyOf Try.f5) in_crossbarlaw27_Av1Known out_crossbarlaw27_Av1Known d = N_crossbarlaw27_Av1Known n d := by kernel_rfl
theorem E_crossbarlaw27_Av1Known (d) : P_crossbarlaw27_Av1Known d = N_crossbarlaw27_Av1Known 1000000 d := e_crossbarlaw27_Av1Known _ d
/-- crossbarref27.Of -/
noncomputable def N_crossbarref27_Of (n : Nat) (d : T_api_Frame × T_api_Structure × Unit) : Option (T_api_Structure × Unit) :=
  if d.1.2.2.2.2.1 then
  some (d.1.2.2.2.2.2.1, ())
  else
  some (d.2.1, ())
theorem e_crossbarref27_Of (n d) : fnK tab G_crossbarref27_Of an_crossbarref27_Of n Try.f12 (bodyOf Try.f12) in_crossbarref27_Of out_crossbarref27_Of d = N_crossbarref27_Of n d := by kernel_rfl
theorem E_crossbarref27_Of (d) : P_crossbarref27_Of d = N_crossbarref27_Of 1000000 d := e_crossbarref27_Of _ d
abbrev D_crossbarref26_all_2 : Type := (List (Int)) × Int × Int × Int × Unit
noncomputable def L_crossbarref26_all_2 (n : Nat) (J0 : D_crossbarref26_all_2 → Option (Bool × Unit)) (d : D_crossbarref26_all_2) : Option (Bool × Unit) :=
  if (decide (d.2.2.2.1 < (d.1.length : Int))) then
  if decide (0 ≤ d.2.2.2.1 ∧ d.2.2.2.1 < (d.1.length : Int)) then
  if (!(!(decide ((d.1.getD d.2.2.2.1.toNat (0 : Int)) < d.2.1))) || decide (0 ≤ d.2.2.2.1 ∧ d.2.2.2.1 < (d.1.length : Int))) then
  if (if (decide ((d.1.getD d.2.2.2.1.toNat (0 : Int)) < d.2.1)) then true else (decide ((d.1.getD d.2.2.2.1.toNat (0 : Int)) > d.2.2.1))) then
  some (false, ())
  else
  J0 (d.1, d.2.1, d.2.2.1, (IntKind.i64.wrap (d.2.2.2.1 + (1 : Int))), ()) else none else none
  else
  some (true, ())
/-- crossbarref26.all -/
noncomputable def N_crossbarref26_all (n : Nat) (d : (List (Int)) × Int × Int × Unit) : Option (Bool × Unit) :=
  iter (L_crossbarref26_all_2 n) n (d.1, d.2.1, d.2.2.1, (0 : Int), ())
theorem e_crossbarref26_all (n d) : fnK tab G_crossbarref26_all an_crossbarref26_all n Try.f66 (bodyOf Try.f66) in_crossbarref26_all out_crossbarref26_all d = N_crossbarref26_all n d := by kernel_rfl
theorem E_crossbarref26_all (d) : P_crossbarref26_all d = N_crossbarref26_all 1000000 d := e_crossbarref26_all _ d
abbrev D_crossbarref26_Right_20 : Type := Int × Int × Int × (List (Int)) × (List (T_api_Template)) × (List (T_api_Size)) × Int × Int × Unit
noncomputable def L_crossbarref26_Right_20 (n : Nat) (J0 : D_crossbarref26_Right_20 → Option (Bool × Unit)) (d : D_crossbarref26_Right_20) : Option (Bool × Unit) :=
  if (decide (d.2.2.2.2.2.2.2.1 < (d.2.2.2.2.2.1.length : Int))) then
  if decide (0 ≤ d.2.2.2.2.2.2.2.1 ∧ d.2.2.2.2.2.2.2.1 < (d.2.2.2.2.2.1.length : Int)) then
  if decide (0 ≤ d.2.2.2.2.2.2.2.1 ∧ d.2.2.2.2.2.2.2.1 < (d.2.2.2.2.2.1.length : Int)) then
  (P_crossbarref26_all (([(d.2.2.2.2.2.1.getD d.2.2.2.2.2.2.2.1.toNat ((0 : Int), (0 : Int), ())).1, (d.2.2.2.2.2.1.getD d.2.2.2.2.2.2.2.1.toNat ((0 : Int), (0 : Int), ())).2.1] : List (Int)), (1 : Int), (65536 : Int), ())).bind fun (r5 : Bool × Unit) =>
  if (!r5.1) then
  some (false, ())
  else
  J0 (d.1, d.2.1, d.2.2.1, d.2.2.2.1, d.2.2.2.2.1, d.2.2.2.2.2.1, d.2.2.2.2.2.2.1, (IntKind.i64.wrap (d.2.2.2.2.2.2.2.1 + (1 : Int))), ()) else none else none
  else
  some ((if ((d.2.2.2.2.2.1.length : Int) == (0 : Int)) then true else ((d.2.2.2.2.2.1.length : Int) == (IntKind.i64.wrap (d.2.2.2.2.2.2.1 + (1 : Int))))), ())
abbrev D_crossbarref26_Right_7 : Type := Int × Int × Int × (List (Int)) × (List (T_api_Template)) × (List (T_api_Size)) × Int × Int × Int × Unit
noncomputable def L_crossbarref26_Right_7 (n : Nat) (J0 : D_crossbarref26_Right_7 → Option (Bool × Unit)) (d : D_crossbarref26_Right_7) : Option (Bool × Unit) :=
  if (decide (d.2.2.2.2.2.2.2.2.1 < (d.2.2.2.2.1.length : Int))) then
  if decide (0 ≤ d.2.2.2.2.2.2.2.2.1 ∧ d.2.2.2.2.2.2.2.2.1 < (d.2.2.2.2.1.length : Int)) then
  if (if (if (if (decide ((d.2.2.2.2.1.getD d.2.2.2.2.2.2.2.2.1.toNat ((0 : Int), (0 : Int), [], [], [], ())).1 < (0 : Int))) then true else (decide ((d.2.2.2.2.1.getD d.2.2.2.2.2.2.2.2.1.toNat ((0 : Int), (0 : Int), [], [], [], ())).1 > (3 : Int)))) then true else (decide ((d.2.2.2.2.1.getD d.2.2.2.2.2.2.2.2.1.toNat ((0 : Int), (0 : Int), [], [], [], ())).2.1 < (0 : Int)))) then true else (decide ((d.2.2.2.2.1.getD d.2.2.2.2.2.2.2.2.1.toNat ((0 : Int), (0 : Int), [], [], [], ())).2.1 > (7 : Int)))) then
  some (false, ())
  else
  if (if (!(if ((d.2.2.2.2.1.getD d.2.2.2.2.2.2.2.2.1.toNat ((0 : Int), (0 : Int), [], [], [], ())).1 == d.2.2.2.2.2.2.1) then ((d.2.2.2.2.1.getD d.2.2.2.2.2.2.2.2.1.toNat ((0 : Int), (0 : Int), [], [], [], ())).2.1 == d.2.2.2.2.2.2.2.1) else false)) then (if (!(if (if ((d.2.2.2.2.1.getD d.2.2.2.2.2.2.2.2.1.toNat ((0 : Int), (0 : Int), [], [], [], ())).1 == d.2.2.2.2.2.2.1) then ((d.2.2.2.2.1.getD d.2.2.2.2.2.2.2.2.1.toNat ((0 : Int), (0 : Int), [], [], [], ())).2.1 == (IntKind.i64.wrap (d.2.2.2.2.2.2.2.1 + (1 : Int)))) else false) then true else (if ((d.2.2.2.2.1.getD d.2.2.2.2.2.2.2.2.1.toNat ((0 : Int), (0 : Int), [], [], [], ())).1 == (IntKind.i64.wrap (d.2.2.2.2.2.2.1 + (1 : Int)))) then ((d.2.2.2.2.1.getD d.2.2.2.2.2.2.2.2.1.toNat ((0 : Int), (0 : Int), [], [], [], ())).2.1 == (0 : Int)) else false))) then true else (d.2.2.2.2.2.2.2.2.1 == (0 : Int))) else false) then
  some (false, ())
  else
  (if (!(if (if ((((d.2.2.2.2.1.getD d.2.2.2.2.2.2.2.2.1.toNat ((0 : Int), (0 : Int), [], [], [], ())).2.2.1).length : Int) != d.2.1) then true else ((((d.2.2.2.2.1.getD d.2.2.2.2.2.2.2.2.1.toNat ((0 : Int), (0 : Int), [], [], [], ())).2.2.2.2.1).length : Int) != d.2.2.1)) then true else (decide ((((d.2.2.2.2.1.getD d.2.2.2.2.2.2.2.2.1.toNat ((0 : Int), (0 : Int), [], [], [], ())).2.2.2.1).length : Int) > (16 : Int))))) then (P_crossbarref26_all ((d.2.2.2.2.1.getD d.2.2.2.2.2.2.2.2.1.toNat ((0 : Int), (0 : Int), [], [], [], ())).2.2.1, (0 : Int), (3 : Int), ())) else some (false, ()) : Option (Bool × Unit)).bind fun (r2 : Bool × Unit) =>
  (if (!(if (if (if ((((d.2.2.2.2.1.getD d.2.2.2.2.2.2.2.2.1.toNat ((0 : Int), (0 : Int), [], [], [], ())).2.2.1).length : Int) != d.2.1) then true else ((((d.2.2.2.2.1.getD d.2.2.2.2.2.2.2.2.1.toNat ((0 : Int), (0 : Int), [], [], [], ())).2.2.2.2.1).length : Int) != d.2.2.1)) then true else (decide ((((d.2.2.2.2.1.getD d.2.2.2.2.2.2.2.2.1.toNat ((0 : Int), (0 : Int), [], [], [], ())).2.2.2.1).length : Int) > (16 : Int)))) then true else (!r2.1))) then (P_crossbarref26_all ((d.2.2.2.2.1.getD d.2.2.2.2.2.2.2.2.1.toNat ((0 : Int), (0 : Int), [], [], [], ())).2.2.2.2.1, (0 : Int), (15 : Int), ())) else some (false, ()) : Option (Bool × Unit)).bind fun (r3 : Bool × Unit) =>
  (if (!(if (if (if (if ((((d.2.2.2.2.1.getD d.2.2.2.2.2.2.2.2.1.toNat ((0 : Int), (0 : Int), [], [], [], ())).2.2.1).length : Int) != d.2.1) then true else ((((d.2.2.2.2.1.getD d.2.2.2.2.2.2.2.2.1.toNat ((0 : Int), (0 : Int), [], [], [], ())).2.2.2.2.1).length : Int) != d.2.2.1)) then true else (decide ((((d.2.2.2.2.1.getD d.2.2.2.2.2.2.2.2.1.toNat ((0 : Int), (0 : Int), [], [], [], ())).2.2.2.1).length : Int) > (16 : Int)))) then true else (!r2.1)) then true else (!r3.1))) then (P_crossbarref26_all ((d.2.2.2.2.1.getD d.2.2.2.2.2.2.2.2.1.toNat ((0 : Int), (0 : Int), [], [], [], ())).2.2.2.1, (1 : Int), (16 : Int), ())) else some (false, ()) : Option (Bool × Unit)).bind fun (r4 : Bool × Unit) =>
  if (if (if (if (if (if ((((d.2.2.2.2.1.getD d.2.2.2.2.2.2.2.2.1.toNat ((0 : Int), (0 : Int), [], [], [], ())).2.2.1).length : Int) != d.2.1) then true else ((((d.2.2.2.2.1.getD d.2.2.2.2.2.2.2.2.1.toNat ((0 : Int), (0 : Int), [], [], [], ())).2.2.2.2.1).length : Int) != d.2.2.1)) then true else (decide ((((d.2.2.2.2.1.getD d.2.2.2.2.2.2.2.2.1.toNat ((0 : Int), (0 : Int), [], [], [], ())).2.2.2.1).length : Int) > (16 : Int)))) then true else (!r2.1)) then true else (!r3.1)) then true else (!r4.1)) then
  some (false, ())
  else
  J0 (d.1, d.2.1, d.2.2.1, d.2.2.2.1, d.2.2.2.2.1, d.2.2.2.2.2.1, (d.2.2.2.2.1.getD d.2.2.2.2.2.2.2.2.1.toNat ((0 : Int), (0 : Int), [], [], [], ())).1, (d.2.2.2.2.1.getD d.2.2.2.2.2.2.2.2.1.toNat ((0 : Int), (0 : Int), [], [], [], ())).2.1, (IntKind.i64.wrap (d.2.2.2.2.2.2.2.2.1 + (1 : Int))), ()) else none
  else
  iter (L_crossbarref26_Right_20 n) n (d.1, d.2.1, d.2.2.1, d.2.2.2.1, d.2.2.2.2.1, d.2.2.2.2.2.1, d.2.2.2.2.2.2.1, (0 : Int), ())
/-- crossbarref26.Right -/
noncomputable def N_crossbarref26_Right (n : Nat) (d : T_api_Structure × Unit) : Option (Bool × Unit) :=
  if (if (if (if (if (if (if (if (decide (d.1.1 < (0 : Int))) then true else (decide (d.1.1 > (63 : Int)))) then true else (decide (d.1.2.1 < (1 : Int)))) then true else (decide (d.1.2.1 > (32 : Int)))) then true else (decide (d.1.2.2.1 < (0 : Int)))) then true else (decide (d.1.2.2.1 > d.1.2.1))) then true else (decide ((d.1.2.2.2.2.1.length : Int) < (1 : Int)))) then true else (decide ((d.1.2.2.2.2.1.length : Int) > (64 : Int)))) then
  some (false, ())
  else
  (if (!(if (if (d.1.2.2.1 == (0 : Int)) then (decide ((d.1.2.2.2.1.length : Int) > (0 : Int))) else false) then true else (if (decide (d.1.2.2.1 > (0 : Int))) then ((d.1.2.2.2.1.length : Int) != d.1.2.1) else false))) then (P_crossbarref26_all (d.1.2.2.2.1, (0 : Int), (IntKind.i64.wrap (d.1.2.2.1 - (1 : Int))), ())) else some (false, ()) : Option (Bool × Unit)).bind fun (r1 : Bool × Unit) =>
  if (if (if (if (d.1.2.2.1 == (0 : Int)) then (decide ((d.1.2.2.2.1.length : Int) > (0 : Int))) else false) then true else (if (decide (d.1.2.2.1 > (0 : Int))) then ((d.1.2.2.2.1.length : Int) != d.1.2.1) else false)) then true else (!r1.1)) then
  some (false, ())
  else
  iter (L_crossbarref26_Right_7 n) n (d.1.1, d.1.2.1, d.1.2.2.1, d.1.2.2.2.1, d.1.2.2.2.2.1, d.1.2.2.2.2.2.1, (0 : Int), (0 : Int), (0 : Int), ())
theorem e_crossbarref26_Right (n d) : fnK tab G_crossbarref26_Right an_crossbarref26_Right n Try.f27 (bodyOf Try.f27) in_crossbarref26_Right out_crossbarref26_Right d = N_crossbarref26_Right n d := by kernel_rfl
theorem E_crossbarref26_Right (d) : P_crossbarref26_Right d = N_crossbarref26_Right 1000000 d := e_crossbarref26_Right _ d
/-- crossbarref27.May -/
noncomputable def N_crossbarref27_May (n : Nat) (d : T_api_Structure × Unit) : Option (Bool × Unit) :=
  (P_crossbarref26_Right d).bind fun (r1 : Bool × Unit) =>
  (if (!r1.1) then (P_crossbarref26_Same (d.1, ((0 : Int), (0 : Int), (0 : Int), ([] : List (Int)), ([] : List (T_api_Template)), ([] : List (T_api_Size)), ()), ())) else some (false, ()) : Option (Bool × Unit)).bind fun (r2 : Bool × Unit) =>
  some ((if r1.1 then true else r2.1), ())
theorem e_crossbarref27_May (n d) : fnK tab G_crossbarref27_May an_crossbarref27_May n Try.f26 (bodyOf Try.f26) in_crossbarref27_May out_crossbarref27_May d = N_crossbarref27_May n d := by kernel_rfl
theorem E_crossbarref27_May (d) : P_crossbarref27_May d = N_crossbarref27_May 1000000 d := e_crossbarref27_May _ d
abbrev D_crossbarref27_Place_2 : Type := Int × Int × Int × (List (Int)) × (List (T_api_Template)) × (List (T_api_Size)) × Int × Int × Unit
noncomputable def L_crossbarref27_Place_2 (n : Nat) (J0 : D_crossbarref27_Place_2 → Option (Int × Unit)) (d : D_crossbarref27_Place_2) : Option (Int × Unit) :=
  if (decide (d.2.2.2.2.2.2.2.1 < (d.2.2.2.2.1.length : Int))) then
  if decide ((64 : Int) ≠ 0) then
  if (((IntKind.i64.wrap (d.1 + d.2.2.2.2.2.2.2.1)).tmod (64 : Int)) == d.2.2.2.2.2.2.1) then
  some (d.2.2.2.2.2.2.2.1, ())
  else
  J0 (d.1, d.2.1, d.2.2.1, d.2.2.2.1, d.2.2.2.2.1, d.2.2.2.2.2.1, d.2.2.2.2.2.2.1, (IntKind.i64.wrap (d.2.2.2.2.2.2.2.1 + (1 : Int))), ()) else none
  else
  some ((-1 : Int), ())
/-- crossbarref27.Place -/
noncomputable def N_crossbarref27_Place (n : Nat) (d : Int × T_api_Structure × Unit) : Option (Int × Unit) :=
  iter (L_crossbarref27_Place_2 n) n (d.2.1.1, d.2.1.2.1, d.2.1.2.2.1, d.2.1.2.2.2.1, d.2.1.2.2.2.2.1, d.2.1.2.2.2.2.2.1, d.1, (0 : Int), ())
theorem e_crossbarref27_Place (n d) : fnK tab G_crossbarref27_Place an_crossbarref27_Place n Try.f28 (bodyOf Try.f28) in_crossbarref27_Place out_crossbarref27_Place d = N_crossbarref27_Place n d := by kernel_rfl
theorem E_crossbarref27_Place (d) : P_crossbarref27_Place d = N_crossbarref27_Place 1000000 d := e_crossbarref27_Place _ d
abbrev D_crossbarref27_all_2 : Type := (List (Int)) × Int × Int × Int × Unit
noncomputable def L_crossbarref27_all_2 (n : Nat) (J0 : D_crossbarref27_all_2 → Option (Bool × Unit)) (d : D_crossbarref27_all_2) : Option (Bool × Unit) :=
  if (decide (d.2.2.2.1 < (d.1.length : Int))) then
  if decide (0 ≤ d.2.2.2.1 ∧ d.2.2.2.1 < (d.1.length : Int)) then
  if (!(!(decide ((d.1.getD d.2.2.2.1.toNat (0 : Int)) < d.2.1))) || decide (0 ≤ d.2.2.2.1 ∧ d.2.2.2.1 < (d.1.length : Int))) then
  if (if (decide ((d.1.getD d.2.2.2.1.toNat (0 : Int)) < d.2.1)) then true else (decide ((d.1.getD d.2.2.2.1.toNat (0 : Int)) > d.2.2.1))) then
  some (false, ())
  else
  J0 (d.1, d.2.1, d.2.2.1, (IntKind.i64.wrap (d.2.2.2.1 + (1 : Int))), ()) else none else none
  else
  some (true, ())
/-- crossbarref27.all -/
noncomputable def N_crossbarref27_all (n : Nat) (d : (List (Int)) × Int × Int × Unit) : Option (Bool × Unit) :=
  iter (L_crossbarref27_all_2 n) n (d.1, d.2.1, d.2.2.1, (0 : Int), ())
theorem e_crossbarref27_all (n d) : fnK tab G_crossbarref27_all an_crossbarref27_all n Try.f29 (bodyOf Try.f29) in_crossbarref27_all out_crossbarref27_all d = N_crossbarref27_all n d := by kernel_rfl
theorem E_crossbarref27_all (d) : P_crossbarref27_all d = N_crossbarref27_all 1000000 d := e_crossbarref27_all _ d
abbrev D_crossbarref27_Right_8 : Type := Bool × Bool × Int × Int × Bool × Int × Int × Int × (List (Int)) × (List (T_api_Template)) × (List (T_api_Size)) × Bool × Int × Bool × (List (Int)) × Bool × (List (Int)) × Bool × (List (Int)) × Int × Int × Int × (List (Int)) × (List (T_api_Template)) × (List (T_api_Size)) × Int × Int × Unit
noncomputable def L_crossbarref27_Right_8 (n : Nat) (J0 : D_crossbarref27_Right_8 → Option (Bool × Unit)) (d : D_crossbarref27_Right_8) : Option (Bool × Unit) :=
  if (decide (d.2.2.2.2.2.2.2.2.2.2.2.2.2.2.2.2.2.2.2.2.2.2.2.2.2.2.1 < d.2.2.2.2.2.2.2.2.2.2.2.2.2.2.2.2.2.2.2.2.1)) then
  J0 (d.1, d.2.1, d.2.2.1, d.2.2.2.1, d.2.2.2.2.1, d.2.2.2.2.2.1, d.2.2.2.2.2.2.1, d.2.2.2.2.2.2.2.1, d.2.2.2.2.2.2.2.2.1, d.2.2.2.2.2.2.2.2.2.1, d.2.2.2.2.2.2.2.2.2.2.1, d.2.2.2.2.2.2.2.2.2.2.2.1, d.2.2.2.2.2.2.2.2.2.2.2.2.1, d.2.2.2.2.2.2.2.2.2.2.2.2.2.1, d.2.2.2.2.2.2.2.2.2.2.2.2.2.2.1, d.2.2.2.2.2.2.2.2.2.2.2.2.2.2.2.1, d.2.2.2.2.2.2.2.2.2.2.2.2.2.2.2.2.1, d.2.2.2.2.2.2.2.2.2.2.2.2.2.2.2.2.2.1, d.2.2.2.2.2.2.2.2.2.2.2.2.2.2.2.2.2.2.1, d.2.2.2.2.2.2.2.2.2.2.2.2.2.2.2.2.2.2.2.1, d.2.2.2.2.2.2.2.2.2.2.2.2.2.2.2.2.2.2.2.2.1, d.2.2.2.2.2.2.2.2.2.2.2.2.2.2.2.2.2.2.2.2.2.1, d.2.2.2.2.2.2.2.2.2.2.2.2.2.2.2.2.2.2.2.2.2.2.1, d.2.2.2.2.2.2.2.2.2.2.2.2.2.2.2.2.2.2.2.2.2.2.2.1, d.2.2.2.2.2.2.2.2.2.2.2.2.2.2.2.2.2.2.2.2.2.2.2.2.1, (IntKind.u64.wrap ((2 : Int) * d.2.2.2.2.2.2.2.2.2.2.2.2.2.2.2.2.2.2.2.2.2.2.2.2.2.1)), (IntKind.i64.wrap (d.2.2.2.2.2.2.2.2.2.2.2.2.2.2.2.2.2.2.2.2.2.2.2.2.2.2.1 + (1 : Int))), ())
  else
  if (if (decide ((IntKind.u64.wrap d.2.2.2.2.2.2.2.2.2.2.2.2.1) ≥ d.2.2.2.2.2.2.2.2.2.2.2.2.2.2.2.2.2.2.2.2.2.2.2.2.2.1)) then true else (if (!d.2.2.2.2.2.2.2.2.2.2.2.1) then (d.2.2.2.2.2.2.2.2.2.2.2.2.1 != (0 : Int)) else false)) then
  some (false, ())
  else
  (if (!(if (if d.2.2.2.2.2.2.2.2.2.2.2.2.2.1 then ((d.2.2.2.2.2.2.2.2.2.2.2.2.2.2.1.length : Int) != d.2.2.2.2.2.2.2.2.2.2.2.2.2.2.2.2.2.2.2.2.1) else false) then true else (if (!d.2.2.2.2.2.2.2.2.2.2.2.2.2.1) then (decide ((d.2.2.2.2.2.2.2.2.2.2.2.2.2.2.1.length : Int) > (0 : Int))) else false))) then (P_crossbarref27_all (d.2.2.2.2.2.2.2.2.2.2.2.2.2.2.1, (0 : Int), (3 : Int), ())) else some (false, ()) : Option (Bool × Unit)).bind fun (r6 : Bool × Unit) =>
  if (if (if (if d.2.2.2.2.2.2.2.2.2.2.2.2.2.1 then ((d.2.2.2.2.2.2.2.2.2.2.2.2.2.2.1.length : Int) != d.2.2.2.2.2.2.2.2.2.2.2.2.2.2.2.2.2.2.2.2.1) else false) then true else (if (!d.2.2.2.2.2.2.2.2.2.2.2.2.2.1) then (decide ((d.2.2.2.2.2.2.2.2.2.2.2.2.2.2.1.length : Int) > (0 : Int))) else false)) then true else (!r6.1)) then
  some (false, ())
  else
  (if (!(if (decide ((d.2.2.2.2.2.2.2.2.2.2.2.2.2.2.2.2.1.length : Int) > (16 : Int))) then true else (if (!d.2.2.2.2.2.2.2.2.2.2.2.2.2.2.2.1) then (decide ((d.2.2.2.2.2.2.2.2.2.2.2.2.2.2.2.2.1.length : Int) > (0 : Int))) else false))) then (P_crossbarref27_all (d.2.2.2.2.2.2.2.2.2.2.2.2.2.2.2.2.1, (1 : Int), (4096 : Int), ())) else some (false, ()) : Option (Bool × Unit)).bind fun (r7 : Bool × Unit) =>
  if (if (if (decide ((d.2.2.2.2.2.2.2.2.2.2.2.2.2.2.2.2.1.length : Int) > (16 : Int))) then true else (if (!d.2.2.2.2.2.2.2.2.2.2.2.2.2.2.2.1) then (decide ((d.2.2.2.2.2.2.2.2.2.2.2.2.2.2.2.2.1.length : Int) > (0 : Int))) else false)) then true else (!r7.1)) then
  some (false, ())
  else
  (if (if (if d.2.2.2.2.2.2.2.2.2.2.2.2.2.2.2.2.2.1 then ((d.2.2.2.2.2.2.2.2.2.2.2.2.2.2.2.2.2.2.1.length : Int) == d.2.2.2.2.2.2.2.2.2.2.2.2.2.2.2.2.2.2.2.2.2.1) else false) then true else (if (!d.2.2.2.2.2.2.2.2.2.2.2.2.2.2.2.2.2.1) then ((d.2.2.2.2.2.2.2.2.2.2.2.2.2.2.2.2.2.2.1.length : Int) == (0 : Int)) else false)) then (P_crossbarref27_all (d.2.2.2.2.2.2.2.2.2.2.2.2.2.2.2.2.2.2.1, (0 : Int), (255 : Int), ())) else some (false, ()) : Option (Bool × Unit)).bind fun (r8 : Bool × Unit) =>
  some ((if (if (if d.2.2.2.2.2.2.2.2.2.2.2.2.2.2.2.2.2.1 then ((d.2.2.2.2.2.2.2.2.2.2.2.2.2.2.2.2.2.2.1.length : Int) == d.2.2.2.2.2.2.2.2.2.2.2.2.2.2.2.2.2.2.2.2.2.1) else false) then true else (if (!d.2.2.2.2.2.2.2.2.2.2.2.2.2.2.2.2.2.1) then ((d.2.2.2.2.2.2.2.2.2.2.2.2.2.2.2.2.2.2.1.length : Int) == (0 : Int)) else false)) then r8.1 else false), ())
/-- crossbarref27.Right -/
noncomputable def N_crossbarref27_Right (n : Nat) (d : T_api_Frame × T_api_Structure × Unit) : Option (Bool × Unit) :=
  (P_crossbarref27_Of d).bind fun (r1 : T_api_Structure × Unit) =>
  (P_crossbarref27_May (d.2.1, ())).bind fun (r2 : Bool × Unit) =>
  (if (!(!r2.1)) then (P_crossbarref26_Right (r1.1, ())) else some (false, ()) : Option (Bool × Unit)).bind fun (r3 : Bool × Unit) =>
  (if ((!(if (!r2.1) then true else (!r3.1))) && (!d.1.2.2.2.2.1)) then (P_crossbarref26_Same (d.1.2.2.2.2.2.1, ((0 : Int), (0 : Int), (0 : Int), ([] : List (Int)), ([] : List (T_api_Template)), ([] : List (T_api_Size)), ()), ())) else some (false, ()) : Option (Bool × Unit)).bind fun (r4 : Bool × Unit) =>
  if (if (if (!r2.1) then true else (!r3.1)) then true else (if (!d.1.2.2.2.2.1) then (!r4.1) else false)) then
  some (false, ())
  else
  (if (!(if (decide (d.1.2.2.1 < (0 : Int))) then true else (decide (d.1.2.2.1 > (63 : Int))))) then (P_crossbarref27_Place (d.1.2.2.1, r1.1, ())) else some ((0 : Int), ()) : Option (Int × Unit)).bind fun (r5 : Int × Unit) =>
  if (if (if (if (if (decide (d.1.2.2.1 < (0 : Int))) then true else (decide (d.1.2.2.1 > (63 : Int)))) then true else (decide (r5.1 < (0 : Int)))) then true else (decide (d.1.2.2.2.1 < (0 : Int)))) then true else (decide (d.1.2.2.2.1 > (65535 : Int)))) then
  some (false, ())
  else
  iter (L_crossbarref27_Right_8 n) n (d.1.1, d.1.2.1, d.1.2.2.1, d.1.2.2.2.1, d.1.2.2.2.2.1, d.1.2.2.2.2.2.1.1, d.1.2.2.2.2.2.1.2.1, d.1.2.2.2.2.2.1.2.2.1, d.1.2.2.2.2.2.1.2.2.2.1, d.1.2.2.2.2.2.1.2.2.2.2.1, d.1.2.2.2.2.2.1.2.2.2.2.2.1, d.1.2.2.2.2.2.2.1, d.1.2.2.2.2.2.2.2.1, d.1.2.2.2.2.2.2.2.2.1, d.1.2.2.2.2.2.2.2.2.2.1, d.1.2.2.2.2.2.2.2.2.2.2.1, d.1.2.2.2.2.2.2.2.2.2.2.2.1, d.1.2.2.2.2.2.2.2.2.2.2.2.2.1, d.1.2.2.2.2.2.2.2.2.2.2.2.2.2.1, r1.1.1, r1.1.2.1, r1.1.2.2.1, r1.1.2.2.2.1, r1.1.2.2.2.2.1, r1.1.2.2.2.2.2.1, (1 : Int), (0 : Int), ())
theorem e_crossbarref27_Right (n d) : fnK tab G_crossbarref27_Right an_crossbarref27_Right n Try.f9 (bodyOf Try.f9) in_crossbarref27_Right out_crossbarref27_Right d = N_crossbarref27_Right n d := by kernel_rfl
theorem E_crossbarref27_Right (d) : P_crossbarref27_Right d = N_crossbarref27_Right 1000000 d := e_crossbarref27_Right _ d
abbrev D_crossbarref02_bit_3 : Type := Int × Int × Int × Unit
noncomputable def L_crossbarref02_bit_3 (n : Nat) (J0 : D_crossbarref02_bit_3 → Option (Int × Unit)) (d : D_crossbarref02_bit_3) : Option (Int × Unit) :=
  if decide ((8 : Int) ≠ 0) then
  if (decide (d.2.2.1 < (IntKind.i64.wrap ((7 : Int) - (d.1.tmod (8 : Int)))))) then
  if decide ((2 : Int) ≠ 0) then
  J0 (d.1, (IntKind.u8.wrap (d.2.1.tdiv (2 : Int))), (IntKind.i64.wrap (d.2.2.1 + (1 : Int))), ()) else none
  else
  if decide ((2 : Int) ≠ 0) then
  some ((IntKind.u64.wrap (d.2.1.tmod (2 : Int))), ()) else none else none
/-- crossbarref02.bit -/
noncomputable def N_crossbarref02_bit (n : Nat) (d : T_api_Ink) : Option (Int × Unit) :=
  if decide ((8 : Int) ≠ 0) then
  if decide (0 ≤ (IntKind.i64.wrap (d.2.1.tdiv (8 : Int))) ∧ (IntKind.i64.wrap (d.2.1.tdiv (8 : Int))) < (d.1.length : Int)) then
  iter (L_crossbarref02_bit_3 n) n (d.2.1, (d.1.getD (IntKind.i64.wrap (d.2.1.tdiv (8 : Int))).toNat (0 : Int)), (0 : Int), ()) else none else none
theorem e_crossbarref02_bit (n d) : fnK tab G_crossbarref02_bit an_crossbarref02_bit n Try.f98 (bodyOf Try.f98) in_crossbarref02_bit out_crossbarref02_bit d = N_crossbarref02_bit n d := by kernel_rfl
theorem E_crossbarref02_bit (d) : P_crossbarref02_bit d = N_crossbarref02_bit 1000000 d := e_crossbarref02_bit _ d
abbrev D_crossbarref02_Ink_4 : Type := T_api_Bits
noncomputable def L_crossbarref02_Ink_4 (n : Nat) (J0 : D_crossbarref02_Ink_4 → Option (Bool × Unit)) (d : D_crossbarref02_Ink_4) : Option (Bool × Unit) :=
  if (decide (d.2.2.1 < (IntKind.i64.wrap ((8 : Int) * (d.1.length : Int))))) then
  (P_crossbarref02_bit (d.1, d.2.2.1, ())).bind fun (r1 : Int × Unit) =>
  if (r1.1 == (1 : Int)) then
  some (false, ())
  else
  J0 (d.1, d.2.1, (IntKind.i64.wrap (d.2.2.1 + (1 : Int))), ())
  else
  some (true, ())
/-- crossbarref02.Ink -/
noncomputable def N_crossbarref02_Ink (n : Nat) (d : T_api_Ink × Unit) : Option (Bool × Unit) :=
  if (if (if (decide (d.1.2.1 < (0 : Int))) then true else (decide (d.1.2.1 > (IntKind.i64.wrap ((8 : Int) * (d.1.1.length : Int)))))) then true else (decide ((IntKind.i64.wrap ((IntKind.i64.wrap ((8 : Int) * (d.1.1.length : Int))) - d.1.2.1)) > (7 : Int)))) then
  some (false, ())
  else
  iter (L_crossbarref02_Ink_4 n) n (d.1.1, d.1.2.1, d.1.2.1, ())
theorem e_crossbarref02_Ink (n d) : fnK tab G_crossbarref02_Ink an_crossbarref02_Ink n Try.f84 (bodyOf Try.f84) in_crossbarref02_Ink out_crossbarref02_Ink d = N_crossbarref02_Ink n d := by kernel_rfl
theorem E_crossbarref02_Ink (d) : P_crossbarref02_Ink d = N_crossbarref02_Ink 1000000 d := e_crossbarref02_Ink _ d
abbrev D_crossbarref02_Add_19 : Type := (List (Int)) × Int × (List (Int)) × Int × (List (Int)) × Int × Int × Int × Unit
noncomputable def L_crossbarref02_Add_19 (n : Nat) (J0 : (List (Int)) × Int × (List (Int)) × Int × (List (Int)) × Int × Unit → Option (T_api_Ink × Int × Unit)) (J1 : D_crossbarref02_Add_19 → Option (T_api_Ink × Int × Unit)) (d : D_crossbarref02_Add_19) : Option (T_api_Ink × Int × Unit) :=
  if decide ((8 : Int) ≠ 0) then
  if (decide (d.2.2.2.2.2.2.2.1 < (IntKind.i64.wrap ((7 : Int) - (d.2.2.2.1.tmod (8 : Int)))))) then
  J1 (d.1, d.2.1, d.2.2.1, d.2.2.2.1, d.2.2.2.2.1, d.2.2.2.2.2.1, (IntKind.u8.wrap ((2 : Int) * d.2.2.2.2.2.2.1)), (IntKind.i64.wrap (d.2.2.2.2.2.2.2.1 + (1 : Int))), ())
  else
  if decide (0 ≤ (IntKind.i64.wrap ((d.2.2.1.length : Int) - (1 : Int))) ∧ (IntKind.i64.wrap ((d.2.2.1.length : Int) - (1 : Int))) < (d.2.2.1.length : Int)) then
  if decide (0 ≤ (IntKind.i64.wrap ((d.2.2.1.length : Int) - (1 : Int))) ∧ (IntKind.i64.wrap ((d.2.2.1.length : Int) - (1 : Int))) < (d.2.2.1.length : Int)) then
  J0 (d.1, d.2.1, (d.2.2.1.set (IntKind.i64.wrap ((d.2.2.1.length : Int) - (1 : Int))).toNat (IntKind.u8.wrap ((d.2.2.1.getD (IntKind.i64.wrap ((d.2.2.1.length : Int) - (1 : Int))).toNat (0 : Int)) + d.2.2.2.2.2.2.1))), (IntKind.i64.wrap (d.2.2.2.1 + (1 : Int))), d.2.2.2.2.1, (IntKind.i64.wrap (d.2.2.2.2.2.1 - (1 : Int))), ()) else none else none else none
abbrev D_crossbarref02_Add_13 : Type := (List (Int)) × Int × (List (Int)) × Int × (List (Int)) × Int × Unit
noncomputable def L_crossbarref02_Add_13 (n : Nat) (J0 : D_crossbarref02_Add_13 → Option (T_api_Ink × Int × Unit)) (d : D_crossbarref02_Add_13) : Option (T_api_Ink × Int × Unit) :=
  if (decide (d.2.2.2.2.2.1 ≥ (0 : Int))) then
  if decide ((8 : Int) ≠ 0) then
  (if ((d.2.2.2.1.tmod (8 : Int)) == (0 : Int)) then
  if decide ((d.2.2.1.length + ([(0 : Int)] : List (Int)).length) * 1 ≤ 140737488355328) then
  some (d.1, d.2.1, (d.2.2.1 ++ ([(0 : Int)] : List (Int))), d.2.2.2.1, d.2.2.2.2.1, d.2.2.2.2.2.1, ()) else none
  else
  some d : Option ((List (Int)) × Int × (List (Int)) × Int × (List (Int)) × Int × Unit)).bind (fun (d2 : (List (Int)) × Int × (List (Int)) × Int × (List (Int)) × Int × Unit) =>
  if decide (0 ≤ d2.2.2.2.2.2.1 ∧ d2.2.2.2.2.2.1 < (d2.2.2.2.2.1.length : Int)) then
  iter (L_crossbarref02_Add_19 n J0) n (d2.1, d2.2.1, d2.2.2.1, d2.2.2.2.1, d2.2.2.2.2.1, d2.2.2.2.2.2.1, (d2.2.2.2.2.1.getD d2.2.2.2.2.2.1.toNat (0 : Int)), (0 : Int), ()) else none) else none
  else
  some ((d.2.2.1, d.2.2.2.1, ()), (0 : Int), ())
abbrev D_crossbarref02_Add_5 : Type := (List (Int)) × Int × (List (Int)) × Int × Int × Int × (List (Int)) × Int × Unit
noncomputable def L_crossbarref02_Add_5 (n : Nat) (J0 : D_crossbarref02_Add_5 → Option (T_api_Ink × Int × Unit)) (d : D_crossbarref02_Add_5) : Option (T_api_Ink × Int × Unit) :=
  if (decide (d.2.2.2.2.2.2.2.1 < d.2.2.2.2.2.1)) then
  if decide ((2 : Int) ≠ 0) then
  if decide ((d.2.2.2.2.2.2.1.length + ([(IntKind.u8.wrap (d.2.2.2.2.1.tmod (2 : Int)))] : List (Int)).length) * 1 ≤ 140737488355328) then
  if decide ((2 : Int) ≠ 0) then
  J0 (d.1, d.2.1, d.2.2.1, d.2.2.2.1, (IntKind.u64.wrap (d.2.2.2.2.1.tdiv (2 : Int))), d.2.2.2.2.2.1, (d.2.2.2.2.2.2.1 ++ ([(IntKind.u8.wrap (d.2.2.2.2.1.tmod (2 : Int)))] : List (Int))), (IntKind.i64.wrap (d.2.2.2.2.2.2.2.1 + (1 : Int))), ()) else none else none else none
  else
  if (decide (d.2.2.2.2.1 > (0 : Int))) then
  some ((d.1, d.2.1, ()), (6 : Int), ())
  else
  if decide ((([] : List (Int)).length + d.1.length) * 1 ≤ 140737488355328) then
  iter (L_crossbarref02_Add_13 n) n (d.2.2.1, d.2.2.2.1, (([] : List (Int)) ++ d.1), d.2.1, d.2.2.2.2.2.2.1, (IntKind.i64.wrap (d.2.2.2.2.2.1 - (1 : Int))), ()) else none
/-- crossbarref02.Add -/
noncomputable def N_crossbarref02_Add (n : Nat) (d : T_api_Ink × Int × Int × Unit) : Option (T_api_Ink × Int × Unit) :=
  (P_crossbarref02_Ink (d.1, ())).bind fun (r1 : Bool × Unit) =>
  if (if (if (!r1.1) then true else (decide (d.2.2.1 < (0 : Int)))) then true else (decide (d.2.2.1 > (64 : Int)))) then
  some (d.1, (1 : Int), ())
  else
  iter (L_crossbarref02_Add_5 n) n (d.1.1, d.1.2.1, ([] : List (Int)), (0 : Int), d.2.1, d.2.2.1, ([] : List (Int)), (0 : Int), ())
theorem e_crossbarref02_Add (n d) : fnK tab G_crossbarref02_Add an_crossbarref02_Add n Try.f71 (bodyOf Try.f71) in_crossbarref02_Add out_crossbarref02_Add d = N_crossbarref02_Add n d := by kernel_rfl
theorem E_crossbarref02_Add (d) : P_crossbarref02_Add d = N_crossbarref02_Add 1000000 d := e_crossbarref02_Add _ d
/-- crossbarref27.add -/
noncomputable def N_crossbarref27_add (n : Nat) (d : T_api_Ink × Int × Int × Unit) : Option (T_api_Ink × Unit) :=
  (P_crossbarref02_Add (d.1, (IntKind.u64.wrap d.2.1), d.2.2.1, ())).bind fun (r1 : T_api_Ink × Int × Unit) =>
  some (r1.1, ())
theorem e_crossbarref27_add (n d) : fnK tab G_crossbarref27_add an_crossbarref27_add n Try.f37 (bodyOf Try.f37) in_crossbarref27_add out_crossbarref27_add d = N_crossbarref27_add n d := by kernel_rfl
theorem E_crossbarref27_add (d) : P_crossbarref27_add d = N_crossbarref27_add 1000000 d := e_crossbarref27_add _ d
/-- crossbarref27.one -/
noncomputable def N_crossbarref27_one (n : Nat) (d : Bool × Unit) : Option (Int × Unit) :=
  if d.1 then
  some ((1 : Int), ())
  else
  some ((0 : Int), ())
theorem e_crossbarref27_one (n d) : fnK tab G_crossbarref27_one an_crossbarref27_one n Try.f38 (bodyOf Try.f38) in_crossbarref27_one out_crossbarref27_one d = N_crossbarref27_one n d := by kernel_rfl
theorem E_crossbarref27_one (d) : P_crossbarref27_one d = N_crossbarref27_one 1000000 d := e_crossbarref27_one _ d
/-- crossbarref26.add -/
noncomputable def N_crossbarref26_add (n : Nat) (d : T_api_Ink × Int × Int × Unit) : Option (T_api_Ink × Unit) :=
  (P_crossbarref02_Add (d.1, (IntKind.u64.wrap d.2.1), d.2.2.1, ())).bind fun (r1 : T_api_Ink × Int × Unit) =>
  some (r1.1, ())
theorem e_crossbarref26_add (n d) : fnK tab G_crossbarref26_add an_crossbarref26_add n Try.f72 (bodyOf Try.f72) in_crossbarref26_add out_crossbarref26_add d = N_crossbarref26_add n d := by kernel_rfl
theorem E_crossbarref26_add (d) : P_crossbarref26_add d = N_crossbarref26_add 1000000 d := e_crossbarref26_add _ d
abbrev D_crossbarref02_Spread_3 : Type := Int × Int × Int × Unit
noncomputable def L_crossbarref02_Spread_3 (n : Nat) (J0 : D_crossbarref02_Spread_3 → Option (Int × Int × Unit)) (d : D_crossbarref02_Spread_3) : Option (Int × Int × Unit) :=
  if (decide (d.2.2.1 ≤ d.1)) then
  J0 (d.1, (IntKind.i64.wrap (d.2.1 + (1 : Int))), (IntKind.u64.wrap ((2 : Int) * d.2.2.1)), ())
  else
  some (d.2.1, (IntKind.u64.wrap (d.2.2.1 - d.1)), ())
/-- crossbarref02.Spread -/
noncomputable def N_crossbarref02_Spread (n : Nat) (d : Int × Unit) : Option (Int × Int × Unit) :=
  iter (L_crossbarref02_Spread_3 n) n (d.1, (0 : Int), (1 : Int), ())
theorem e_crossbarref02_Spread (n d) : fnK tab G_crossbarref02_Spread an_crossbarref02_Spread n Try.f85 (bodyOf Try.f85) in_crossbarref02_Spread out_crossbarref02_Spread d = N_crossbarref02_Spread n d := by kernel_rfl
theorem E_crossbarref02_Spread (d) : P_crossbarref02_Spread d = N_crossbarref02_Spread 1000000 d := e_crossbarref02_Spread _ d
/-- crossbarref02.AddRange -/
noncomputable def N_crossbarref02_AddRange (n : Nat) (d : T_api_Ink × Int × Int × Unit) : Option (T_api_Ink × Int × Unit) :=
  (P_crossbarref02_Ink (d.1, ())).bind fun (r1 : Bool × Unit) =>
  if (if (if (!r1.1) then true else (decide (d.2.2.1 < (1 : Int)))) then true else (decide (d.2.2.1 > (4294967296 : Int)))) then
  some (d.1, (1 : Int), ())
  else
  if (decide (d.2.1 ≥ d.2.2.1)) then
  some (d.1, (6 : Int), ())
  else
  (P_crossbarref02_Spread (d.2.2.1, ())).bind fun (r2 : Int × Int × Unit) =>
  if (decide (d.2.1 < r2.2.1)) then
  (P_crossbarref02_Add (d.1, d.2.1, (IntKind.i64.wrap (r2.1 - (1 : Int))), ())).bind fun (r3 : T_api_Ink × Int × Unit) =>
  some (r3.1, r3.2.1, ())
  else
  (P_crossbarref02_Add (d.1, (IntKind.u64.wrap (d.2.1 + r2.2.1)), r2.1, ())).bind fun (r4 : T_api_Ink × Int × Unit) =>
  some (r4.1, r4.2.1, ())
theorem e_crossbarref02_AddRange (n d) : fnK tab G_crossbarref02_AddRange an_crossbarref02_AddRange n Try.f73 (bodyOf Try.f73) in_crossbarref02_AddRange out_crossbarref02_AddRange d = N_crossbarref02_AddRange n d := by kernel_rfl
theorem E_crossbarref02_AddRange (d) : P_crossbarref02_AddRange d = N_crossbarref02_AddRange 1000000 d := e_crossbarref02_AddRange _ d
abbrev D_crossbarref26_Put_19 : Type := (List (Int)) × Int × Int × Int × Int × (List (Int)) × (List (T_api_Template)) × (List (T_api_Size)) × (List (Int)) × Int × Int × Int × Int × Unit
noncomputable def L_crossbarref26_Put_19 (n : Nat) (J0 : (List (Int)) × Int × Int × Int × Int × (List (Int)) × (List (T_api_Template)) × (List (T_api_Size)) × (List (Int)) × Int × Int × Int × Unit → Option (T_api_Ink × Unit)) (J1 : D_crossbarref26_Put_19 → Option (T_api_Ink × Unit)) (d : D_crossbarref26_Put_19) : Option (T_api_Ink × Unit) :=
  if (decide (d.2.2.2.2.2.2.2.2.2.2.2.2.1 < d.2.2.2.1)) then
  if decide (0 ≤ d.2.2.2.2.2.2.2.2.2.2.2.1 ∧ d.2.2.2.2.2.2.2.2.2.2.2.1 < (d.2.2.2.2.2.2.1.length : Int)) then
  if decide (0 ≤ d.2.2.2.2.2.2.2.2.2.2.2.2.1 ∧ d.2.2.2.2.2.2.2.2.2.2.2.2.1 < (((d.2.2.2.2.2.2.1.getD d.2.2.2.2.2.2.2.2.2.2.2.1.toNat ((0 : Int), (0 : Int), [], [], [], ())).2.2.1).length : Int)) then
  (P_crossbarref26_add ((d.1, d.2.1, ()), (((d.2.2.2.2.2.2.1.getD d.2.2.2.2.2.2.2.2.2.2.2.1.toNat ((0 : Int), (0 : Int), [], [], [], ())).2.2.1).getD d.2.2.2.2.2.2.2.2.2.2.2.2.1.toNat (0 : Int)), (2 : Int), ())).bind fun (r7 : T_api_Ink × Unit) =>
  J1 (r7.1.1, r7.1.2.1, d.2.2.1, d.2.2.2.1, d.2.2.2.2.1, d.2.2.2.2.2.1, d.2.2.2.2.2.2.1, d.2.2.2.2.2.2.2.1, d.2.2.2.2.2.2.2.2.1, d.2.2.2.2.2.2.2.2.2.1, d.2.2.2.2.2.2.2.2.2.2.1, d.2.2.2.2.2.2.2.2.2.2.2.1, (IntKind.i64.wrap (d.2.2.2.2.2.2.2.2.2.2.2.2.1 + (1 : Int))), ()) else none else none
  else
  J0 (d.1, d.2.1, d.2.2.1, d.2.2.2.1, d.2.2.2.2.1, d.2.2.2.2.2.1, d.2.2.2.2.2.2.1, d.2.2.2.2.2.2.2.1, d.2.2.2.2.2.2.2.2.1, d.2.2.2.2.2.2.2.2.2.1, d.2.2.2.2.2.2.2.2.2.2.1, (IntKind.i64.wrap (d.2.2.2.2.2.2.2.2.2.2.2.1 + (1 : Int))), ())
abbrev D_crossbarref26_Put_27 : Type := (List (Int)) × Int × Int × Int × Int × (List (Int)) × (List (T_api_Template)) × (List (T_api_Size)) × (List (Int)) × Int × Int × Int × (List (Int)) × Int × Unit
noncomputable def L_crossbarref26_Put_27 (n : Nat) (J0 : (List (Int)) × Int × Int × Int × Int × (List (Int)) × (List (T_api_Template)) × (List (T_api_Size)) × (List (Int)) × Int × Int × Int × Unit → Option (T_api_Ink × Unit)) (J1 : D_crossbarref26_Put_27 → Option (T_api_Ink × Unit)) (d : D_crossbarref26_Put_27) : Option (T_api_Ink × Unit) :=
  if (decide (d.2.2.2.2.2.2.2.2.2.2.2.2.2.1 < (d.2.2.2.2.2.2.2.2.2.2.2.2.1.length : Int))) then
  if decide (0 ≤ d.2.2.2.2.2.2.2.2.2.2.2.2.2.1 ∧ d.2.2.2.2.2.2.2.2.2.2.2.2.2.1 < (d.2.2.2.2.2.2.2.2.2.2.2.2.1.length : Int)) then
  (P_crossbarref26_add ((d.1, d.2.1, ()), (IntKind.i64.wrap ((IntKind.i64.wrap ((16 : Int) + (d.2.2.2.2.2.2.2.2.2.2.2.2.1.getD d.2.2.2.2.2.2.2.2.2.2.2.2.2.1.toNat (0 : Int)))) - (1 : Int))), (5 : Int), ())).bind fun (r8 : T_api_Ink × Unit) =>
  J1 (r8.1.1, r8.1.2.1, d.2.2.1, d.2.2.2.1, d.2.2.2.2.1, d.2.2.2.2.2.1, d.2.2.2.2.2.2.1, d.2.2.2.2.2.2.2.1, d.2.2.2.2.2.2.2.2.1, d.2.2.2.2.2.2.2.2.2.1, d.2.2.2.2.2.2.2.2.2.2.1, d.2.2.2.2.2.2.2.2.2.2.2.1, d.2.2.2.2.2.2.2.2.2.2.2.2.1, (IntKind.i64.wrap (d.2.2.2.2.2.2.2.2.2.2.2.2.2.1 + (1 : Int))), ()) else none
  else
  (P_crossbarref26_add ((d.1, d.2.1, ()), (0 : Int), (1 : Int), ())).bind fun (r9 : T_api_Ink × Unit) =>
  J0 (r9.1.1, r9.1.2.1, d.2.2.1, d.2.2.2.1, d.2.2.2.2.1, d.2.2.2.2.2.1, d.2.2.2.2.2.2.1, d.2.2.2.2.2.2.2.1, d.2.2.2.2.2.2.2.2.1, d.2.2.2.2.2.2.2.2.2.1, d.2.2.2.2.2.2.2.2.2.2.1, (IntKind.i64.wrap (d.2.2.2.2.2.2.2.2.2.2.2.1 + (1 : Int))), ())
abbrev D_crossbarref26_Put_40 : Type := (List (Int)) × Int × Int × Int × Int × (List (Int)) × (List (T_api_Template)) × (List (T_api_Size)) × (List (Int)) × Int × Int × Int × Int × Unit
noncomputable def L_crossbarref26_Put_40 (n : Nat) (J0 : (List (Int)) × Int × Int × Int × Int × (List (Int)) × (List (T_api_Template)) × (List (T_api_Size)) × (List (Int)) × Int × Int × Int × Unit → Option (T_api_Ink × Unit)) (J1 : D_crossbarref26_Put_40 → Option (T_api_Ink × Unit)) (d : D_crossbarref26_Put_40) : Option (T_api_Ink × Unit) :=
  if (decide (d.2.2.2.2.2.2.2.2.2.2.2.2.1 < d.2.2.2.2.1)) then
  if decide (0 ≤ d.2.2.2.2.2.2.2.2.2.2.2.1 ∧ d.2.2.2.2.2.2.2.2.2.2.2.1 < (d.2.2.2.2.2.2.1.length : Int)) then
  if decide (0 ≤ d.2.2.2.2.2.2.2.2.2.2.2.2.1 ∧ d.2.2.2.2.2.2.2.2.2.2.2.2.1 < (((d.2.2.2.2.2.2.1.getD d.2.2.2.2.2.2.2.2.2.2.2.1.toNat ((0 : Int), (0 : Int), [], [], [], ())).2.2.2.2.1).length : Int)) then
  (P_crossbarref26_add ((d.1, d.2.1, ()), (((d.2.2.2.2.2.2.1.getD d.2.2.2.2.2.2.2.2.2.2.2.1.toNat ((0 : Int), (0 : Int), [], [], [], ())).2.2.2.2.1).getD d.2.2.2.2.2.2.2.2.2.2.2.2.1.toNat (0 : Int)), (4 : Int), ())).bind fun (r12 : T_api_Ink × Unit) =>
  J1 (r12.1.1, r12.1.2.1, d.2.2.1, d.2.2.2.1, d.2.2.2.2.1, d.2.2.2.2.2.1, d.2.2.2.2.2.2.1, d.2.2.2.2.2.2.2.1, d.2.2.2.2.2.2.2.2.1, d.2.2.2.2.2.2.2.2.2.1, d.2.2.2.2.2.2.2.2.2.2.1, d.2.2.2.2.2.2.2.2.2.2.2.1, (IntKind.i64.wrap (d.2.2.2.2.2.2.2.2.2.2.2.2.1 + (1 : Int))), ()) else none else none
  else
  J0 (d.1, d.2.1, d.2.2.1, d.2.2.2.1, d.2.2.2.2.1, d.2.2.2.2.2.1, d.2.2.2.2.2.2.1, d.2.2.2.2.2.2.2.1, d.2.2.2.2.2.2.2.2.1, d.2.2.2.2.2.2.2.2.2.1, d.2.2.2.2.2.2.2.2.2.2.1, (IntKind.i64.wrap (d.2.2.2.2.2.2.2.2.2.2.2.1 + (1 : Int))), ())
abbrev D_crossbarref26_Put_47 : Type := (List (Int)) × Int × Int × Int × Int × (List (Int)) × (List (T_api_Template)) × (List (T_api_Size)) × (List (Int)) × Int × Int × Unit
noncomputable def L_crossbarref26_Put_47 (n : Nat) (J0 : D_crossbarref26_Put_47 → Option (T_api_Ink × Unit)) (d : D_crossbarref26_Put_47) : Option (T_api_Ink × Unit) :=
  if (decide (d.2.2.2.2.2.2.2.2.2.2.1 < (d.2.2.2.2.2.2.2.1.length : Int))) then
  if decide (0 ≤ d.2.2.2.2.2.2.2.2.2.2.1 ∧ d.2.2.2.2.2.2.2.2.2.2.1 < (d.2.2.2.2.2.2.2.1.length : Int)) then
  (P_crossbarref26_add ((d.1, d.2.1, ()), (IntKind.i64.wrap ((d.2.2.2.2.2.2.2.1.getD d.2.2.2.2.2.2.2.2.2.2.1.toNat ((0 : Int), (0 : Int), ())).1 - (1 : Int))), (16 : Int), ())).bind fun (r15 : T_api_Ink × Unit) =>
  if decide (0 ≤ d.2.2.2.2.2.2.2.2.2.2.1 ∧ d.2.2.2.2.2.2.2.2.2.2.1 < (d.2.2.2.2.2.2.2.1.length : Int)) then
  (P_crossbarref26_add (r15.1, (IntKind.i64.wrap ((d.2.2.2.2.2.2.2.1.getD d.2.2.2.2.2.2.2.2.2.2.1.toNat ((0 : Int), (0 : Int), ())).2.1 - (1 : Int))), (16 : Int), ())).bind fun (r16 : T_api_Ink × Unit) =>
  J0 (r16.1.1, r16.1.2.1, d.2.2.1, d.2.2.2.1, d.2.2.2.2.1, d.2.2.2.2.2.1, d.2.2.2.2.2.2.1, d.2.2.2.2.2.2.2.1, d.2.2.2.2.2.2.2.2.1, d.2.2.2.2.2.2.2.2.2.1, (IntKind.i64.wrap (d.2.2.2.2.2.2.2.2.2.2.1 + (1 : Int))), ()) else none else none
  else
  some ((d.1, d.2.1, ()), ())
abbrev D_crossbarref26_Put_37 : Type := (List (Int)) × Int × Int × Int × Int × (List (Int)) × (List (T_api_Template)) × (List (T_api_Size)) × (List (Int)) × Int × Int × Int × Unit
noncomputable def L_crossbarref26_Put_37 (n : Nat) (J0 : D_crossbarref26_Put_37 → Option (T_api_Ink × Unit)) (d : D_crossbarref26_Put_37) : Option (T_api_Ink × Unit) :=
  if (decide (d.2.2.2.2.2.2.2.2.2.2.2.1 < d.2.2.2.2.2.2.2.2.2.2.1)) then
  iter (L_crossbarref26_Put_40 n J0) n (d.1, d.2.1, d.2.2.1, d.2.2.2.1, d.2.2.2.2.1, d.2.2.2.2.2.1, d.2.2.2.2.2.2.1, d.2.2.2.2.2.2.2.1, d.2.2.2.2.2.2.2.2.1, d.2.2.2.2.2.2.2.2.2.1, d.2.2.2.2.2.2.2.2.2.2.1, d.2.2.2.2.2.2.2.2.2.2.2.1, (0 : Int), ())
  else
  if ((d.2.2.2.2.2.2.2.1.length : Int) == (0 : Int)) then
  (P_crossbarref26_add ((d.1, d.2.1, ()), (0 : Int), (1 : Int), ())).bind fun (r13 : T_api_Ink × Unit) =>
  some (r13.1, ())
  else
  (P_crossbarref26_add ((d.1, d.2.1, ()), (1 : Int), (1 : Int), ())).bind fun (r14 : T_api_Ink × Unit) =>
  iter (L_crossbarref26_Put_47 n) n (r14.1.1, r14.1.2.1, d.2.2.1, d.2.2.2.1, d.2.2.2.2.1, d.2.2.2.2.2.1, d.2.2.2.2.2.2.1, d.2.2.2.2.2.2.2.1, d.2.2.2.2.2.2.2.2.1, d.2.2.2.2.2.2.2.2.2.1, (0 : Int), ())
abbrev D_crossbarref26_Put_33 : Type := (List (Int)) × Int × Int × Int × Int × (List (Int)) × (List (T_api_Template)) × (List (T_api_Size)) × (List (Int)) × Int × Int × Int × Unit
noncomputable def L_crossbarref26_Put_33 (n : Nat) (J0 : D_crossbarref26_Put_33 → Option (T_api_Ink × Unit)) (d : D_crossbarref26_Put_33) : Option (T_api_Ink × Unit) :=
  if (decide (d.2.2.2.2.2.2.2.2.2.2.2.1 < (d.2.2.2.2.2.1.length : Int))) then
  if decide (0 ≤ d.2.2.2.2.2.2.2.2.2.2.2.1 ∧ d.2.2.2.2.2.2.2.2.2.2.2.1 < (d.2.2.2.2.2.1.length : Int)) then
  (P_crossbarref02_AddRange ((d.1, d.2.1, ()), (IntKind.u64.wrap (d.2.2.2.2.2.1.getD d.2.2.2.2.2.2.2.2.2.2.2.1.toNat (0 : Int))), (IntKind.u64.wrap d.2.2.2.2.1), ())).bind fun (r11 : T_api_Ink × Int × Unit) =>
  J0 (r11.1.1, r11.1.2.1, d.2.2.1, d.2.2.2.1, d.2.2.2.2.1, d.2.2.2.2.2.1, d.2.2.2.2.2.2.1, d.2.2.2.2.2.2.2.1, d.2.2.2.2.2.2.2.2.1, d.2.2.2.2.2.2.2.2.2.1, d.2.2.2.2.2.2.2.2.2.2.1, (IntKind.i64.wrap (d.2.2.2.2.2.2.2.2.2.2.2.1 + (1 : Int))), ()) else none
  else
  iter (L_crossbarref26_Put_37 n) n (d.1, d.2.1, d.2.2.1, d.2.2.2.1, d.2.2.2.2.1, d.2.2.2.2.2.1, d.2.2.2.2.2.2.1, d.2.2.2.2.2.2.2.1, d.2.2.2.2.2.2.2.2.1, d.2.2.2.2.2.2.2.2.2.1, d.2.2.2.2.2.2.2.2.2.2.1, (0 : Int), ())
abbrev D_crossbarref26_Put_23 : Type := (List (Int)) × Int × Int × Int × Int × (List (Int)) × (List (T_api_Template)) × (List (T_api_Size)) × (List (Int)) × Int × Int × Int × Unit
noncomputable def L_crossbarref26_Put_23 (n : Nat) (J0 : D_crossbarref26_Put_23 → Option (T_api_Ink × Unit)) (d : D_crossbarref26_Put_23) : Option (T_api_Ink × Unit) :=
  if (decide (d.2.2.2.2.2.2.2.2.2.2.2.1 < d.2.2.2.2.2.2.2.2.2.2.1)) then
  if decide (0 ≤ d.2.2.2.2.2.2.2.2.2.2.2.1 ∧ d.2.2.2.2.2.2.2.2.2.2.2.1 < (d.2.2.2.2.2.2.1.length : Int)) then
  iter (L_crossbarref26_Put_27 n J0) n (d.1, d.2.1, d.2.2.1, d.2.2.2.1, d.2.2.2.2.1, d.2.2.2.2.2.1, d.2.2.2.2.2.2.1, d.2.2.2.2.2.2.2.1, d.2.2.2.2.2.2.2.2.1, d.2.2.2.2.2.2.2.2.2.1, d.2.2.2.2.2.2.2.2.2.2.1, d.2.2.2.2.2.2.2.2.2.2.2.1, (d.2.2.2.2.2.2.1.getD d.2.2.2.2.2.2.2.2.2.2.2.1.toNat ((0 : Int), (0 : Int), [], [], [], ())).2.2.2.1, (0 : Int), ()) else none
  else
  (P_crossbarref02_AddRange ((d.1, d.2.1, ()), (IntKind.u64.wrap d.2.2.2.2.1), (IntKind.u64.wrap (IntKind.i64.wrap (d.2.2.2.1 + (1 : Int)))), ())).bind fun (r10 : T_api_Ink × Int × Unit) =>
  iter (L_crossbarref26_Put_33 n) n (r10.1.1, r10.1.2.1, d.2.2.1, d.2.2.2.1, d.2.2.2.2.1, d.2.2.2.2.2.1, d.2.2.2.2.2.2.1, d.2.2.2.2.2.2.2.1, d.2.2.2.2.2.2.2.2.1, d.2.2.2.2.2.2.2.2.2.1, d.2.2.2.2.2.2.2.2.2.2.1, (0 : Int), ())
abbrev D_crossbarref26_Put_16 : Type := (List (Int)) × Int × Int × Int × Int × (List (Int)) × (List (T_api_Template)) × (List (T_api_Size)) × (List (Int)) × Int × Int × Int × Unit
noncomputable def L_crossbarref26_Put_16 (n : Nat) (J0 : D_crossbarref26_Put_16 → Option (T_api_Ink × Unit)) (d : D_crossbarref26_Put_16) : Option (T_api_Ink × Unit) :=
  if (decide (d.2.2.2.2.2.2.2.2.2.2.2.1 < d.2.2.2.2.2.2.2.2.2.2.1)) then
  iter (L_crossbarref26_Put_19 n J0) n (d.1, d.2.1, d.2.2.1, d.2.2.2.1, d.2.2.2.2.1, d.2.2.2.2.2.1, d.2.2.2.2.2.2.1, d.2.2.2.2.2.2.2.1, d.2.2.2.2.2.2.2.2.1, d.2.2.2.2.2.2.2.2.2.1, d.2.2.2.2.2.2.2.2.2.2.1, d.2.2.2.2.2.2.2.2.2.2.2.1, (0 : Int), ())
  else
  iter (L_crossbarref26_Put_23 n) n (d.1, d.2.1, d.2.2.1, d.2.2.2.1, d.2.2.2.2.1, d.2.2.2.2.2.1, d.2.2.2.2.2.2.1, d.2.2.2.2.2.2.2.1, d.2.2.2.2.2.2.2.2.1, d.2.2.2.2.2.2.2.2.2.1, d.2.2.2.2.2.2.2.2.2.2.1, (0 : Int), ())
abbrev D_crossbarref26_Put_4 : Type := (List (Int)) × Int × Int × Int × Int × (List (Int)) × (List (T_api_Template)) × (List (T_api_Size)) × (List (Int)) × Int × Int × Int × Unit
noncomputable def L_crossbarref26_Put_4 (n : Nat) (J0 : D_crossbarref26_Put_4 → Option (T_api_Ink × Unit)) (d : D_crossbarref26_Put_4) : Option (T_api_Ink × Unit) :=
  if (decide (d.2.2.2.2.2.2.2.2.2.2.2.1 < d.2.2.2.2.2.2.2.2.2.2.1)) then
  (if (decide ((IntKind.i64.wrap (d.2.2.2.2.2.2.2.2.2.2.2.1 + (1 : Int))) < d.2.2.2.2.2.2.2.2.2.2.1)) then
  if decide (0 ≤ d.2.2.2.2.2.2.2.2.2.2.2.1 ∧ d.2.2.2.2.2.2.2.2.2.2.2.1 < (d.2.2.2.2.2.2.1.length : Int)) then
  if decide (0 ≤ (IntKind.i64.wrap (d.2.2.2.2.2.2.2.2.2.2.2.1 + (1 : Int))) ∧ (IntKind.i64.wrap (d.2.2.2.2.2.2.2.2.2.2.2.1 + (1 : Int))) < (d.2.2.2.2.2.2.1.length : Int)) then
  (if (decide ((d.2.2.2.2.2.2.1.getD (IntKind.i64.wrap (d.2.2.2.2.2.2.2.2.2.2.2.1 + (1 : Int))).toNat ((0 : Int), (0 : Int), [], [], [], ())).1 > (d.2.2.2.2.2.2.1.getD d.2.2.2.2.2.2.2.2.2.2.2.1.toNat ((0 : Int), (0 : Int), [], [], [], ())).1)) then
  some (d.1, d.2.1, d.2.2.1, d.2.2.2.1, d.2.2.2.2.1, d.2.2.2.2.2.1, d.2.2.2.2.2.2.1, d.2.2.2.2.2.2.2.1, d.2.2.2.2.2.2.2.2.1, d.2.2.2.2.2.2.2.2.2.1, d.2.2.2.2.2.2.2.2.2.2.1, d.2.2.2.2.2.2.2.2.2.2.2.1, (2 : Int), ())
  else
  (if (decide ((d.2.2.2.2.2.2.1.getD (IntKind.i64.wrap (d.2.2.2.2.2.2.2.2.2.2.2.1 + (1 : Int))).toNat ((0 : Int), (0 : Int), [], [], [], ())).2.1 > (d.2.2.2.2.2.2.1.getD d.2.2.2.2.2.2.2.2.2.2.2.1.toNat ((0 : Int), (0 : Int), [], [], [], ())).2.1)) then
  some (d.1, d.2.1, d.2.2.1, d.2.2.2.1, d.2.2.2.2.1, d.2.2.2.2.2.1, d.2.2.2.2.2.2.1, d.2.2.2.2.2.2.2.1, d.2.2.2.2.2.2.2.2.1, d.2.2.2.2.2.2.2.2.2.1, d.2.2.2.2.2.2.2.2.2.2.1, d.2.2.2.2.2.2.2.2.2.2.2.1, (1 : Int), ())
  else
  some (d.1, d.2.1, d.2.2.1, d.2.2.2.1, d.2.2.2.2.1, d.2.2.2.2.2.1, d.2.2.2.2.2.2.1, d.2.2.2.2.2.2.2.1, d.2.2.2.2.2.2.2.2.1, d.2.2.2.2.2.2.2.2.2.1, d.2.2.2.2.2.2.2.2.2.2.1, d.2.2.2.2.2.2.2.2.2.2.2.1, (0 : Int), ()) : Option ((List (Int)) × Int × Int × Int × Int × (List (Int)) × (List (T_api_Template)) × (List (T_api_Size)) × (List (Int)) × Int × Int × Int × Int × Unit)).bind (fun (d5 : (List (Int)) × Int × Int × Int × Int × (List (Int)) × (List (T_api_Template)) × (List (T_api_Size)) × (List (Int)) × Int × Int × Int × Int × Unit) =>
  some d5) : Option ((List (Int)) × Int × Int × Int × Int × (List (Int)) × (List (T_api_Template)) × (List (T_api_Size)) × (List (Int)) × Int × Int × Int × Int × Unit)).bind (fun (d4 : (List (Int)) × Int × Int × Int × Int × (List (Int)) × (List (T_api_Template)) × (List (T_api_Size)) × (List (Int)) × Int × Int × Int × Int × Unit) =>
  some d4) else none else none
  else
  some (d.1, d.2.1, d.2.2.1, d.2.2.2.1, d.2.2.2.2.1, d.2.2.2.2.2.1, d.2.2.2.2.2.2.1, d.2.2.2.2.2.2.2.1, d.2.2.2.2.2.2.2.2.1, d.2.2.2.2.2.2.2.2.2.1, d.2.2.2.2.2.2.2.2.2.2.1, d.2.2.2.2.2.2.2.2.2.2.2.1, (3 : Int), ()) : Option ((List (Int)) × Int × Int × Int × Int × (List (Int)) × (List (T_api_Template)) × (List (T_api_Size)) × (List (Int)) × Int × Int × Int × Int × Unit)).bind (fun (d3 : (List (Int)) × Int × Int × Int × Int × (List (Int)) × (List (T_api_Template)) × (List (T_api_Size)) × (List (Int)) × Int × Int × Int × Int × Unit) =>
  (P_crossbarref26_add ((d3.1, d3.2.1, ()), d3.2.2.2.2.2.2.2.2.2.2.2.2.1, (2 : Int), ())).bind fun (r6 : T_api_Ink × Unit) =>
  J0 (r6.1.1, r6.1.2.1, d3.2.2.1, d3.2.2.2.1, d3.2.2.2.2.1, d3.2.2.2.2.2.1, d3.2.2.2.2.2.2.1, d3.2.2.2.2.2.2.2.1, d3.2.2.2.2.2.2.2.2.1, d3.2.2.2.2.2.2.2.2.2.1, d3.2.2.2.2.2.2.2.2.2.2.1, (IntKind.i64.wrap (d3.2.2.2.2.2.2.2.2.2.2.2.1 + (1 : Int))), ()))
  else
  iter (L_crossbarref26_Put_16 n) n (d.1, d.2.1, d.2.2.1, d.2.2.2.1, d.2.2.2.2.1, d.2.2.2.2.2.1, d.2.2.2.2.2.2.1, d.2.2.2.2.2.2.2.1, d.2.2.2.2.2.2.2.2.1, d.2.2.2.2.2.2.2.2.2.1, d.2.2.2.2.2.2.2.2.2.2.1, (0 : Int), ())
/-- crossbarref26.Put -/
noncomputable def N_crossbarref26_Put (n : Nat) (d : T_api_Ink × T_api_Structure × Unit) : Option (T_api_Ink × Unit) :=
  (P_crossbarref26_add (d.1, d.2.1.1, (6 : Int), ())).bind fun (r1 : T_api_Ink × Unit) =>
  (P_crossbarref26_add (r1.1, (IntKind.i64.wrap (d.2.1.2.1 - (1 : Int))), (5 : Int), ())).bind fun (r2 : T_api_Ink × Unit) =>
  iter (L_crossbarref26_Put_4 n) n (r2.1.1, r2.1.2.1, d.2.1.1, d.2.1.2.1, d.2.1.2.2.1, d.2.1.2.2.2.1, d.2.1.2.2.2.2.1, d.2.1.2.2.2.2.2.1, ([] : List (Int)), (0 : Int), (d.2.1.2.2.2.2.1.length : Int), (0 : Int), ())
theorem e_crossbarref26_Put (n d) : fnK tab G_crossbarref26_Put an_crossbarref26_Put n Try.f39 (bodyOf Try.f39) in_crossbarref26_Put out_crossbarref26_Put d = N_crossbarref26_Put n d := by kernel_rfl
theorem E_crossbarref26_Put (d) : P_crossbarref26_Put d = N_crossbarref26_Put 1000000 d := e_crossbarref26_Put _ d
abbrev D_crossbarref27_Write_26 : Type := Bool × Bool × Int × Int × Bool × Int × Int × Int × (List (Int)) × (List (T_api_Template)) × (List (T_api_Size)) × Bool × Int × Bool × (List (Int)) × Bool × (List (Int)) × Bool × (List (Int)) × (List (Int)) × Int × Int × Unit
noncomputable def L_crossbarref27_Write_26 (n : Nat) (J0 : D_crossbarref27_Write_26 → Option ((List (Int)) × Unit)) (d : D_crossbarref27_Write_26) : Option ((List (Int)) × Unit) :=
  if (decide (d.2.2.2.2.2.2.2.2.2.2.2.2.2.2.2.2.2.2.2.2.2.1 < (d.2.2.2.2.2.2.2.2.2.2.2.2.2.2.2.2.2.2.1.length : Int))) then
  if decide (0 ≤ d.2.2.2.2.2.2.2.2.2.2.2.2.2.2.2.2.2.2.2.2.2.1 ∧ d.2.2.2.2.2.2.2.2.2.2.2.2.2.2.2.2.2.2.2.2.2.1 < (d.2.2.2.2.2.2.2.2.2.2.2.2.2.2.2.2.2.2.1.length : Int)) then
  (P_crossbarref27_add ((d.2.2.2.2.2.2.2.2.2.2.2.2.2.2.2.2.2.2.2.1, d.2.2.2.2.2.2.2.2.2.2.2.2.2.2.2.2.2.2.2.2.1, ()), (d.2.2.2.2.2.2.2.2.2.2.2.2.2.2.2.2.2.2.1.getD d.2.2.2.2.2.2.2.2.2.2.2.2.2.2.2.2.2.2.2.2.2.1.toNat (0 : Int)), (8 : Int), ())).bind fun (r24 : T_api_Ink × Unit) =>
  J0 (d.1, d.2.1, d.2.2.1, d.2.2.2.1, d.2.2.2.2.1, d.2.2.2.2.2.1, d.2.2.2.2.2.2.1, d.2.2.2.2.2.2.2.1, d.2.2.2.2.2.2.2.2.1, d.2.2.2.2.2.2.2.2.2.1, d.2.2.2.2.2.2.2.2.2.2.1, d.2.2.2.2.2.2.2.2.2.2.2.1, d.2.2.2.2.2.2.2.2.2.2.2.2.1, d.2.2.2.2.2.2.2.2.2.2.2.2.2.1, d.2.2.2.2.2.2.2.2.2.2.2.2.2.2.1, d.2.2.2.2.2.2.2.2.2.2.2.2.2.2.2.1, d.2.2.2.2.2.2.2.2.2.2.2.2.2.2.2.2.1, d.2.2.2.2.2.2.2.2.2.2.2.2.2.2.2.2.2.1, d.2.2.2.2.2.2.2.2.2.2.2.2.2.2.2.2.2.2.1, r24.1.1, r24.1.2.1, (IntKind.i64.wrap (d.2.2.2.2.2.2.2.2.2.2.2.2.2.2.2.2.2.2.2.2.2.1 + (1 : Int))), ()) else none
  else
  some (d.2.2.2.2.2.2.2.2.2.2.2.2.2.2.2.2.2.2.2.1, ())
abbrev D_crossbarref27_Write_15 : Type := Bool × Bool × Int × Int × Bool × Int × Int × Int × (List (Int)) × (List (T_api_Template)) × (List (T_api_Size)) × Bool × Int × Bool × (List (Int)) × Bool × (List (Int)) × Bool × (List (Int)) × (List (Int)) × Int × Int × Unit
noncomputable def L_crossbarref27_Write_15 (n : Nat) (J0 : D_crossbarref27_Write_15 → Option ((List (Int)) × Unit)) (d : D_crossbarref27_Write_15) : Option ((List (Int)) × Unit) :=
  if (decide (d.2.2.2.2.2.2.2.2.2.2.2.2.2.2.2.2.2.2.2.2.2.1 < (d.2.2.2.2.2.2.2.2.2.2.2.2.2.2.2.2.1.length : Int))) then
  if decide (0 ≤ d.2.2.2.2.2.2.2.2.2.2.2.2.2.2.2.2.2.2.2.2.2.1 ∧ d.2.2.2.2.2.2.2.2.2.2.2.2.2.2.2.2.2.2.2.2.2.1 < (d.2.2.2.2.2.2.2.2.2.2.2.2.2.2.2.2.1.length : Int)) then
  (if (decide ((d.2.2.2.2.2.2.2.2.2.2.2.2.2.2.2.2.1.getD d.2.2.2.2.2.2.2.2.2.2.2.2.2.2.2.2.2.2.2.2.2.1.toNat (0 : Int)) ≤ (16 : Int))) then
  (P_crossbarref27_add ((d.2.2.2.2.2.2.2.2.2.2.2.2.2.2.2.2.2.2.2.1, d.2.2.2.2.2.2.2.2.2.2.2.2.2.2.2.2.2.2.2.2.1, ()), (IntKind.i64.wrap ((IntKind.i64.wrap ((16 : Int) + (d.2.2.2.2.2.2.2.2.2.2.2.2.2.2.2.2.1.getD d.2.2.2.2.2.2.2.2.2.2.2.2.2.2.2.2.2.2.2.2.2.1.toNat (0 : Int)))) - (1 : Int))), (6 : Int), ())).bind fun (r18 : T_api_Ink × Unit) =>
  some (d.1, d.2.1, d.2.2.1, d.2.2.2.1, d.2.2.2.2.1, d.2.2.2.2.2.1, d.2.2.2.2.2.2.1, d.2.2.2.2.2.2.2.1, d.2.2.2.2.2.2.2.2.1, d.2.2.2.2.2.2.2.2.2.1, d.2.2.2.2.2.2.2.2.2.2.1, d.2.2.2.2.2.2.2.2.2.2.2.1, d.2.2.2.2.2.2.2.2.2.2.2.2.1, d.2.2.2.2.2.2.2.2.2.2.2.2.2.1, d.2.2.2.2.2.2.2.2.2.2.2.2.2.2.1, d.2.2.2.2.2.2.2.2.2.2.2.2.2.2.2.1, d.2.2.2.2.2.2.2.2.2.2.2.2.2.2.2.2.1, d.2.2.2.2.2.2.2.2.2.2.2.2.2.2.2.2.2.1, d.2.2.2.2.2.2.2.2.2.2.2.2.2.2.2.2.2.2.1, r18.1.1, r18.1.2.1, d.2.2.2.2.2.2.2.2.2.2.2.2.2.2.2.2.2.2.2.2.2.1, ())
  else
  (if (decide ((d.2.2.2.2.2.2.2.2.2.2.2.2.2.2.2.2.1.getD d.2.2.2.2.2.2.2.2.2.2.2.2.2.2.2.2.2.2.2.2.2.1.toNat (0 : Int)) ≤ (256 : Int))) then
  (P_crossbarref27_add ((d.2.2.2.2.2.2.2.2.2.2.2.2.2.2.2.2.2.2.2.1, d.2.2.2.2.2.2.2.2.2.2.2.2.2.2.2.2.2.2.2.2.1, ()), (IntKind.i64.wrap ((IntKind.i64.wrap ((512 : Int) + (d.2.2.2.2.2.2.2.2.2.2.2.2.2.2.2.2.1.getD d.2.2.2.2.2.2.2.2.2.2.2.2.2.2.2.2.2.2.2.2.2.1.toNat (0 : Int)))) - (1 : Int))), (10 : Int), ())).bind fun (r20 : T_api_Ink × Unit) =>
  some (d.1, d.2.1, d.2.2.1, d.2.2.2.1, d.2.2.2.2.1, d.2.2.2.2.2.1, d.2.2.2.2.2.2.1, d.2.2.2.2.2.2.2.1, d.2.2.2.2.2.2.2.2.1, d.2.2.2.2.2.2.2.2.2.1, d.2.2.2.2.2.2.2.2.2.2.1, d.2.2.2.2.2.2.2.2.2.2.2.1, d.2.2.2.2.2.2.2.2.2.2.2.2.1, d.2.2.2.2.2.2.2.2.2.2.2.2.2.1, d.2.2.2.2.2.2.2.2.2.2.2.2.2.2.1, d.2.2.2.2.2.2.2.2.2.2.2.2.2.2.2.1, d.2.2.2.2.2.2.2.2.2.2.2.2.2.2.2.2.1, d.2.2.2.2.2.2.2.2.2.2.2.2.2.2.2.2.2.1, d.2.2.2.2.2.2.2.2.2.2.2.2.2.2.2.2.2.2.1, r20.1.1, r20.1.2.1, d.2.2.2.2.2.2.2.2.2.2.2.2.2.2.2.2.2.2.2.2.2.1, ())
  else
  (P_crossbarref27_add ((d.2.2.2.2.2.2.2.2.2.2.2.2.2.2.2.2.2.2.2.1, d.2.2.2.2.2.2.2.2.2.2.2.2.2.2.2.2.2.2.2.2.1, ()), (IntKind.i64.wrap ((IntKind.i64.wrap ((12288 : Int) + (d.2.2.2.2.2.2.2.2.2.2.2.2.2.2.2.2.1.getD d.2.2.2.2.2.2.2.2.2.2.2.2.2.2.2.2.2.2.2.2.2.1.toNat (0 : Int)))) - (1 : Int))), (14 : Int), ())).bind fun (r21 : T_api_Ink × Unit) =>
  some (d.1, d.2.1, d.2.2.1, d.2.2.2.1, d.2.2.2.2.1, d.2.2.2.2.2.1, d.2.2.2.2.2.2.1, d.2.2.2.2.2.2.2.1, d.2.2.2.2.2.2.2.2.1, d.2.2.2.2.2.2.2.2.2.1, d.2.2.2.2.2.2.2.2.2.2.1, d.2.2.2.2.2.2.2.2.2.2.2.1, d.2.2.2.2.2.2.2.2.2.2.2.2.1, d.2.2.2.2.2.2.2.2.2.2.2.2.2.1, d.2.2.2.2.2.2.2.2.2.2.2.2.2.2.1, d.2.2.2.2.2.2.2.2.2.2.2.2.2.2.2.1, d.2.2.2.2.2.2.2.2.2.2.2.2.2.2.2.2.1, d.2.2.2.2.2.2.2.2.2.2.2.2.2.2.2.2.2.1, d.2.2.2.2.2.2.2.2.2.2.2.2.2.2.2.2.2.2.1, r21.1.1, r21.1.2.1, d.2.2.2.2.2.2.2.2.2.2.2.2.2.2.2.2.2.2.2.2.2.1, ()) : Option (Bool × Bool × Int × Int × Bool × Int × Int × Int × (List (Int)) × (List (T_api_Template)) × (List (T_api_Size)) × Bool × Int × Bool × (List (Int)) × Bool × (List (Int)) × Bool × (List (Int)) × (List (Int)) × Int × Int × Unit)).bind (fun (d19 : Bool × Bool × Int × Int × Bool × Int × Int × Int × (List (Int)) × (List (T_api_Template)) × (List (T_api_Size)) × Bool × Int × Bool × (List (Int)) × Bool × (List (Int)) × Bool × (List (Int)) × (List (Int)) × Int × Int × Unit) =>
  some d19) : Option (Bool × Bool × Int × Int × Bool × Int × Int × Int × (List (Int)) × (List (T_api_Template)) × (List (T_api_Size)) × Bool × Int × Bool × (List (Int)) × Bool × (List (Int)) × Bool × (List (Int)) × (List (Int)) × Int × Int × Unit)).bind (fun (d17 : Bool × Bool × Int × Int × Bool × Int × Int × Int × (List (Int)) × (List (T_api_Template)) × (List (T_api_Size)) × Bool × Int × Bool × (List (Int)) × Bool × (List (Int)) × Bool × (List (Int)) × (List (Int)) × Int × Int × Unit) =>
  J0 (d17.1, d17.2.1, d17.2.2.1, d17.2.2.2.1, d17.2.2.2.2.1, d17.2.2.2.2.2.1, d17.2.2.2.2.2.2.1, d17.2.2.2.2.2.2.2.1, d17.2.2.2.2.2.2.2.2.1, d17.2.2.2.2.2.2.2.2.2.1, d17.2.2.2.2.2.2.2.2.2.2.1, d17.2.2.2.2.2.2.2.2.2.2.2.1, d17.2.2.2.2.2.2.2.2.2.2.2.2.1, d17.2.2.2.2.2.2.2.2.2.2.2.2.2.1, d17.2.2.2.2.2.2.2.2.2.2.2.2.2.2.1, d17.2.2.2.2.2.2.2.2.2.2.2.2.2.2.2.1, d17.2.2.2.2.2.2.2.2.2.2.2.2.2.2.2.2.1, d17.2.2.2.2.2.2.2.2.2.2.2.2.2.2.2.2.2.1, d17.2.2.2.2.2.2.2.2.2.2.2.2.2.2.2.2.2.2.1, d17.2.2.2.2.2.2.2.2.2.2.2.2.2.2.2.2.2.2.2.1, d17.2.2.2.2.2.2.2.2.2.2.2.2.2.2.2.2.2.2.2.2.1, (IntKind.i64.wrap (d17.2.2.2.2.2.2.2.2.2.2.2.2.2.2.2.2.2.2.2.2.2.1 + (1 : Int))), ())) else none
  else
  (if d.2.2.2.2.2.2.2.2.2.2.2.2.2.2.2.1 then
  (P_crossbarref27_add ((d.2.2.2.2.2.2.2.2.2.2.2.2.2.2.2.2.2.2.2.1, d.2.2.2.2.2.2.2.2.2.2.2.2.2.2.2.2.2.2.2.2.1, ()), (0 : Int), (2 : Int), ())).bind fun (r23 : T_api_Ink × Unit) =>
  some (d.1, d.2.1, d.2.2.1, d.2.2.2.1, d.2.2.2.2.1, d.2.2.2.2.2.1, d.2.2.2.2.2.2.1, d.2.2.2.2.2.2.2.1, d.2.2.2.2.2.2.2.2.1, d.2.2.2.2.2.2.2.2.2.1, d.2.2.2.2.2.2.2.2.2.2.1, d.2.2.2.2.2.2.2.2.2.2.2.1, d.2.2.2.2.2.2.2.2.2.2.2.2.1, d.2.2.2.2.2.2.2.2.2.2.2.2.2.1, d.2.2.2.2.2.2.2.2.2.2.2.2.2.2.1, d.2.2.2.2.2.2.2.2.2.2.2.2.2.2.2.1, d.2.2.2.2.2.2.2.2.2.2.2.2.2.2.2.2.1, d.2.2.2.2.2.2.2.2.2.2.2.2.2.2.2.2.2.1, d.2.2.2.2.2.2.2.2.2.2.2.2.2.2.2.2.2.2.1, r23.1.1, r23.1.2.1, ())
  else
  some (d.1, d.2.1, d.2.2.1, d.2.2.2.1, d.2.2.2.2.1, d.2.2.2.2.2.1, d.2.2.2.2.2.2.1, d.2.2.2.2.2.2.2.1, d.2.2.2.2.2.2.2.2.1, d.2.2.2.2.2.2.2.2.2.1, d.2.2.2.2.2.2.2.2.2.2.1, d.2.2.2.2.2.2.2.2.2.2.2.1, d.2.2.2.2.2.2.2.2.2.2.2.2.1, d.2.2.2.2.2.2.2.2.2.2.2.2.2.1, d.2.2.2.2.2.2.2.2.2.2.2.2.2.2.1, d.2.2.2.2.2.2.2.2.2.2.2.2.2.2.2.1, d.2.2.2.2.2.2.2.2.2.2.2.2.2.2.2.2.1, d.2.2.2.2.2.2.2.2.2.2.2.2.2.2.2.2.2.1, d.2.2.2.2.2.2.2.2.2.2.2.2.2.2.2.2.2.2.1, d.2.2.2.2.2.2.2.2.2.2.2.2.2.2.2.2.2.2.2.1, d.2.2.2.2.2.2.2.2.2.2.2.2.2.2.2.2.2.2.2.2.1, ()) : Option (Bool × Bool × Int × Int × Bool × Int × Int × Int × (List (Int)) × (List (T_api_Template)) × (List (T_api_Size)) × Bool × Int × Bool × (List (Int)) × Bool × (List (Int)) × Bool × (List (Int)) × (List (Int)) × Int × Unit)).bind (fun (d22 : Bool × Bool × Int × Int × Bool × Int × Int × Int × (List (Int)) × (List (T_api_Template)) × (List (T_api_Size)) × Bool × Int × Bool × (List (Int)) × Bool × (List (Int)) × Bool × (List (Int)) × (List (Int)) × Int × Unit) =>
  iter (L_crossbarref27_Write_26 n) n (d22.1, d22.2.1, d22.2.2.1, d22.2.2.2.1, d22.2.2.2.2.1, d22.2.2.2.2.2.1, d22.2.2.2.2.2.2.1, d22.2.2.2.2.2.2.2.1, d22.2.2.2.2.2.2.2.2.1, d22.2.2.2.2.2.2.2.2.2.1, d22.2.2.2.2.2.2.2.2.2.2.1, d22.2.2.2.2.2.2.2.2.2.2.2.1, d22.2.2.2.2.2.2.2.2.2.2.2.2.1, d22.2.2.2.2.2.2.2.2.2.2.2.2.2.1, d22.2.2.2.2.2.2.2.2.2.2.2.2.2.2.1, d22.2.2.2.2.2.2.2.2.2.2.2.2.2.2.2.1, d22.2.2.2.2.2.2.2.2.2.2.2.2.2.2.2.2.1, d22.2.2.2.2.2.2.2.2.2.2.2.2.2.2.2.2.2.1, d22.2.2.2.2.2.2.2.2.2.2.2.2.2.2.2.2.2.2.1, d22.2.2.2.2.2.2.2.2.2.2.2.2.2.2.2.2.2.2.2.1, d22.2.2.2.2.2.2.2.2.2.2.2.2.2.2.2.2.2.2.2.2.1, (0 : Int), ()))
abbrev D_crossbarref27_Write_11 : Type := Bool × Bool × Int × Int × Bool × Int × Int × Int × (List (Int)) × (List (T_api_Template)) × (List (T_api_Size)) × Bool × Int × Bool × (List (Int)) × Bool × (List (Int)) × Bool × (List (Int)) × (List (Int)) × Int × Int × Unit
noncomputable def L_crossbarref27_Write_11 (n : Nat) (J0 : D_crossbarref27_Write_11 → Option ((List (Int)) × Unit)) (d : D_crossbarref27_Write_11) : Option ((List (Int)) × Unit) :=
  if (decide (d.2.2.2.2.2.2.2.2.2.2.2.2.2.2.2.2.2.2.2.2.2.1 < (d.2.2.2.2.2.2.2.2.2.2.2.2.2.2.1.length : Int))) then
  if decide (0 ≤ d.2.2.2.2.2.2.2.2.2.2.2.2.2.2.2.2.2.2.2.2.2.1 ∧ d.2.2.2.2.2.2.2.2.2.2.2.2.2.2.2.2.2.2.2.2.2.1 < (d.2.2.2.2.2.2.2.2.2.2.2.2.2.2.1.length : Int)) then
  (P_crossbarref27_add ((d.2.2.2.2.2.2.2.2.2.2.2.2.2.2.2.2.2.2.2.1, d.2.2.2.2.2.2.2.2.2.2.2.2.2.2.2.2.2.2.2.2.1, ()), (d.2.2.2.2.2.2.2.2.2.2.2.2.2.2.1.getD d.2.2.2.2.2.2.2.2.2.2.2.2.2.2.2.2.2.2.2.2.2.1.toNat (0 : Int)), (2 : Int), ())).bind fun (r16 : T_api_Ink × Unit) =>
  J0 (d.1, d.2.1, d.2.2.1, d.2.2.2.1, d.2.2.2.2.1, d.2.2.2.2.2.1, d.2.2.2.2.2.2.1, d.2.2.2.2.2.2.2.1, d.2.2.2.2.2.2.2.2.1, d.2.2.2.2.2.2.2.2.2.1, d.2.2.2.2.2.2.2.2.2.2.1, d.2.2.2.2.2.2.2.2.2.2.2.1, d.2.2.2.2.2.2.2.2.2.2.2.2.1, d.2.2.2.2.2.2.2.2.2.2.2.2.2.1, d.2.2.2.2.2.2.2.2.2.2.2.2.2.2.1, d.2.2.2.2.2.2.2.2.2.2.2.2.2.2.2.1, d.2.2.2.2.2.2.2.2.2.2.2.2.2.2.2.2.1, d.2.2.2.2.2.2.2.2.2.2.2.2.2.2.2.2.2.1, d.2.2.2.2.2.2.2.2.2.2.2.2.2.2.2.2.2.2.1, r16.1.1, r16.1.2.1, (IntKind.i64.wrap (d.2.2.2.2.2.2.2.2.2.2.2.2.2.2.2.2.2.2.2.2.2.1 + (1 : Int))), ()) else none
  else
  iter (L_crossbarref27_Write_15 n) n (d.1, d.2.1, d.2.2.1, d.2.2.2.1, d.2.2.2.2.1, d.2.2.2.2.2.1, d.2.2.2.2.2.2.1, d.2.2.2.2.2.2.2.1, d.2.2.2.2.2.2.2.2.1, d.2.2.2.2.2.2.2.2.2.1, d.2.2.2.2.2.2.2.2.2.2.1, d.2.2.2.2.2.2.2.2.2.2.2.1, d.2.2.2.2.2.2.2.2.2.2.2.2.1, d.2.2.2.2.2.2.2.2.2.2.2.2.2.1, d.2.2.2.2.2.2.2.2.2.2.2.2.2.2.1, d.2.2.2.2.2.2.2.2.2.2.2.2.2.2.2.1, d.2.2.2.2.2.2.2.2.2.2.2.2.2.2.2.2.1, d.2.2.2.2.2.2.2.2.2.2.2.2.2.2.2.2.2.1, d.2.2.2.2.2.2.2.2.2.2.2.2.2.2.2.2.2.2.1, d.2.2.2.2.2.2.2.2.2.2.2.2.2.2.2.2.2.2.2.1, d.2.2.2.2.2.2.2.2.2.2.2.2.2.2.2.2.2.2.2.2.1, (0 : Int), ())
/-- crossbarref27.Write -/
noncomputable def N_crossbarref27_Write (n : Nat) (d : T_api_Frame × T_api_Structure × Unit) : Option ((List (Int)) × Unit) :=
  (P_crossbarref27_one (d.1.1, ())).bind fun (r1 : Int × Unit) =>
  (P_crossbarref27_one (d.1.2.1, ())).bind fun (r2 : Int × Unit) =>
  (P_crossbarref27_add ((([] : List (Int)), (0 : Int), ()), (IntKind.i64.wrap ((IntKind.i64.wrap ((2 : Int) * r1.1)) + r2.1)), (2 : Int), ())).bind fun (r3 : T_api_Ink × Unit) =>
  (P_crossbarref27_add (r3.1, (IntKind.i64.wrap ((IntKind.i64.wrap ((65536 : Int) * d.1.2.2.1)) + d.1.2.2.2.1)), (22 : Int), ())).bind fun (r4 : T_api_Ink × Unit) =>
  (P_crossbarref27_one (d.1.2.2.2.2.1, ())).bind fun (r5 : Int × Unit) =>
  (P_crossbarref27_one (d.1.2.2.2.2.2.2.1, ())).bind fun (r6 : Int × Unit) =>
  (P_crossbarref27_one (d.1.2.2.2.2.2.2.2.2.1, ())).bind fun (r7 : Int × Unit) =>
  (P_crossbarref27_one (d.1.2.2.2.2.2.2.2.2.2.2.1, ())).bind fun (r8 : Int × Unit) =>
  (P_crossbarref27_one (d.1.2.2.2.2.2.2.2.2.2.2.2.2.1, ())).bind fun (r9 : Int × Unit) =>
  if ((IntKind.i64.wrap ((IntKind.i64.wrap ((IntKind.i64.wrap ((IntKind.i64.wrap ((IntKind.i64.wrap ((16 : Int) * r5.1)) + (IntKind.i64.wrap ((8 : Int) * r6.1)))) + (IntKind.i64.wrap ((4 : Int) * r7.1)))) + (IntKind.i64.wrap ((2 : Int) * r8.1)))) + r9.1)) == (0 : Int)) then
  some (r4.1.1, ())
  else
  (P_crossbarref27_add (r4.1, (IntKind.i64.wrap ((IntKind.i64.wrap ((IntKind.i64.wrap ((IntKind.i64.wrap ((IntKind.i64.wrap ((16 : Int) * r5.1)) + (IntKind.i64.wrap ((8 : Int) * r6.1)))) + (IntKind.i64.wrap ((4 : Int) * r7.1)))) + (IntKind.i64.wrap ((2 : Int) * r8.1)))) + r9.1)), (5 : Int), ())).bind fun (r10 : T_api_Ink × Unit) =>
  (if d.1.2.2.2.2.1 then
  (P_crossbarref26_Put (r10.1, d.1.2.2.2.2.2.1, ())).bind fun (r12 : T_api_Ink × Unit) =>
  some (d.1.1, d.1.2.1, d.1.2.2.1, d.1.2.2.2.1, d.1.2.2.2.2.1, d.1.2.2.2.2.2.1.1, d.1.2.2.2.2.2.1.2.1, d.1.2.2.2.2.2.1.2.2.1, d.1.2.2.2.2.2.1.2.2.2.1, d.1.2.2.2.2.2.1.2.2.2.2.1, d.1.2.2.2.2.2.1.2.2.2.2.2.1, d.1.2.2.2.2.2.2.1, d.1.2.2.2.2.2.2.2.1, d.1.2.2.2.2.2.2.2.2.1, d.1.2.2.2.2.2.2.2.2.2.1, d.1.2.2.2.2.2.2.2.2.2.2.1, d.1.2.2.2.2.2.2.2.2.2.2.2.1, d.1.2.2.2.2.2.2.2.2.2.2.2.2.1, d.1.2.2.2.2.2.2.2.2.2.2.2.2.2.1, d.2.1.1, d.2.1.2.1, d.2.1.2.2.1, d.2.1.2.2.2.1, d.2.1.2.2.2.2.1, d.2.1.2.2.2.2.2.1, r12.1.1, r12.1.2.1, ())
  else
  some (d.1.1, d.1.2.1, d.1.2.2.1, d.1.2.2.2.1, d.1.2.2.2.2.1, d.1.2.2.2.2.2.1.1, d.1.2.2.2.2.2.1.2.1, d.1.2.2.2.2.2.1.2.2.1, d.1.2.2.2.2.2.1.2.2.2.1, d.1.2.2.2.2.2.1.2.2.2.2.1, d.1.2.2.2.2.2.1.2.2.2.2.2.1, d.1.2.2.2.2.2.2.1, d.1.2.2.2.2.2.2.2.1, d.1.2.2.2.2.2.2.2.2.1, d.1.2.2.2.2.2.2.2.2.2.1, d.1.2.2.2.2.2.2.2.2.2.2.1, d.1.2.2.2.2.2.2.2.2.2.2.2.1, d.1.2.2.2.2.2.2.2.2.2.2.2.2.1, d.1.2.2.2.2.2.2.2.2.2.2.2.2.2.1, d.2.1.1, d.2.1.2.1, d.2.1.2.2.1, d.2.1.2.2.2.1, d.2.1.2.2.2.2.1, d.2.1.2.2.2.2.2.1, r10.1.1, r10.1.2.1, ()) : Option (Bool × Bool × Int × Int × Bool × Int × Int × Int × (List (Int)) × (List (T_api_Template)) × (List (T_api_Size)) × Bool × Int × Bool × (List (Int)) × Bool × (List (Int)) × Bool × (List (Int)) × Int × Int × Int × (List (Int)) × (List (T_api_Template)) × (List (T_api_Size)) × (List (Int)) × Int × Unit)).bind (fun (d11 : Bool × Bool × Int × Int × Bool × Int × Int × Int × (List (Int)) × (List (T_api_Template)) × (List (T_api_Size)) × Bool × Int × Bool × (List (Int)) × Bool × (List (Int)) × Bool × (List (Int)) × Int × Int × Int × (List (Int)) × (List (T_api_Template)) × (List (T_api_Size)) × (List (Int)) × Int × Unit) =>
  (if d11.2.2.2.2.2.2.2.2.2.2.2.1 then
  (P_crossbarref27_Of ((d11.1, d11.2.1, d11.2.2.1, d11.2.2.2.1, d11.2.2.2.2.1, (d11.2.2.2.2.2.1, d11.2.2.2.2.2.2.1, d11.2.2.2.2.2.2.2.1, d11.2.2.2.2.2.2.2.2.1, d11.2.2.2.2.2.2.2.2.2.1, d11.2.2.2.2.2.2.2.2.2.2.1, ()), d11.2.2.2.2.2.2.2.2.2.2.2.1, d11.2.2.2.2.2.2.2.2.2.2.2.2.1, d11.2.2.2.2.2.2.2.2.2.2.2.2.2.1, d11.2.2.2.2.2.2.2.2.2.2.2.2.2.2.1, d11.2.2.2.2.2.2.2.2.2.2.2.2.2.2.2.1, d11.2.2.2.2.2.2.2.2.2.2.2.2.2.2.2.2.1, d11.2.2.2.2.2.2.2.2.2.2.2.2.2.2.2.2.2.1, d11.2.2.2.2.2.2.2.2.2.2.2.2.2.2.2.2.2.2.1, ()), (d11.2.2.2.2.2.2.2.2.2.2.2.2.2.2.2.2.2.2.2.1, d11.2.2.2.2.2.2.2.2.2.2.2.2.2.2.2.2.2.2.2.2.1, d11.2.2.2.2.2.2.2.2.2.2.2.2.2.2.2.2.2.2.2.2.2.1, d11.2.2.2.2.2.2.2.2.2.2.2.2.2.2.2.2.2.2.2.2.2.2.1, d11.2.2.2.2.2.2.2.2.2.2.2.2.2.2.2.2.2.2.2.2.2.2.2.1, d11.2.2.2.2.2.2.2.2.2.2.2.2.2.2.2.2.2.2.2.2.2.2.2.2.1, ()), ())).bind fun (r14 : T_api_Structure × Unit) =>
  (P_crossbarref27_add ((d11.2.2.2.2.2.2.2.2.2.2.2.2.2.2.2.2.2.2.2.2.2.2.2.2.2.1, d11.2.2.2.2.2.2.2.2.2.2.2.2.2.2.2.2.2.2.2.2.2.2.2.2.2.2.1, ()), (IntKind.i64.wrap d11.2.2.2.2.2.2.2.2.2.2.2.2.1), r14.1.2.1, ())).bind fun (r15 : T_api_Ink × Unit) =>
  some (d11.1, d11.2.1, d11.2.2.1, d11.2.2.2.1, d11.2.2.2.2.1, d11.2.2.2.2.2.1, d11.2.2.2.2.2.2.1, d11.2.2.2.2.2.2.2.1, d11.2.2.2.2.2.2.2.2.1, d11.2.2.2.2.2.2.2.2.2.1, d11.2.2.2.2.2.2.2.2.2.2.1, d11.2.2.2.2.2.2.2.2.2.2.2.1, d11.2.2.2.2.2.2.2.2.2.2.2.2.1, d11.2.2.2.2.2.2.2.2.2.2.2.2.2.1, d11.2.2.2.2.2.2.2.2.2.2.2.2.2.2.1, d11.2.2.2.2.2.2.2.2.2.2.2.2.2.2.2.1, d11.2.2.2.2.2.2.2.2.2.2.2.2.2.2.2.2.1, d11.2.2.2.2.2.2.2.2.2.2.2.2.2.2.2.2.2.1, d11.2.2.2.2.2.2.2.2.2.2.2.2.2.2.2.2.2.2.1, r15.1.1, r15.1.2.1, ())
  else
  some (d11.1, d11.2.1, d11.2.2.1, d11.2.2.2.1, d11.2.2.2.2.1, d11.2.2.2.2.2.1, d11.2.2.2.2.2.2.1, d11.2.2.2.2.2.2.2.1, d11.2.2.2.2.2.2.2.2.1, d11.2.2.2.2.2.2.2.2.2.1, d11.2.2.2.2.2.2.2.2.2.2.1, d11.2.2.2.2.2.2.2.2.2.2.2.1, d11.2.2.2.2.2.2.2.2.2.2.2.2.1, d11.2.2.2.2.2.2.2.2.2.2.2.2.2.1, d11.2.2.2.2.2.2.2.2.2.2.2.2.2.2.1, d11.2.2.2.2.2.2.2.2.2.2.2.2.2.2.2.1, d11.2.2.2.2.2.2.2.2.2.2.2.2.2.2.2.2.1, d11.2.2.2.2.2.2.2.2.2.2.2.2.2.2.2.2.2.1, d11.2.2.2.2.2.2.2.2.2.2.2.2.2.2.2.2.2.2.1, d11.2.2.2.2.2.2.2.2.2.2.2.2.2.2.2.2.2.2.2.2.2.2.2.2.2.1, d11.2.2.2.2.2.2.2.2.2.2.2.2.2.2.2.2.2.2.2.2.2.2.2.2.2.2.1, ()) : Option (Bool × Bool × Int × Int × Bool × Int × Int × Int × (List (Int)) × (List (T_api_Template)) × (List (T_api_Size)) × Bool × Int × Bool × (List (Int)) × Bool × (List (Int)) × Bool × (List (Int)) × (List (Int)) × Int × Unit)).bind (fun (d13 : Bool × Bool × Int × Int × Bool × Int × Int × Int × (List (Int)) × (List (T_api_Template)) × (List (T_api_Size)) × Bool × Int × Bool × (List (Int)) × Bool × (List (Int)) × Bool × (List (Int)) × (List (Int)) × Int × Unit) =>
  iter (L_crossbarref27_Write_11 n) n (d13.1, d13.2.1, d13.2.2.1, d13.2.2.2.1, d13.2.2.2.2.1, d13.2.2.2.2.2.1, d13.2.2.2.2.2.2.1, d13.2.2.2.2.2.2.2.1, d13.2.2.2.2.2.2.2.2.1, d13.2.2.2.2.2.2.2.2.2.1, d13.2.2.2.2.2.2.2.2.2.2.1, d13.2.2.2.2.2.2.2.2.2.2.2.1, d13.2.2.2.2.2.2.2.2.2.2.2.2.1, d13.2.2.2.2.2.2.2.2.2.2.2.2.2.1, d13.2.2.2.2.2.2.2.2.2.2.2.2.2.2.1, d13.2.2.2.2.2.2.2.2.2.2.2.2.2.2.2.1, d13.2.2.2.2.2.2.2.2.2.2.2.2.2.2.2.2.1, d13.2.2.2.2.2.2.2.2.2.2.2.2.2.2.2.2.2.1, d13.2.2.2.2.2.2.2.2.2.2.2.2.2.2.2.2.2.2.1, d13.2.2.2.2.2.2.2.2.2.2.2.2.2.2.2.2.2.2.2.1, d13.2.2.2.2.2.2.2.2.2.2.2.2.2.2.2.2.2.2.2.2.1, (0 : Int), ())))
theorem e_crossbarref27_Write (n d) : fnK tab G_crossbarref27_Write an_crossbarref27_Write n Try.f13 (bodyOf Try.f13) in_crossbarref27_Write out_crossbarref27_Write d = N_crossbarref27_Write n d := by kernel_rfl
theorem E_crossbarref27_Write (d) : P_crossbarref27_Write d = N_crossbarref27_Write 1000000 d := e_crossbarref27_Write _ d
/-- crossbarref27.Template -/
noncomputable def N_crossbarref27_Template (n : Nat) (d : T_api_Template × T_api_Template × Unit) : Option (Bool × Unit) :=
  (if (if (d.1.1 == d.2.1.1) then (d.1.2.1 == d.2.1.2.1) else false) then (P_crossbarref24_Ints (d.1.2.2.1, d.2.1.2.2.1, ())) else some (false, ()) : Option (Bool × Unit)).bind fun (r1 : Bool × Unit) =>
  (if (if (if (d.1.1 == d.2.1.1) then (d.1.2.1 == d.2.1.2.1) else false) then r1.1 else false) then (P_crossbarref24_Ints (d.1.2.2.2.1, d.2.1.2.2.2.1, ())) else some (false, ()) : Option (Bool × Unit)).bind fun (r2 : Bool × Unit) =>
  (if (if (if (if (d.1.1 == d.2.1.1) then (d.1.2.1 == d.2.1.2.1) else false) then r1.1 else false) then r2.1 else false) then (P_crossbarref24_Ints (d.1.2.2.2.2.1, d.2.1.2.2.2.2.1, ())) else some (false, ()) : Option (Bool × Unit)).bind fun (r3 : Bool × Unit) =>
  some ((if (if (if (if (d.1.1 == d.2.1.1) then (d.1.2.1 == d.2.1.2.1) else false) then r1.1 else false) then r2.1 else false) then r3.1 else false), ())
theorem e_crossbarref27_Template (n d) : fnK tab G_crossbarref27_Template an_crossbarref27_Template n Try.f14 (bodyOf Try.f14) in_crossbarref27_Template out_crossbarref27_Template d = N_crossbarref27_Template n d := by kernel_rfl
theorem E_crossbarref27_Template (d) : P_crossbarref27_Template d = N_crossbarref27_Template 1000000 d := e_crossbarref27_Template _ d
/-- crossbarref27.Whole -/
noncomputable def N_crossbarref27_Whole (n : Nat) (d : T_api_Frame × T_api_Structure × Unit) : Option (T_api_Template × Unit) :=
  (P_crossbarref27_Of d).bind fun (r1 : T_api_Structure × Unit) =>
  (P_crossbarref27_Place (d.1.2.2.1, r1.1, ())).bind fun (r2 : Int × Unit) =>
  if decide (0 ≤ r2.1 ∧ r2.1 < (r1.1.2.2.2.2.1.length : Int)) then
  (if d.1.2.2.2.2.2.2.2.2.1 then
  some (d.1.1, d.1.2.1, d.1.2.2.1, d.1.2.2.2.1, d.1.2.2.2.2.1, d.1.2.2.2.2.2.1.1, d.1.2.2.2.2.2.1.2.1, d.1.2.2.2.2.2.1.2.2.1, d.1.2.2.2.2.2.1.2.2.2.1, d.1.2.2.2.2.2.1.2.2.2.2.1, d.1.2.2.2.2.2.1.2.2.2.2.2.1, d.1.2.2.2.2.2.2.1, d.1.2.2.2.2.2.2.2.1, d.1.2.2.2.2.2.2.2.2.1, d.1.2.2.2.2.2.2.2.2.2.1, d.1.2.2.2.2.2.2.2.2.2.2.1, d.1.2.2.2.2.2.2.2.2.2.2.2.1, d.1.2.2.2.2.2.2.2.2.2.2.2.2.1, d.1.2.2.2.2.2.2.2.2.2.2.2.2.2.1, (0 : Int), (0 : Int), ([] : List (Int)), ([] : List (Int)), ([] : List (Int)), (r1.1.2.2.2.2.1.getD r2.1.toNat ((0 : Int), (0 : Int), [], [], [], ())).1, (r1.1.2.2.2.2.1.getD r2.1.toNat ((0 : Int), (0 : Int), [], [], [], ())).2.1, d.1.2.2.2.2.2.2.2.2.2.1, (r1.1.2.2.2.2.1.getD r2.1.toNat ((0 : Int), (0 : Int), [], [], [], ())).2.2.2.1, (r1.1.2.2.2.2.1.getD r2.1.toNat ((0 : Int), (0 : Int), [], [], [], ())).2.2.2.2.1, ())
  else
  some (d.1.1, d.1.2.1, d.1.2.2.1, d.1.2.2.2.1, d.1.2.2.2.2.1, d.1.2.2.2.2.2.1.1, d.1.2.2.2.2.2.1.2.1, d.1.2.2.2.2.2.1.2.2.1, d.1.2.2.2.2.2.1.2.2.2.1, d.1.2.2.2.2.2.1.2.2.2.2.1, d.1.2.2.2.2.2.1.2.2.2.2.2.1, d.1.2.2.2.2.2.2.1, d.1.2.2.2.2.2.2.2.1, d.1.2.2.2.2.2.2.2.2.1, d.1.2.2.2.2.2.2.2.2.2.1, d.1.2.2.2.2.2.2.2.2.2.2.1, d.1.2.2.2.2.2.2.2.2.2.2.2.1, d.1.2.2.2.2.2.2.2.2.2.2.2.2.1, d.1.2.2.2.2.2.2.2.2.2.2.2.2.2.1, (0 : Int), (0 : Int), ([] : List (Int)), ([] : List (Int)), ([] : List (Int)), (r1.1.2.2.2.2.1.getD r2.1.toNat ((0 : Int), (0 : Int), [], [], [], ())).1, (r1.1.2.2.2.2.1.getD r2.1.toNat ((0 : Int), (0 : Int), [], [], [], ())).2.1, (r1.1.2.2.2.2.1.getD r2.1.toNat ((0 : Int), (0 : Int), [], [], [], ())).2.2.1, (r1.1.2.2.2.2.1.getD r2.1.toNat ((0 : Int), (0 : Int), [], [], [], ())).2.2.2.1, (r1.1.2.2.2.2.1.getD r2.1.toNat ((0 : Int), (0 : Int), [], [], [], ())).2.2.2.2.1, ()) : Option (Bool × Bool × Int × Int × Bool × Int × Int × Int × (List (Int)) × (List (T_api_Template)) × (List (T_api_Size)) × Bool × Int × Bool × (List (Int)) × Bool × (List (Int)) × Bool × (List (Int)) × Int × Int × (List (Int)) × (List (Int)) × (List (Int)) × Int × Int × (List (Int)) × (List (Int)) × (List (Int)) × Unit)).bind (fun (d3 : Bool × Bool × Int × Int × Bool × Int × Int × Int × (List (Int)) × (List (T_api_Template)) × (List (T_api_Size)) × Bool × Int × Bool × (List (Int)) × Bool × (List (Int)) × Bool × (List (Int)) × Int × Int × (List (Int)) × (List (Int)) × (List (Int)) × Int × Int × (List (Int)) × (List (Int)) × (List (Int)) × Unit) =>
  (if d3.2.2.2.2.2.2.2.2.2.2.2.2.2.2.2.1 then
  some (d3.1, d3.2.1, d3.2.2.1, d3.2.2.2.1, d3.2.2.2.2.1, d3.2.2.2.2.2.1, d3.2.2.2.2.2.2.1, d3.2.2.2.2.2.2.2.1, d3.2.2.2.2.2.2.2.2.1, d3.2.2.2.2.2.2.2.2.2.1, d3.2.2.2.2.2.2.2.2.2.2.1, d3.2.2.2.2.2.2.2.2.2.2.2.1, d3.2.2.2.2.2.2.2.2.2.2.2.2.1, d3.2.2.2.2.2.2.2.2.2.2.2.2.2.1, d3.2.2.2.2.2.2.2.2.2.2.2.2.2.2.1, d3.2.2.2.2.2.2.2.2.2.2.2.2.2.2.2.1, d3.2.2.2.2.2.2.2.2.2.2.2.2.2.2.2.2.1, d3.2.2.2.2.2.2.2.2.2.2.2.2.2.2.2.2.2.1, d3.2.2.2.2.2.2.2.2.2.2.2.2.2.2.2.2.2.2.1, d3.2.2.2.2.2.2.2.2.2.2.2.2.2.2.2.2.2.2.2.1, d3.2.2.2.2.2.2.2.2.2.2.2.2.2.2.2.2.2.2.2.2.1, d3.2.2.2.2.2.2.2.2.2.2.2.2.2.2.2.2.2.2.2.2.2.1, d3.2.2.2.2.2.2.2.2.2.2.2.2.2.2.2.2.2.2.2.2.2.2.1, d3.2.2.2.2.2.2.2.2.2.2.2.2.2.2.2.2.2.2.2.2.2.2.2.1, d3.2.2.2.2.2.2.2.2.2.2.2.2.2.2.2.2.2.2.2.2.2.2.2.2.1, d3.2.2.2.2.2.2.2.2.2.2.2.2.2.2.2.2.2.2.2.2.2.2.2.2.2.1, d3.2.2.2.2.2.2.2.2.2.2.2.2.2.2.2.2.2.2.2.2.2.2.2.2.2.2.1, d3.2.2.2.2.2.2.2.2.2.2.2.2.2.2.2.2.1, d3.2.2.2.2.2.2.2.2.2.2.2.2.2.2.2.2.2.2.2.2.2.2.2.2.2.2.2.2.1, ())
  else
  some d3 : Option (Bool × Bool × Int × Int × Bool × Int × Int × Int × (List (Int)) × (List (T_api_Template)) × (List (T_api_Size)) × Bool × Int × Bool × (List (Int)) × Bool × (List (Int)) × Bool × (List (Int)) × Int × Int × (List (Int)) × (List (Int)) × (List (Int)) × Int × Int × (List (Int)) × (List (Int)) × (List (Int)) × Unit)).bind (fun (d4 : Bool × Bool × Int × Int × Bool × Int × Int × Int × (List (Int)) × (List (T_api_Template)) × (List (T_api_Size)) × Bool × Int × Bool × (List (Int)) × Bool × (List (Int)) × Bool × (List (Int)) × Int × Int × (List (Int)) × (List (Int)) × (List (Int)) × Int × Int × (List (Int)) × (List (Int)) × (List (Int)) × Unit) =>
  (if d4.2.2.2.2.2.2.2.2.2.2.2.2.2.2.2.2.2.1 then
  some (d4.2.2.2.2.2.2.2.2.2.2.2.2.2.2.2.2.2.2.2.1, d4.2.2.2.2.2.2.2.2.2.2.2.2.2.2.2.2.2.2.2.2.1, d4.2.2.2.2.2.2.2.2.2.2.2.2.2.2.2.2.2.2.2.2.2.1, d4.2.2.2.2.2.2.2.2.2.2.2.2.2.2.2.2.2.2.2.2.2.2.1, d4.2.2.2.2.2.2.2.2.2.2.2.2.2.2.2.2.2.2.2.2.2.2.2.1, d4.2.2.2.2.2.2.2.2.2.2.2.2.2.2.2.2.2.2.2.2.2.2.2.2.1, d4.2.2.2.2.2.2.2.2.2.2.2.2.2.2.2.2.2.2.2.2.2.2.2.2.2.1, d4.2.2.2.2.2.2.2.2.2.2.2.2.2.2.2.2.2.2.2.2.2.2.2.2.2.2.1, d4.2.2.2.2.2.2.2.2.2.2.2.2.2.2.2.2.2.2.2.2.2.2.2.2.2.2.2.1, d4.2.2.2.2.2.2.2.2.2.2.2.2.2.2.2.2.2.2.1, ())
  else
  some (d4.2.2.2.2.2.2.2.2.2.2.2.2.2.2.2.2.2.2.2.1, d4.2.2.2.2.2.2.2.2.2.2.2.2.2.2.2.2.2.2.2.2.1, d4.2.2.2.2.2.2.2.2.2.2.2.2.2.2.2.2.2.2.2.2.2.1, d4.2.2.2.2.2.2.2.2.2.2.2.2.2.2.2.2.2.2.2.2.2.2.1, d4.2.2.2.2.2.2.2.2.2.2.2.2.2.2.2.2.2.2.2.2.2.2.2.1, d4.2.2.2.2.2.2.2.2.2.2.2.2.2.2.2.2.2.2.2.2.2.2.2.2.1, d4.2.2.2.2.2.2.2.2.2.2.2.2.2.2.2.2.2.2.2.2.2.2.2.2.2.1, d4.2.2.2.2.2.2.2.2.2.2.2.2.2.2.2.2.2.2.2.2.2.2.2.2.2.2.1, d4.2.2.2.2.2.2.2.2.2.2.2.2.2.2.2.2.2.2.2.2.2.2.2.2.2.2.2.1, d4.2.2.2.2.2.2.2.2.2.2.2.2.2.2.2.2.2.2.2.2.2.2.2.2.2.2.2.2.1, ()) : Option (Int × Int × (List (Int)) × (List (Int)) × (List (Int)) × Int × Int × (List (Int)) × (List (Int)) × (List (Int)) × Unit)).bind (fun (d5 : Int × Int × (List (Int)) × (List (Int)) × (List (Int)) × Int × Int × (List (Int)) × (List (Int)) × (List (Int)) × Unit) =>
  some ((d5.2.2.2.2.2.1, d5.2.2.2.2.2.2.1, d5.2.2.2.2.2.2.2.1, d5.2.2.2.2.2.2.2.2.1, d5.2.2.2.2.2.2.2.2.2.1, ()), ())))) else none
theorem e_crossbarref27_Whole (n d) : fnK tab G_crossbarref27_Whole an_crossbarref27_Whole n Try.f15 (bodyOf Try.f15) in_crossbarref27_Whole out_crossbarref27_Whole d = N_crossbarref27_Whole n d := by kernel_rfl
theorem E_crossbarref27_Whole (d) : P_crossbarref27_Whole d = N_crossbarref27_Whole 1000000 d := e_crossbarref27_Whole _ d
/-- crossbarref02.Right -/
noncomputable def N_crossbarref02_Right (n : Nat) (d : T_api_Bits × Unit) : Option (Bool × Unit) :=
  if (!(if (d.1.2.2.1 == (0 : Int)) then (decide (d.1.2.1 ≥ (0 : Int))) else false) || decide ((8 : Int) ≠ 0)) then
  some ((if (if (if (d.1.2.2.1 == (0 : Int)) then (decide (d.1.2.1 ≥ (0 : Int))) else false) then (decide ((IntKind.i64.wrap (d.1.2.1.tdiv (8 : Int))) ≤ (d.1.1.length : Int))) else false) then (decide (d.1.2.1 ≤ (IntKind.i64.wrap ((8 : Int) * (d.1.1.length : Int))))) else false), ()) else none
theorem e_crossbarref02_Right (n d) : fnK tab G_crossbarref02_Right an_crossbarref02_Right n Try.f96 (bodyOf Try.f96) in_crossbarref02_Right out_crossbarref02_Right d = N_crossbarref02_Right n d := by kernel_rfl
theorem E_crossbarref02_Right (d) : P_crossbarref02_Right d = N_crossbarref02_Right 1000000 d := e_crossbarref02_Right _ d
/-- crossbarref02.stays -/
noncomputable def N_crossbarref02_stays (n : Nat) (d : T_api_Bits × Int × Unit) : Option (T_api_Bits × Int × Unit) :=
  (if (d.1.2.2.1 == (0 : Int)) then
  some (d.1.1, d.1.2.1, d.2.1, ([] : List (Int)), (0 : Int), (0 : Int), ())
  else
  some (d.1.1, d.1.2.1, d.1.2.2.1, ([] : List (Int)), (0 : Int), (0 : Int), ()) : Option ((List (Int)) × Int × Int × (List (Int)) × Int × Int × Unit)).bind (fun (d1 : (List (Int)) × Int × Int × (List (Int)) × Int × Int × Unit) =>
  some ((d1.1, d1.2.1, d1.2.2.1, ()), (0 : Int), ()))
theorem e_crossbarref02_stays (n d) : fnK tab G_crossbarref02_stays an_crossbarref02_stays n Try.f97 (bodyOf Try.f97) in_crossbarref02_stays out_crossbarref02_stays d = N_crossbarref02_stays n d := by kernel_rfl
theorem E_crossbarref02_stays (d) : P_crossbarref02_stays d = N_crossbarref02_stays 1000000 d := e_crossbarref02_stays _ d
abbrev D_crossbarref02_Get_7 : Type := (List (Int)) × Int × Int × (List (Int)) × Int × Int × Int × Int × Int × Unit
noncomputable def L_crossbarref02_Get_7 (n : Nat) (J0 : D_crossbarref02_Get_7 → Option (T_api_Bits × Int × Unit)) (d : D_crossbarref02_Get_7) : Option (T_api_Bits × Int × Unit) :=
  if (decide (d.2.2.2.2.2.2.2.2.1 < d.2.2.2.2.2.2.1)) then
  (P_crossbarref02_bit (d.1, (IntKind.i64.wrap (d.2.1 + d.2.2.2.2.2.2.2.2.1)), ())).bind fun (r4 : Int × Unit) =>
  J0 (d.1, d.2.1, d.2.2.1, d.2.2.2.1, d.2.2.2.2.1, d.2.2.2.2.2.1, d.2.2.2.2.2.2.1, (IntKind.u64.wrap ((IntKind.u64.wrap ((2 : Int) * d.2.2.2.2.2.2.2.1)) + r4.1)), (IntKind.i64.wrap (d.2.2.2.2.2.2.2.2.1 + (1 : Int))), ())
  else
  some ((d.1, (IntKind.i64.wrap (d.2.1 + d.2.2.2.2.2.2.1)), d.2.2.1, ()), d.2.2.2.2.2.2.2.1, ())
/-- crossbarref02.Get -/
noncomputable def N_crossbarref02_Get (n : Nat) (d : T_api_Bits × Int × Unit) : Option (T_api_Bits × Int × Unit) :=
  (P_crossbarref02_Right (d.1, ())).bind fun (r1 : Bool × Unit) =>
  if (if (if (!r1.1) then true else (decide (d.2.1 < (0 : Int)))) then true else (decide (d.2.1 > (64 : Int)))) then
  (P_crossbarref02_stays (d.1, (1 : Int), ())).bind fun (r2 : T_api_Bits × Int × Unit) =>
  some (r2.1, r2.2.1, ())
  else
  if (decide (d.2.1 > (IntKind.i64.wrap ((IntKind.i64.wrap ((8 : Int) * (d.1.1.length : Int))) - d.1.2.1)))) then
  (P_crossbarref02_stays (d.1, (2 : Int), ())).bind fun (r3 : T_api_Bits × Int × Unit) =>
  some (r3.1, r3.2.1, ())
  else
  iter (L_crossbarref02_Get_7 n) n (d.1.1, d.1.2.1, d.1.2.2.1, ([] : List (Int)), (0 : Int), (0 : Int), d.2.1, (0 : Int), (0 : Int), ())
theorem e_crossbarref02_Get (n d) : fnK tab G_crossbarref02_Get an_crossbarref02_Get n Try.f78 (bodyOf Try.f78) in_crossbarref02_Get out_crossbarref02_Get d = N_crossbarref02_Get n d := by kernel_rfl
theorem E_crossbarref02_Get (d) : P_crossbarref02_Get d = N_crossbarref02_Get 1000000 d := e_crossbarref02_Get _ d
/-- crossbarref02.Range -/
noncomputable def N_crossbarref02_Range (n : Nat) (d : T_api_Bits × Int × Unit) : Option (T_api_Bits × Int × Unit) :=
  (P_crossbarref02_Right (d.1, ())).bind fun (r1 : Bool × Unit) =>
  if (if (if (!r1.1) then true else (decide (d.2.1 < (1 : Int)))) then true else (decide (d.2.1 > (4294967296 : Int)))) then
  (P_crossbarref02_stays (d.1, (1 : Int), ())).bind fun (r2 : T_api_Bits × Int × Unit) =>
  some (r2.1, r2.2.1, ())
  else
  (P_crossbarref02_Spread (d.2.1, ())).bind fun (r3 : Int × Int × Unit) =>
  (P_crossbarref02_Get (d.1, (IntKind.i64.wrap (r3.1 - (1 : Int))), ())).bind fun (r4 : T_api_Bits × Int × Unit) =>
  if (r4.1.2.2.1 != (0 : Int)) then
  (P_crossbarref02_stays (d.1, r4.1.2.2.1, ())).bind fun (r5 : T_api_Bits × Int × Unit) =>
  some (r5.1, r5.2.1, ())
  else
  if (decide (r4.2.1 < r3.2.1)) then
  some (r4.1, r4.2.1, ())
  else
  (P_crossbarref02_Get (d.1, r3.1, ())).bind fun (r6 : T_api_Bits × Int × Unit) =>
  if (r6.1.2.2.1 != (0 : Int)) then
  (P_crossbarref02_stays (d.1, r6.1.2.2.1, ())).bind fun (r7 : T_api_Bits × Int × Unit) =>
  some (r7.1, r7.2.1, ())
  else
  some (r6.1, (IntKind.u64.wrap (r6.2.1 - r3.2.1)), ())
theorem e_crossbarref02_Range (n d) : fnK tab G_crossbarref02_Range an_crossbarref02_Range n Try.f103 (bodyOf Try.f103) in_crossbarref02_Range out_crossbarref02_Range d = N_crossbarref02_Range n d := by kernel_rfl
theorem E_crossbarref02_Range (d) : P_crossbarref02_Range d = N_crossbarref02_Range 1000000 d := e_crossbarref02_Range _ d
/-- crossbarlaw27.Av1Back -/
noncomputable def N_crossbarlaw27_Av1Back (n : Nat) (d : T_api_Frame × T_api_Frame × T_api_Structure × (List (Int)) × Int × Unit) : Option (Bool × Unit) :=
  (P_crossbarlaw27_awake (())).bind fun (r1 : Bool × Unit) =>
  if (!r1.1) then
  some (false, ())
  else
  (P_crossbarref27_Short (d.1, ())).bind fun (r2 : Bool × Unit) =>
  (if (!(!r2.1)) then (P_crossbarref27_Short (d.2.1, ())) else some (false, ()) : Option (Bool × Unit)).bind fun (r3 : Bool × Unit) =>
  (if (!(if (!r2.1) then true else (!r3.1))) then (P_crossbarref26_Short (d.2.2.1, ())) else some (false, ()) : Option (Bool × Unit)).bind fun (r4 : Bool × Unit) =>
  if (if (if (if (!r2.1) then true else (!r3.1)) then true else (!r4.1)) then true else (decide ((d.2.2.2.1.length : Int) > (3000 : Int)))) then
  some (true, ())
  else
  (P_av1_Write (d.1, d.2.2.1, ())).bind fun (r5 : T_api_Ink) =>
  (P_av1_Write (d.2.1, d.2.2.1, ())).bind fun (r6 : T_api_Ink) =>
  (if (r5.2.1 == (0 : Int)) then
  (P_av1_Read (r5.1, d.2.2.1, ())).bind fun (r8 : T_api_Frame × Int × Unit) =>
  (if (!(r8.2.1 != (0 : Int))) then (P_crossbarref27_Same (r8.1, d.1, ())) else some (false, ()) : Option (Bool × Unit)).bind fun (r9 : Bool × Unit) =>
  (if (!(if (r8.2.1 != (0 : Int)) then true else (!r9.1))) then (P_av1_Canon (r5.1, d.2.2.1, ())) else some (false, ()) : Option (Bool × Unit)).bind fun (r10 : Bool × Unit) =>
  (if ((!(if (if (if (r8.2.1 != (0 : Int)) then true else (!r9.1)) then true else (!r10.1)) then true else (decide ((r5.1.length : Int) < (3 : Int))))) && (r6.2.1 == (0 : Int))) then (P_crossbarref27_Same (d.1, d.2.1, ())) else some (false, ()) : Option (Bool × Unit)).bind fun (r11 : Bool × Unit) =>
  if (if (if (if (if (r8.2.1 != (0 : Int)) then true else (!r9.1)) then true else (!r10.1)) then true else (decide ((r5.1.length : Int) < (3 : Int)))) then true else (if (r6.2.1 == (0 : Int)) then (((u8s r5.1) == (u8s r6.1)) != r11.1) else false)) then
  Option.map Sum.inr (some (false, ()))
  else
  if decide ((([] : List (Int)).length + r5.1.length) * 1 ≤ 140737488355328) then
  if decide (((([] : List (Int)) ++ r5.1).length + ([d.2.2.2.2.1] : List (Int)).length) * 1 ≤ 140737488355328) then
  (P_av1_Read (((([] : List (Int)) ++ r5.1) ++ ([d.2.2.2.2.1] : List (Int))), d.2.2.1, ())).bind fun (r12 : T_api_Frame × Int × Unit) =>
  if (!(if (decide ((r5.1.length : Int) > (3 : Int))) then (r12.2.1 != (4 : Int)) else false)) then
  (if decide ((([] : List (Int)).length + r5.1.length) * 1 ≤ 140737488355328) then
  if decide (((([] : List (Int)) ++ r5.1).length + ([(0 : Int)] : List (Int)).length) * 1 ≤ 140737488355328) then
  (P_av1_Canon (((([] : List (Int)) ++ r5.1) ++ ([(0 : Int)] : List (Int))), d.2.2.1, ())).bind fun (r13 : Bool × Unit) =>
  if (if false then true else r13.1) then
  Option.map Sum.inr (some (false, ()))
  else
  some (.inl (d.2.2.1.1, d.2.2.1.2.1, d.2.2.1.2.2.1, d.2.2.1.2.2.2.1, d.2.2.1.2.2.2.2.1, d.2.2.1.2.2.2.2.2.1, d.2.2.2.1, ())) else none else none)
  else
  if true then
  Option.map Sum.inr (some (false, ()))
  else
  some (.inl (d.2.2.1.1, d.2.2.1.2.1, d.2.2.1.2.2.1, d.2.2.1.2.2.2.1, d.2.2.1.2.2.2.2.1, d.2.2.1.2.2.2.2.2.1, d.2.2.2.1, ())) else none else none
  else
  some (.inl (d.2.2.1.1, d.2.2.1.2.1, d.2.2.1.2.2.1, d.2.2.1.2.2.2.1, d.2.2.1.2.2.2.2.1, d.2.2.1.2.2.2.2.2.1, d.2.2.2.1, ())) : Option ((Int × Int × Int × (List (Int)) × (List (T_api_Template)) × (List (T_api_Size)) × (List (Int)) × Unit) ⊕ (Bool × Unit))).bind fun (q : (Int × Int × Int × (List (Int)) × (List (T_api_Template)) × (List (T_api_Size)) × (List (Int)) × Unit) ⊕ (Bool × Unit)) => Sum.elim (fun (d7 : Int × Int × Int × (List (Int)) × (List (T_api_Template)) × (List (T_api_Size)) × (List (Int)) × Unit) =>
  (P_av1_Read (d7.2.2.2.2.2.2.1, (d7.1, d7.2.1, d7.2.2.1, d7.2.2.2.1, d7.2.2.2.2.1, d7.2.2.2.2.2.1, ()), ())).bind fun (r14 : T_api_Frame × Int × Unit) =>
  if (r14.2.1 != (0 : Int)) then
  (P_crossbarref27_Same (r14.1, (false, false, (0 : Int), (0 : Int), false, ((0 : Int), (0 : Int), (0 : Int), ([] : List (Int)), ([] : List (T_api_Template)), ([] : List (T_api_Size)), ()), false, (0 : Int), false, ([] : List (Int)), false, ([] : List (Int)), false, ([] : List (Int)), ()), ())).bind fun (r15 : Bool × Unit) =>
  (if r15.1 then (P_av1_Canon (d7.2.2.2.2.2.2.1, (d7.1, d7.2.1, d7.2.2.1, d7.2.2.2.1, d7.2.2.2.2.1, d7.2.2.2.2.2.1, ()), ())) else some (false, ()) : Option (Bool × Unit)).bind fun (r16 : Bool × Unit) =>
  some ((if r15.1 then (!r16.1) else false), ())
  else
  (P_av1_Write (r14.1, (d7.1, d7.2.1, d7.2.2.1, d7.2.2.2.1, d7.2.2.2.2.1, d7.2.2.2.2.2.1, ()), ())).bind fun (r17 : T_api_Ink) =>
  (P_av1_Read (r17.1, (d7.1, d7.2.1, d7.2.2.1, d7.2.2.2.1, d7.2.2.2.2.1, d7.2.2.2.2.2.1, ()), ())).bind fun (r18 : T_api_Frame × Int × Unit) =>
  (if (if (r17.2.1 == (0 : Int)) then (r18.2.1 == (0 : Int)) else false) then (P_av1_Right (r14.1, (d7.1, d7.2.1, d7.2.2.1, d7.2.2.2.1, d7.2.2.2.2.1, d7.2.2.2.2.2.1, ()), ())) else some (false, ()) : Option (Bool × Unit)).bind fun (r19 : Bool × Unit) =>
  (if (if (if (r17.2.1 == (0 : Int)) then (r18.2.1 == (0 : Int)) else false) then r19.1 else false) then (P_crossbarref27_Same (r14.1, r18.1, ())) else some (false, ()) : Option (Bool × Unit)).bind fun (r20 : Bool × Unit) =>
  (if (if (if (if (r17.2.1 == (0 : Int)) then (r18.2.1 == (0 : Int)) else false) then r19.1 else false) then r20.1 else false) then (P_av1_Canon (d7.2.2.2.2.2.2.1, (d7.1, d7.2.1, d7.2.2.1, d7.2.2.2.1, d7.2.2.2.2.1, d7.2.2.2.2.2.1, ()), ())) else some (false, ()) : Option (Bool × Unit)).bind fun (r21 : Bool × Unit) =>
  some ((if (if (if (if (r17.2.1 == (0 : Int)) then (r18.2.1 == (0 : Int)) else false) then r19.1 else false) then r20.1 else false) then (r21.1 == ((u8s r17.1) == (u8s d7.2.2.2.2.2.2.1))) else false), ())) some q
theorem e_crossbarlaw27_Av1Back (n d) : fnK tab G_crossbarlaw27_Av1Back an_crossbarlaw27_Av1Back n Try.f4 (bodyOf Try.f4) in_crossbarlaw27_Av1Back out_crossbarlaw27_Av1Back d = N_crossbarlaw27_Av1Back n d := by kernel_rfl
theorem E_crossbarlaw27_Av1Back (d) : P_crossbarlaw27_Av1Back d = N_crossbarlaw27_Av1Back 1000000 d := e_crossbarlaw27_Av1Back _ d
end Go.Proofs.Try.Eng


