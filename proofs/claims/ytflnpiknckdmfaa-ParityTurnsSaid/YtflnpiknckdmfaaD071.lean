/- The types of this cut, and its functions as functions of plain typed data. Printed by a program of this claim's prover; each is checked here to be what the executor makes of the code. -/
import Derived.Test.YtflnpiknckdmfaaProg
import Derived.Test.YtflnpiknckdmfaaLim
import Derived.KernelRfl
set_option linter.unusedVariables false
set_option maxRecDepth 100000
namespace Go.Proofs.Ytflnpiknckdmfaa
open Go.SX
abbrev tsl07_Put : List Ty := [.int .u8, .int .u8, .int .u32]
abbrev tl07_Put : Ty := .st tsl07_Put
abbrev l07_Put : Type := Int × Int × Int
def l07_Put.mk (Bank : Int) (At : Int) (Word : Int) : l07_Put := (Bank, At, Word)
def l07_Put.Bank (x : l07_Put) : Int := x.1
def l07_Put.At (x : l07_Put) : Int := x.2.1
def l07_Put.Word (x : l07_Put) : Int := x.2.2
@[simp] theorem l07_Put.Bank_mk (Bank : Int) (At : Int) (Word : Int) : l07_Put.Bank (l07_Put.mk Bank At Word) = Bank := rfl
@[simp] theorem l07_Put.At_mk (Bank : Int) (At : Int) (Word : Int) : l07_Put.At (l07_Put.mk Bank At Word) = At := rfl
@[simp] theorem l07_Put.Word_mk (Bank : Int) (At : Int) (Word : Int) : l07_Put.Word (l07_Put.mk Bank At Word) = Word := rfl
@[simp] theorem l07_Put.eta (x : l07_Put) : l07_Put.mk (l07_Put.Bank x) (l07_Put.At x) (l07_Put.Word x) = x := rfl

abbrev tsEvent : List Ty := [.int .i64, .int .i64, .int .i64]
abbrev tEvent : Ty := .st tsEvent
abbrev Event : Type := Int × Int × Int

abbrev tsWant : List Ty := [.int .i64, .int .i64, .int .u32, .int .u32]
abbrev tWant : Ty := .st tsWant
abbrev Want : Type := Int × Int × Int × Int

abbrev tsDeed : List Ty := [.int .i64, .int .i64, .int .i64, .int .u32, .int .u32]
abbrev tDeed : Ty := .st tsDeed
abbrev Deed : Type := Int × Int × Int × Int × Int

abbrev tsIns : List Ty := [.int .i64, .int .i64, .int .i64, .int .i64, .int .u32]
abbrev tIns : Ty := .st tsIns
abbrev Ins : Type := Int × Int × Int × Int × Int

abbrev tsruntime_errorAddressString : List Ty := [.str, .int .u64]
abbrev truntime_errorAddressString : Ty := .st tsruntime_errorAddressString
abbrev runtime_errorAddressString : Type := (List Int) × Int

abbrev tsruntime_boundsError : List Ty := [.int .i64, .int .i64, .bool, .int .u8]
abbrev truntime_boundsError : Ty := .st tsruntime_boundsError
abbrev runtime_boundsError : Type := Int × Int × Bool × Int

abbrev tsCore : List Ty := [.arr 8 (.int .u32), .int .i64, .bool]
abbrev tCore : Ty := .st tsCore
abbrev Core : Type := (List Int) × Int × Bool

abbrev tsBanks : List Ty := [.sl (.sl (.int .u32)), .sl (.int .u32), .int .i64]
abbrev tBanks : Ty := .st tsBanks
abbrev Banks : Type := (List (List Int)) × (List Int) × Int
def Banks.mk (Rows : List (List Int)) (Par : List Int) (Lost : Int) : Banks := (Rows, Par, Lost)
def Banks.Rows (x : Banks) : List (List Int) := x.1
def Banks.Par (x : Banks) : List Int := x.2.1
def Banks.Lost (x : Banks) : Int := x.2.2
def Banks.setLost (x : Banks) (v : Int) : Banks := (x.1, x.2.1, v)
@[simp] theorem Banks.Rows_mk (Rows : List (List Int)) (Par : List Int) (Lost : Int) : Banks.Rows (Banks.mk Rows Par Lost) = Rows := rfl
@[simp] theorem Banks.Par_mk (Rows : List (List Int)) (Par : List Int) (Lost : Int) : Banks.Par (Banks.mk Rows Par Lost) = Par := rfl
@[simp] theorem Banks.Lost_mk (Rows : List (List Int)) (Par : List Int) (Lost : Int) : Banks.Lost (Banks.mk Rows Par Lost) = Lost := rfl
@[simp] theorem Banks.setLost_eq (x : Banks) (v : Int) : Banks.setLost x v = Banks.mk (Banks.Rows x) (Banks.Par x) v := rfl
@[simp] theorem Banks.eta (x : Banks) : Banks.mk (Banks.Rows x) (Banks.Par x) (Banks.Lost x) = x := rfl

def tys : List Ty := [.no, .no, .int .i64, .int .i64, .bool, .int .u8, .int .u8, truntime_boundsError, truntime_boundsError, .str, .str, .str, .int .u64, truntime_errorAddressString, truntime_errorAddressString, .no, .no, .no, .no, .no, .no, .int .i32, .sl tEvent, tEvent, tEvent, .no, .arr 9 (.int .i64), .no, .no, .no, .no, .no, .no, .no, .no, .sl (.sl (.int .u32)), .sl (.int .u32), tBanks, tBanks, .int .u32, .no, .int .i64, .no, .no, .no, .no, .no, .no, .no, .no, .no, .no, .no, .no, .no, .no, .no, .no, .sl tl07_Put, tl07_Put, tl07_Put, .no, .no, .sl tDeed, .sl .bool, .no, .no, .no, .no, .no, .no, .no, .sl (.int .i64), .no, .no, .no, .no, .no, tDeed, tDeed, .no, .no, .sl tIns, .arr 8 (.int .u32), tCore, tCore, .no, tWant, tWant, .no, .no, .no, .no, .no, .no, .no, .no, .no, .no, .no, .no, .no, .no, .no, .no, .no, .no, .no, .no, .no, .no, .no, .no, .no, .no, .no, .no, .no, tIns, tIns, .no, .no, .no, .no, .int .u64, .no, .no, .no, .no, .no, .no, .sl (.sl tDeed), .no, .no, .no, .int .u64, .no, .no, .no, .no, .no, .no, .no, .no, .no, .no, .no, .no, .no, .no, .no, .no, .no, .no, .no, .no, .int .u8, .int .u8, .no, .no, .int .i32, .int .i32, .no, .no, .no]
noncomputable def cx : Cx := { P := Try.prog, ty := tys, own := [], inl := [36, 70, 78, 79, 84, 86, 94, 98], keepL := [], absL := [6, 36, 70, 73, 78], lendL := [34], freshL := [73], heads := [(5, [(15, 1355131721593806722486859213726093156332651675676798, ⟨17, 0, mkSlots 171 0 [(1, .d (.int .i64) (.v 1)), (2, .d (.int .i64) (.v 2)), (3, .d (.int .u32) (.v 3)), (4, .d (.int .i64) (.v 4)), (5, .d (.int .i64) (.v 5)), (6, .p tBanks tBanks 0 []), (12, .d .bool (.c (.bool false))), (13, .p tBanks tBanks 1 []), (14, .d (.int .i64) (.v 15))], [.box tBanks (.d tBanks (.v 0)), .box tBanks (.ag tBanks [.h (.sl (.int .u32)) 2 none, .h (.int .u32) 3 none, .d (.int .i64) (.v 14)]), .row (.sl (.int .u32)) (.v 16), .row (.int .u32) (.v 11)]⟩)]),
  (6, [(17, 27601929779696220899612106435534432124524190426588185923812674376855308, ⟨19, 0, mkSlots 235 0 [(2, .d (.sl tl07_Put) (.v 2)), (3, .d (.int .u8) (.v 3)), (8, .d .bool (.c (.bool false))), (9, .d (.int .i64) (.v 8)), (10, .d (.int .i64) (.v 11)), (11, .p tBanks tBanks 0 []), (13, .h (.sl (.int .u32)) 1 none), (14, .d (.int .i64) (.v 17))], [.box tBanks (.ag tBanks [.h (.sl (.int .u32)) 2 none, .h (.int .u32) 3 none, .d (.int .i64) (.c (.int .i64 0))]), .mat (.int .u32) (.v 18) 0, .mat (.int .u32) (.v 13) 0, .row (.int .u32) (.v 14)]⟩),
    (18, 27601929779696220899612106435534432124524190426588185923812674376871692, ⟨23, 0, mkSlots 235 0 [(2, .d (.sl tl07_Put) (.v 2)), (3, .d (.int .u8) (.v 3)), (8, .d .bool (.c (.bool false))), (9, .d (.int .i64) (.v 8)), (10, .d (.int .i64) (.v 11)), (11, .p tBanks tBanks 0 []), (13, .h (.sl (.int .u32)) 1 none), (15, .d (.int .i64) (.v 18))], [.box tBanks (.ag tBanks [.d (.sl (.sl (.int .u32))) (.v 19), .d (.sl (.int .u32)) (.v 20), .d (.int .i64) (.v 21)]), .mat (.int .u32) (.v 22) 0]⟩),
    (36, 27601929779696220898260510006780351646961398904945819502271743677966080, ⟨37, 0, mkSlots 235 0 [(8, .d .bool (.c (.bool false))), (9, .d (.int .i64) (.v 8)), (10, .d (.int .i64) (.v 11)), (13, .h (.sl (.int .u32)) 0 none), (20, .d (.int .i64) (.v 23)), (21, .p tBanks tBanks 1 []), (27, .p tBanks tBanks 2 []), (29, .d (.int .i64) (.v 36))], [.mat (.int .u32) (.v 21) 0, .box tBanks (.d tBanks (.v 25)), .box tBanks (.d tBanks (.v 33))]⟩),
    (38, 27601929779696220898260510006780351646961398904945819502271744751707904, ⟨39, 0, mkSlots 235 0 [(8, .d .bool (.c (.bool false))), (9, .d (.int .i64) (.v 8)), (10, .d (.int .i64) (.v 11)), (13, .h (.sl (.int .u32)) 0 none), (20, .d (.int .i64) (.v 23)), (21, .p tBanks tBanks 1 []), (27, .p tBanks tBanks 2 []), (29, .d (.int .i64) (.v 36)), (30, .d (.int .i64) (.v 38))], [.mat (.int .u32) (.v 21) 0, .box tBanks (.d tBanks (.v 25)), .box tBanks (.d tBanks (.v 33))]⟩)]),
  (7, [(48, 34253944624943037145398863266787883273219606272, ⟨49, 0, mkSlots 171 0 [(8, .d .bool (.c (.bool false))), (9, .d (.int .i64) (.v 8)), (10, .d (.int .i64) (.v 11)), (17, .p tBanks tBanks 0 []), (25, .d (.int .i64) (.v 48))], [.box tBanks (.d tBanks (.v 33))]⟩)]),
  (31, [(3, 60, ⟨4, 0, mkSlots 96 0 [(2, .p tBanks tBanks 0 []), (3, .p tBanks tBanks 1 []), (4, .d .bool (.c (.bool false))), (5, .d (.int .i64) (.v 3))], [.box tBanks (.d tBanks (.v 0)), .box tBanks (.d tBanks (.v 1))]⟩),
    (3, 92, ⟨4, 0, mkSlots 96 0 [(2, .p tBanks tBanks 0 []), (3, .p tBanks tBanks 1 []), (4, .d .bool (.c (.bool false))), (6, .d (.int .i64) (.v 3))], [.box tBanks (.d tBanks (.v 0)), .box tBanks (.d tBanks (.v 1))]⟩),
    (14, 220, ⟨15, 0, mkSlots 96 0 [(2, .p tBanks tBanks 0 []), (3, .p tBanks tBanks 1 []), (4, .d .bool (.c (.bool false))), (6, .d (.int .i64) (.v 3)), (7, .d (.int .i64) (.v 14))], [.box tBanks (.d tBanks (.v 0)), .box tBanks (.d tBanks (.v 1))]⟩)]),
  (39, [(2, 79227255524751721442310094862, ⟨3, 0, mkSlots 97 0 [(1, .p tBanks tBanks 0 []), (2, .d .bool (.c (.bool false))), (3, .d (.int .i64) (.v 2))], [.box tBanks (.d tBanks (.v 0))]⟩),
    (2, 79227255524751721442310094870, ⟨3, 0, mkSlots 97 0 [(1, .p tBanks tBanks 0 []), (2, .d .bool (.c (.bool false))), (4, .d (.int .i64) (.v 2))], [.box tBanks (.d tBanks (.v 0))]⟩)])] }
theorem tyOk : TysOk cx := chkTys_ok (by kernel_rfl)
theorem mixed : Try.prog.follows .mixedOrders = true := by kernel_rfl
def noC : FuncId → List D → Option (List D) := fun _ _ => none
theorem noC_ok : CallsOk cx noC := fun _ _ _ _ _ _ _ h => by cases h
theorem call_now {f : FuncId} {ds rs : List D} (k d : Nat) (h : callF cx k 12 noC d f ds = some rs) : callL cx 12 noC f ds = some rs := (callL_some cx 12 noC).2 ⟨k, d, h⟩

/-! 26: backstay/backstayref07.Short -/
noncomputable def r07_Short_L1 (x0 : Banks) (s : Int) : Option (Int ⊕ Unit ⊕ Bool) :=
  if decide (s < (List.length (Banks.Rows x0) : Int)) then
    (getO (Banks.Rows x0) s).bind fun v7 =>
    if decide ((80 : Int) < (List.length v7 : Int)) then
      some (Sum.inr (Sum.inr (false)))
    else
      some (Sum.inl (w64 (s + (1 : Int))))
  else
    some (Sum.inr (Sum.inl ()))
noncomputable def r07_Short (p0 : Banks) : Option Bool :=
  if (decide ((10 : Int) < (List.length (Banks.Rows p0) : Int))) || (decide ((80 : Int) < (List.length (Banks.Par p0) : Int))) then
    some (false)
  else
    orExit (
      loopD (r07_Short_L1 p0) (0 : Int) : Option (Unit ⊕ Bool)) fun v2 =>
    some (true)
noncomputable def F_r07_Short : FnT := ⟨[tBanks], [.bool], fun x => r07_Short x⟩
noncomputable def A_r07_Short : TA :=
 .subp [.bool] (
  .prim (.fld 0) [.v 0] <|
  .prim .len [.v 1] <|
  .prim (.bin .gtr) [.v 2, .c (.int .i64 10)] <|
  .ite (.v 3) (
   .jmp 0 false [.c (.bool true)]) (
   .prim (.fld 1) [.v 0] <|
   .prim .len [.v 4] <|
   .prim (.bin .gtr) [.v 5, .c (.int .i64 80)] <|
   .jmp 0 false [.v 6])) 1 <|
 .ite (.v 1) (
  .jmp 0 false [.c (.bool false)]) (
  .sub1 [] (
   .loop [.int .i64] [.c (.int .i64 0)] (
    .prim (.fld 0) [.v 0] <|
    .prim .len [.v 3] <|
    .prim (.bin .lss) [.v 2, .v 4] <|
    .ite (.v 5) (
     .prim (.fld 0) [.v 0] <|
     .prim .get [.v 6, .v 2] <|
     .prim .len [.v 7] <|
     .prim (.bin .gtr) [.v 8, .c (.int .i64 80)] <|
     .ite (.v 9) (
      .jmp 2 false [.c (.bool false)]) (
      .prim (.bin .add) [.v 2, .c (.int .i64 1)] <|
      .jmp 0 true [.v 10])) (
     .jmp 1 false []))) 0 <|
  .jmp 0 false [.c (.bool true)])
theorem a_r07_Short : treeOf cx 12 26 = some A_r07_Short.erase := by kernel_rfl
theorem k_r07_Short : FnOk cx 12 noC 26 F_r07_Short := fn_ok (t := A_r07_Short) a_r07_Short (fun _ => rfl) (ok_of [] (by kernel_rfl) .nil) (fun x => by kernel_rfl)

/-! 31: backstay/backstayref07.Same -/
noncomputable def r07_Same_L1 (x0 : Banks) (x1 : Banks) (x3 : Int) (s : Int) : Option (Int ⊕ Unit ⊕ Int ⊕ Unit ⊕ Bool) :=
  (getO (Banks.Rows x0) x3).bind fun v16 =>
  if decide (s < (List.length v16 : Int)) then
    (getO (Banks.Rows x0) x3).bind fun v20 =>
    (getO v20 s).bind fun v21 =>
    (getO (Banks.Rows x1) x3).bind fun v23 =>
    (getO v23 s).bind fun v24 =>
    if !decide (v21 = v24) then
      some (Sum.inr (Sum.inr (Sum.inr (Sum.inr (false)))))
    else
      some (Sum.inl (w64 (s + (1 : Int))))
  else
    some (Sum.inr (Sum.inl ()))
noncomputable def r07_Same_L2 (x0 : Banks) (x1 : Banks) (s : Int) : Option (Int ⊕ Unit ⊕ Bool) :=
  if decide (s < (List.length (Banks.Rows x0) : Int)) then
    (getO (Banks.Rows x0) s).bind fun v8 =>
    (getO (Banks.Rows x1) s).bind fun v11 =>
    if !decide ((List.length v8 : Int) = (List.length v11 : Int)) then
      some (Sum.inr (Sum.inr (false)))
    else
      orExit (
        loopD (r07_Same_L1 x0 x1 s) (0 : Int) : Option (Unit ⊕ Int ⊕ Unit ⊕ Bool)) fun v14 =>
      some (Sum.inl (w64 (s + (1 : Int))))
  else
    some (Sum.inr (Sum.inl ()))
noncomputable def r07_Same_L3 (x0 : Banks) (x1 : Banks) (s : Int) : Option (Int ⊕ Unit ⊕ Bool) :=
  if decide (s < (List.length (Banks.Par x0) : Int)) then
    (getO (Banks.Par x0) s).bind fun v8 =>
    (getO (Banks.Par x1) s).bind fun v10 =>
    if !decide (v8 = v10) then
      some (Sum.inr (Sum.inr (false)))
    else
      some (Sum.inl (w64 (s + (1 : Int))))
  else
    some (Sum.inr (Sum.inl ()))
noncomputable def r07_Same (p0 : Banks) (p1 : Banks) : Option Bool :=
  if (!decide ((List.length (Banks.Rows p0) : Int) = (List.length (Banks.Rows p1) : Int))) || ((!decide ((List.length (Banks.Par p0) : Int) = (List.length (Banks.Par p1) : Int))) || (!decide ((Banks.Lost p0) = (Banks.Lost p1)))) then
    some (false)
  else
    orExit (
      loopD (r07_Same_L3 p0 p1) (0 : Int) : Option (Unit ⊕ Bool)) fun v3 =>
    orExit (
      loopD (r07_Same_L2 p0 p1) (0 : Int) : Option (Unit ⊕ Bool)) fun v3 =>
    some (true)
noncomputable def F_r07_Same : FnT := ⟨[tBanks, tBanks], [.bool], fun x => r07_Same x.1 x.2⟩
noncomputable def A_r07_Same : TA :=
 .subp [.bool] (
  .prim (.fld 0) [.v 0] <|
  .prim .len [.v 2] <|
  .prim (.fld 0) [.v 1] <|
  .prim .len [.v 4] <|
  .prim (.bin .neq) [.v 3, .v 5] <|
  .ite (.v 6) (
   .jmp 0 false [.c (.bool true)]) (
   .prim (.fld 1) [.v 0] <|
   .prim .len [.v 7] <|
   .prim (.fld 1) [.v 1] <|
   .prim .len [.v 9] <|
   .prim (.bin .neq) [.v 8, .v 10] <|
   .ite (.v 11) (
    .jmp 0 false [.c (.bool true)]) (
    .prim (.fld 2) [.v 0] <|
    .prim (.fld 2) [.v 1] <|
    .prim (.bin .neq) [.v 12, .v 13] <|
    .jmp 0 false [.v 14]))) 1 <|
 .ite (.v 2) (
  .jmp 0 false [.c (.bool false)]) (
  .sub1 [] (
   .loop [.int .i64] [.c (.int .i64 0)] (
    .prim (.fld 1) [.v 0] <|
    .prim .len [.v 4] <|
    .prim (.bin .lss) [.v 3, .v 5] <|
    .ite (.v 6) (
     .prim (.fld 1) [.v 0] <|
     .prim .get [.v 7, .v 3] <|
     .prim (.fld 1) [.v 1] <|
     .prim .get [.v 9, .v 3] <|
     .prim (.bin .neq) [.v 8, .v 10] <|
     .ite (.v 11) (
      .jmp 2 false [.c (.bool false)]) (
      .prim (.bin .add) [.v 3, .c (.int .i64 1)] <|
      .jmp 0 true [.v 12])) (
     .jmp 1 false []))) 0 <|
  .sub1 [] (
   .loop [.int .i64] [.c (.int .i64 0)] (
    .prim (.fld 0) [.v 0] <|
    .prim .len [.v 4] <|
    .prim (.bin .lss) [.v 3, .v 5] <|
    .ite (.v 6) (
     .prim (.fld 0) [.v 0] <|
     .prim .get [.v 7, .v 3] <|
     .prim .len [.v 8] <|
     .prim (.fld 0) [.v 1] <|
     .prim .get [.v 10, .v 3] <|
     .prim .len [.v 11] <|
     .prim (.bin .neq) [.v 9, .v 12] <|
     .ite (.v 13) (
      .jmp 2 false [.c (.bool false)]) (
      .sub1 [] (
       .loop [.int .i64] [.c (.int .i64 0)] (
        .prim (.fld 0) [.v 0] <|
        .prim .get [.v 15, .v 3] <|
        .prim .len [.v 16] <|
        .prim (.bin .lss) [.v 14, .v 17] <|
        .ite (.v 18) (
         .prim (.fld 0) [.v 0] <|
         .prim .get [.v 19, .v 3] <|
         .prim .get [.v 20, .v 14] <|
         .prim (.fld 0) [.v 1] <|
         .prim .get [.v 22, .v 3] <|
         .prim .get [.v 23, .v 14] <|
         .prim (.bin .neq) [.v 21, .v 24] <|
         .ite (.v 25) (
          .jmp 4 false [.c (.bool false)]) (
          .prim (.bin .add) [.v 14, .c (.int .i64 1)] <|
          .jmp 0 true [.v 26])) (
         .jmp 1 false []))) 0 <|
      .prim (.bin .add) [.v 3, .c (.int .i64 1)] <|
      .jmp 0 true [.v 14])) (
     .jmp 1 false []))) 0 <|
  .jmp 0 false [.c (.bool true)])
theorem a_r07_Same : treeOf cx 12 31 = some A_r07_Same.erase := by kernel_rfl
theorem k_r07_Same : FnOk cx 12 noC 31 F_r07_Same := fn_ok (t := A_r07_Same) a_r07_Same (fun _ => rfl) (ok_of [] (by kernel_rfl) .nil) (fun x => by kernel_rfl)

/-! 37: backstay/backstayref07.New -/
noncomputable def r07_New_L1 (x0 : Int) (x1 : Int) (s : (Int × (List (List Int)))) : Option ((Int × (List (List Int))) ⊕ (List (List Int))) :=
  if decide (s.1 < x0) then
    (repO (0 : Int) 4 x1 x1).bind fun v7 =>
    (appO 24 s.2 ([v7] : List (List Int))).bind fun v9 =>
    some (Sum.inl (w64 (s.1 + (1 : Int)), v9))
  else
    some (Sum.inr (s.2))
noncomputable def r07_New (p0 : Int) (p1 : Int) : Option (Banks × Int) :=
  if (decide (p0 < (1 : Int))) || ((decide ((8 : Int) < p0)) || ((decide (p1 < (1 : Int))) || (decide ((64 : Int) < p1)))) then
    some (((Banks.mk ([] : List (List Int)) ([] : List Int) (0 : Int)), (1 : Int)))
  else
    (repO (0 : Int) 4 p1 p1).bind fun v3 =>
    (
      loopD (r07_New_L1 p0 p1) ((0 : Int), ([] : List (List Int))) : Option (List (List Int))).bind fun v4 =>
    some ((Banks.mk v4 v3 (0 : Int), (0 : Int)))
noncomputable def F_r07_New : FnT := ⟨[.int .i64, .int .i64], [tBanks, .int .i64], fun x => r07_New x.1 x.2⟩
noncomputable def A_r07_New : TA :=
 .subp [.bool] (
  .prim (.bin .lss) [.v 0, .c (.int .i64 1)] <|
  .ite (.v 2) (
   .jmp 0 false [.c (.bool true)]) (
   .prim (.bin .gtr) [.v 0, .c (.int .i64 8)] <|
   .ite (.v 3) (
    .jmp 0 false [.c (.bool true)]) (
    .prim (.bin .lss) [.v 1, .c (.int .i64 1)] <|
    .ite (.v 4) (
     .jmp 0 false [.c (.bool true)]) (
     .prim (.bin .gtr) [.v 1, .c (.int .i64 64)] <|
     .jmp 0 false [.v 5])))) 1 <|
 .ite (.v 2) (
  .jmp 0 false [.c (.agg [.nil, .nil, (.int .i64 0)]), .c (.int .i64 1)]) (
  .primH (.rep (.int .u32 0) 4) (.sl (.int .u32)) [.v 1, .v 1] <|
  .sub0 [.sl (.sl (.int .u32))] (
   .loop [.int .i64, .sl (.sl (.int .u32))] [.c (.int .i64 0), .c .nil] (
    .prim (.bin .lss) [.v 4, .v 0] <|
    .ite (.v 6) (
     .primH (.rep (.int .u32 0) 4) (.sl (.int .u32)) [.v 1, .v 1] <|
     .mkL (.sl (.int .u32)) [.v 7] <|
     .prim (.app 24) [.v 5, .v 8] <|
     .prim (.bin .add) [.v 4, .c (.int .i64 1)] <|
     .jmp 0 true [.v 10, .v 9]) (
     .jmp 1 false [.v 5]))) 1 <|
  .mkS tsBanks [.v 4, .v 3, .c (.int .i64 0)] <|
  .jmp 0 false [.v 5, .c (.int .i64 0)])
theorem a_r07_New : treeOf cx 12 37 = some A_r07_New.erase := by kernel_rfl
theorem k_r07_New : FnOk cx 12 noC 37 F_r07_New := fn_ok (t := A_r07_New) a_r07_New (fun _ => rfl) (ok_of [] (by kernel_rfl) .nil) (fun x => by kernel_rfl)

/-! 71: backstay/backstayref07.with -/
noncomputable def r07_with (p0 : Banks) (p1 : Int) (p2 : List Int) : Option Banks :=
  (appO 24 ([] : List (List Int)) (Banks.Rows p0)).bind fun v4 =>
  (idxO (List.length v4 : Int) p1).bind fun v5 =>
  (setO v4 v5 p2).bind fun v6 =>
  some ((Banks.mk v6 (Banks.Par p0) (Banks.Lost p0)))
noncomputable def F_r07_with : FnT := ⟨[tBanks, .int .i64, .sl (.int .u32)], [tBanks], fun x => r07_with x.1 x.2.1 x.2.2⟩
noncomputable def A_r07_with : TA :=
 .prim (.fld 0) [.v 0] <|
 .primH (.app 24) (.sl (.sl (.int .u32))) [.c (.sl []), .v 3] <|
 .prim .idx [.v 4, .v 1] <|
 .prim .set [.v 4, .v 5, .v 2] <|
 .prim (.fld 0) [.v 0] <|
 .prim (.fld 1) [.v 0] <|
 .prim (.fld 2) [.v 0] <|
 .mkS tsBanks [.v 6, .v 8, .v 9] <|
 .jmp 0 false [.v 10]
theorem a_r07_with : treeOf cx 12 71 = some A_r07_with.erase := by kernel_rfl
theorem k_r07_with : FnOk cx 12 noC 71 F_r07_with := fn_ok (t := A_r07_with) a_r07_with (fun _ => rfl) (ok_of [] (by kernel_rfl) .nil) (fun x => by kernel_rfl)

/-! 72: backstay/backstayref07.column -/
noncomputable def r07_column_L1 (x0 : List (List Int)) (x1 : Int) (x2 : Int) (s : (Int × Int)) : Option ((Int × Int) ⊕ Int) :=
  if decide (s.2 < (List.length x0 : Int)) then
    (
      if !decide (s.2 = x2) then
        (getO x0 s.2).bind fun v8 =>
        (getO v8 x1).bind fun v9 =>
        some ((bXor .u32 s.1 v9))
      else
        some (s.1) : Option Int).bind fun v8 =>
    some (Sum.inl (v8, w64 (s.2 + (1 : Int))))
  else
    some (Sum.inr (s.1))
noncomputable def r07_column (p0 : List (List Int)) (p1 : Int) (p2 : Int) : Option Int :=
  (
    loopD (r07_column_L1 p0 p1 p2) ((0 : Int), (0 : Int)) : Option Int).bind fun v3 =>
  some (v3)
noncomputable def F_r07_column : FnT := ⟨[.sl (.sl (.int .u32)), .int .i64, .int .i64], [.int .u32], fun x => r07_column x.1 x.2.1 x.2.2⟩
noncomputable def A_r07_column : TA :=
 .sub0 [.int .u32] (
  .loop [.int .u32, .int .i64] [.c (.int .u32 0), .c (.int .i64 0)] (
   .prim .len [.v 0] <|
   .prim (.bin .lss) [.v 4, .v 5] <|
   .ite (.v 6) (
    .prim (.bin .neq) [.v 4, .v 2] <|
    .sub0 [.int .u32] (
     .ite (.v 7) (
      .prim .get [.v 0, .v 4] <|
      .prim .get [.v 8, .v 1] <|
      .prim (.bin .xor) [.v 3, .v 9] <|
      .jmp 0 false [.v 10]) (
      .jmp 0 false [.v 3])) 1 <|
    .prim (.bin .add) [.v 4, .c (.int .i64 1)] <|
    .jmp 0 true [.v 8, .v 9]) (
    .jmp 1 false [.v 3]))) 1 <|
 .jmp 0 false [.v 3]
theorem a_r07_column : treeOf cx 12 72 = some A_r07_column.erase := by kernel_rfl
theorem k_r07_column : FnOk cx 12 noC 72 F_r07_column := fn_ok (t := A_r07_column) a_r07_column (fun _ => rfl) (ok_of [] (by kernel_rfl) .nil) (fun x => by kernel_rfl)

/-! 74: backstay/parity.formed -/
noncomputable def parity_formed_L1 (x2 : Int) (x4 : List (List Int)) (x5 : Int) (s : Int) : Option (Int ⊕ Unit ⊕ Int) :=
  if decide (s < x5) then
    (getO x4 s).bind fun v8 =>
    if !decide ((List.length v8 : Int) = x2) then
      some (Sum.inr (Sum.inr (s)))
    else
      some (Sum.inl (w64 (s + (1 : Int))))
  else
    some (Sum.inr (Sum.inl ()))
noncomputable def parity_formed (p0 : Banks) : Option Bool :=
  let v2 : Int := (List.length (Banks.Par p0) : Int)
  if (decide ((List.length (Banks.Rows p0) : Int) < (1 : Int))) || ((decide ((8 : Int) < (List.length (Banks.Rows p0) : Int))) || ((decide (v2 < (1 : Int))) || ((decide ((64 : Int) < v2)) || ((decide ((Banks.Lost p0) < (0 : Int))) || (decide ((List.length (Banks.Rows p0) : Int) < (Banks.Lost p0))))))) then
    some (false)
  else
    (
      (
        let v5 : Int := (List.length (Banks.Rows p0) : Int)
        orExit (
          loopD (parity_formed_L1 v2 (Banks.Rows p0) v5) (0 : Int) : Option (Unit ⊕ Int)) fun v6 =>
        some ((-1 : Int)) : Option Int).bind fun v5 =>
      some ((decide ((0 : Int) ≤ v5))) : Option Bool).bind fun v5 =>
    some ((!v5))
noncomputable def F_parity_formed : FnT := ⟨[tBanks], [.bool], fun x => parity_formed x⟩
noncomputable def A_parity_formed : TA :=
 .prim (.fld 1) [.v 0] <|
 .prim .len [.v 1] <|
 .subp [.bool] (
  .prim (.fld 0) [.v 0] <|
  .prim .len [.v 3] <|
  .prim (.bin .lss) [.v 4, .c (.int .i64 1)] <|
  .ite (.v 5) (
   .jmp 0 false [.c (.bool true)]) (
   .prim (.fld 0) [.v 0] <|
   .prim .len [.v 6] <|
   .prim (.bin .gtr) [.v 7, .c (.int .i64 8)] <|
   .ite (.v 8) (
    .jmp 0 false [.c (.bool true)]) (
    .prim (.bin .lss) [.v 2, .c (.int .i64 1)] <|
    .ite (.v 9) (
     .jmp 0 false [.c (.bool true)]) (
     .prim (.bin .gtr) [.v 2, .c (.int .i64 64)] <|
     .ite (.v 10) (
      .jmp 0 false [.c (.bool true)]) (
      .prim (.fld 2) [.v 0] <|
      .prim (.bin .lss) [.v 11, .c (.int .i64 0)] <|
      .ite (.v 12) (
       .jmp 0 false [.c (.bool true)]) (
       .prim (.fld 2) [.v 0] <|
       .prim (.fld 0) [.v 0] <|
       .prim .len [.v 14] <|
       .prim (.bin .gtr) [.v 13, .v 15] <|
       .jmp 0 false [.v 16])))))) 1 <|
 .ite (.v 3) (
  .jmp 0 false [.c (.bool false)]) (
  .prim (.fld 0) [.v 0] <|
  .sub0 [.bool] (
   .sub0 [.int .i64] (
    .prim .len [.v 4] <|
    .sub1 [] (
     .loop [.int .i64] [.c (.int .i64 0)] (
      .prim (.bin .lss) [.v 6, .v 5] <|
      .ite (.v 7) (
       .prim .get [.v 4, .v 6] <|
       .subp [.bool] (
        .prim .len [.v 8] <|
        .prim (.bin .neq) [.v 9, .v 2] <|
        .jmp 0 false [.v 10]) 1 <|
       .ite (.v 9) (
        .jmp 2 false [.v 6]) (
        .prim (.bin .add) [.v 6, .c (.int .i64 1)] <|
        .jmp 0 true [.v 10])) (
       .jmp 1 false []))) 0 <|
    .jmp 0 false [.c (.int .i64 (-1))]) 1 <|
   .prim (.bin .geq) [.v 5, .c (.int .i64 0)] <|
   .jmp 0 false [.v 6]) 1 <|
  .prim (.un .not) [.v 5] <|
  .jmp 0 false [.v 6])
theorem a_parity_formed : treeOf cx 12 74 = some A_parity_formed.erase := by kernel_rfl
theorem k_parity_formed : FnOk cx 12 noC 74 F_parity_formed := fn_ok (t := A_parity_formed) a_parity_formed (fun _ => rfl) (ok_of [] (by kernel_rfl) .nil) (fun x => by kernel_rfl)

/-! 76: backstay/parity.Right$1 -/
def parity_Right_1 (p0 : Int) : Bool :=
  !decide (p0 = (0 : Int))
def F_parity_Right_1 : PnT := ⟨[.int .u32], [.bool], fun x => parity_Right_1 x⟩
def A_parity_Right_1 : TA :=
 .prim (.bin .neq) [.v 0, .c (.int .u32 0)] <|
 .jmp 0 false [.v 1]
theorem a_parity_Right_1 : treeOf cx 12 76 = some A_parity_Right_1.erase := by kernel_rfl
theorem k_parity_Right_1 : FnOk cx 12 noC 76 F_parity_Right_1.fn := pn_ok (t := A_parity_Right_1) a_parity_Right_1 (fun _ => rfl) (ok_of [] (by kernel_rfl) .nil) (fun x => by kernel_rfl)

/-! 77: slices.Equal[[]uint32,uint32] -/
noncomputable def slices_Equal_uint32_uint32_L1 (x0 : List Int) (x1 : List Int) (x5 : Int) (s : Int) : Option (Int ⊕ Unit ⊕ Bool) :=
  if decide (s < x5) then
    (getO x0 s).bind fun v8 =>
    (getO x1 s).bind fun v9 =>
    if !decide (v8 = v9) then
      some (Sum.inr (Sum.inr (false)))
    else
      some (Sum.inl (w64 (s + (1 : Int))))
  else
    some (Sum.inr (Sum.inl ()))
noncomputable def slices_Equal_uint32_uint32 (p0 : List Int) (p1 : List Int) : Option Bool :=
  if !decide ((List.length p0 : Int) = (List.length p1 : Int)) then
    some (false)
  else
    let v5 : Int := (List.length p0 : Int)
    orExit (
      loopD (slices_Equal_uint32_uint32_L1 p0 p1 v5) (0 : Int) : Option (Unit ⊕ Bool)) fun v6 =>
    some (true)
noncomputable def F_slices_Equal_uint32_uint32 : FnT := ⟨[.sl (.int .u32), .sl (.int .u32)], [.bool], fun x => slices_Equal_uint32_uint32 x.1 x.2⟩
noncomputable def A_slices_Equal_uint32_uint32 : TA :=
 .prim .len [.v 0] <|
 .prim .len [.v 1] <|
 .prim (.bin .neq) [.v 2, .v 3] <|
 .ite (.v 4) (
  .jmp 0 false [.c (.bool false)]) (
  .prim .len [.v 0] <|
  .sub1 [] (
   .loop [.int .i64] [.c (.int .i64 0)] (
    .prim (.bin .lss) [.v 6, .v 5] <|
    .ite (.v 7) (
     .prim .get [.v 0, .v 6] <|
     .prim .get [.v 1, .v 6] <|
     .prim (.bin .neq) [.v 8, .v 9] <|
     .ite (.v 10) (
      .jmp 2 false [.c (.bool false)]) (
      .prim (.bin .add) [.v 6, .c (.int .i64 1)] <|
      .jmp 0 true [.v 11])) (
     .jmp 1 false []))) 0 <|
  .jmp 0 false [.c (.bool true)])
theorem a_slices_Equal_uint32_uint32 : treeOf cx 12 77 = some A_slices_Equal_uint32_uint32.erase := by kernel_rfl
theorem k_slices_Equal_uint32_uint32 : FnOk cx 12 noC 77 F_slices_Equal_uint32_uint32 := fn_ok (t := A_slices_Equal_uint32_uint32) a_slices_Equal_uint32_uint32 (fun _ => rfl) (ok_of [] (by kernel_rfl) .nil) (fun x => by kernel_rfl)

/-! 38: backstay/parity.Right -/
noncomputable def parity_Right_L1 (x8 : List Int) (x9 : Int) (s : Int) : Option (Int ⊕ Unit ⊕ Int) :=
  if decide (s < x9) then
    (getO x8 s).bind fun v12 =>
    if parity_Right_1 v12 then
      some (Sum.inr (Sum.inr (s)))
    else
      some (Sum.inl (w64 (s + (1 : Int))))
  else
    some (Sum.inr (Sum.inl ()))
noncomputable def parity_Right_L2 (x13 : List Int) (x14 : Int) (s : (Int × (List Int))) : Option ((Int × (List Int)) ⊕ (List Int)) :=
  if decide (s.1 < x14) then
    (getO x13 s.1).bind fun v18 =>
    (idxO (List.length s.2 : Int) s.1).bind fun v19 =>
    (getO s.2 v19).bind fun v20 =>
    (idxO (List.length s.2 : Int) s.1).bind fun v22 =>
    (setO s.2 v22 (bXor .u32 v20 v18)).bind fun v23 =>
    some (Sum.inl (w64 (s.1 + (1 : Int)), v23))
  else
    some (Sum.inr (s.2))
noncomputable def parity_Right_L3 (x5 : List (List Int)) (x9 : Int) (s : (Int × (List Int))) : Option ((Int × (List Int)) ⊕ (List Int)) :=
  if decide (s.1 < x9) then
    (getO x5 s.1).bind fun v13 =>
    let v14 : Int := (List.length v13 : Int)
    (
      loopD (parity_Right_L2 v13 v14) ((0 : Int), s.2) : Option (List Int)).bind fun v15 =>
    some (Sum.inl (w64 (s.1 + (1 : Int)), v15))
  else
    some (Sum.inr (s.2))
noncomputable def parity_Right (p0 : Banks) : Option Bool :=
  (parity_formed p0).bind fun v1 =>
  if !v1 then
    some (false)
  else
    if decide ((0 : Int) < (Banks.Lost p0)) then
      (getO (Banks.Rows p0) (w64 ((Banks.Lost p0) - (1 : Int)))).bind fun v8 =>
      (
        (
          let v9 : Int := (List.length v8 : Int)
          orExit (
            loopD (parity_Right_L1 v8 v9) (0 : Int) : Option (Unit ⊕ Int)) fun v10 =>
          some ((-1 : Int)) : Option Int).bind fun v9 =>
        some ((decide ((0 : Int) ≤ v9))) : Option Bool).bind fun v9 =>
      some ((!v9))
    else
      let v7 : Int := (List.length (Banks.Par p0) : Int)
      (
        (repO (0 : Int) 4 v7 v7).bind fun v8 =>
        let v9 : Int := (List.length (Banks.Rows p0) : Int)
        (
          loopD (parity_Right_L3 (Banks.Rows p0) v9) ((0 : Int), v8) : Option (List Int)).bind fun v10 =>
        some (v10) : Option (List Int)).bind fun v8 =>
      (slices_Equal_uint32_uint32 v8 (Banks.Par p0)).bind fun v10 =>
      some (v10)
noncomputable def F_parity_Right : FnT := ⟨[tBanks], [.bool], fun x => parity_Right x⟩
noncomputable def A_parity_Right : TA :=
 .call 74 F_parity_formed [.v 0] 1 <|
 .prim (.un .not) [.v 1] <|
 .ite (.v 2) (
  .jmp 0 false [.c (.bool false)]) (
  .prim (.fld 2) [.v 0] <|
  .prim (.bin .gtr) [.v 3, .c (.int .i64 0)] <|
  .ite (.v 4) (
   .prim (.fld 0) [.v 0] <|
   .prim (.fld 2) [.v 0] <|
   .prim (.bin .sub) [.v 6, .c (.int .i64 1)] <|
   .prim .get [.v 5, .v 7] <|
   .sub0 [.bool] (
    .sub0 [.int .i64] (
     .prim .len [.v 8] <|
     .sub1 [] (
      .loop [.int .i64] [.c (.int .i64 0)] (
       .prim (.bin .lss) [.v 10, .v 9] <|
       .ite (.v 11) (
        .prim .get [.v 8, .v 10] <|
        .callp 76 F_parity_Right_1 [.v 12] 1 <|
        .ite (.v 13) (
         .jmp 2 false [.v 10]) (
         .prim (.bin .add) [.v 10, .c (.int .i64 1)] <|
         .jmp 0 true [.v 14])) (
        .jmp 1 false []))) 0 <|
     .jmp 0 false [.c (.int .i64 (-1))]) 1 <|
    .prim (.bin .geq) [.v 9, .c (.int .i64 0)] <|
    .jmp 0 false [.v 10]) 1 <|
   .prim (.un .not) [.v 9] <|
   .jmp 0 false [.v 10]) (
   .prim (.fld 0) [.v 0] <|
   .prim (.fld 1) [.v 0] <|
   .prim .len [.v 6] <|
   .sub0 [.sl (.int .u32)] (
    .primH (.rep (.int .u32 0) 4) (.sl (.int .u32)) [.v 7, .v 7] <|
    .prim .len [.v 5] <|
    .sub0 [.sl (.int .u32)] (
     .loop [.int .i64, .sl (.int .u32)] [.c (.int .i64 0), .v 8] (
      .prim (.bin .lss) [.v 10, .v 9] <|
      .ite (.v 12) (
       .prim .get [.v 5, .v 10] <|
       .prim .len [.v 13] <|
       .sub0 [.sl (.int .u32)] (
        .loop [.int .i64, .sl (.int .u32)] [.c (.int .i64 0), .v 11] (
         .prim (.bin .lss) [.v 15, .v 14] <|
         .ite (.v 17) (
          .prim .get [.v 13, .v 15] <|
          .prim .idx [.v 16, .v 15] <|
          .prim .get [.v 16, .v 19] <|
          .prim (.bin .xor) [.v 20, .v 18] <|
          .prim .idx [.v 16, .v 15] <|
          .prim .set [.v 16, .v 22, .v 21] <|
          .prim (.bin .add) [.v 15, .c (.int .i64 1)] <|
          .jmp 0 true [.v 24, .v 23]) (
          .jmp 1 false [.v 16]))) 1 <|
       .prim (.bin .add) [.v 10, .c (.int .i64 1)] <|
       .jmp 0 true [.v 16, .v 15]) (
       .jmp 1 false [.v 11]))) 1 <|
    .jmp 0 false [.v 10]) 1 <|
   .prim (.fld 1) [.v 0] <|
   .call 77 F_slices_Equal_uint32_uint32 [.v 8, .v 9] 1 <|
   .jmp 0 false [.v 10]))
theorem a_parity_Right : treeOf cx 12 38 = some A_parity_Right.erase := by kernel_rfl
theorem k_parity_Right : FnOk cx 12 noC 38 F_parity_Right := fn_ok (t := A_parity_Right) a_parity_Right (fun _ => rfl) (ok_of [(74, F_parity_formed), (76, F_parity_Right_1.fn), (77, F_slices_Equal_uint32_uint32)] (by kernel_rfl) (.cons k_parity_formed (.cons k_parity_Right_1 (.cons k_slices_Equal_uint32_uint32 .nil)))) (fun x => by kernel_rfl)

/-! 39: backstay/backstayref07.Right -/
noncomputable def r07_Right_L1 (x0 : Banks) (s : Int) : Option (Int ⊕ Unit ⊕ Bool) :=
  if decide (s < (List.length (Banks.Par x0) : Int)) then
    (
      if decide ((Banks.Lost x0) = (0 : Int)) then
        (r07_column (Banks.Rows x0) s (-1 : Int)).bind fun v9 =>
        (getO (Banks.Par x0) s).bind fun v11 =>
        if !decide (v9 = v11) then
          some (true)
        else
          if decide ((0 : Int) < (Banks.Lost x0)) then
            (getO (Banks.Rows x0) (w64 ((Banks.Lost x0) - (1 : Int)))).bind fun v18 =>
            (getO v18 s).bind fun v19 =>
            some ((!decide (v19 = (0 : Int))))
          else
            some (false)
      else
        if decide ((0 : Int) < (Banks.Lost x0)) then
          (getO (Banks.Rows x0) (w64 ((Banks.Lost x0) - (1 : Int)))).bind fun v13 =>
          (getO v13 s).bind fun v14 =>
          some ((!decide (v14 = (0 : Int))))
        else
          some (false) : Option Bool).bind fun v6 =>
    if v6 then
      some (Sum.inr (Sum.inr (false)))
    else
      some (Sum.inl (w64 (s + (1 : Int))))
  else
    some (Sum.inr (Sum.inl ()))
noncomputable def r07_Right_L2 (x0 : Banks) (s : Int) : Option (Int ⊕ Unit ⊕ Bool) :=
  if decide (s < (List.length (Banks.Rows x0) : Int)) then
    (getO (Banks.Rows x0) s).bind fun v7 =>
    if !decide ((List.length v7 : Int) = (List.length (Banks.Par x0) : Int)) then
      some (Sum.inr (Sum.inr (false)))
    else
      some (Sum.inl (w64 (s + (1 : Int))))
  else
    some (Sum.inr (Sum.inl ()))
noncomputable def r07_Right (p0 : Banks) : Option Bool :=
  if (decide ((List.length (Banks.Rows p0) : Int) = (0 : Int))) || ((decide ((8 : Int) < (List.length (Banks.Rows p0) : Int))) || ((decide ((List.length (Banks.Par p0) : Int) = (0 : Int))) || ((decide ((64 : Int) < (List.length (Banks.Par p0) : Int))) || ((decide ((Banks.Lost p0) < (0 : Int))) || (decide ((List.length (Banks.Rows p0) : Int) < (Banks.Lost p0))))))) then
    some (false)
  else
    orExit (
      loopD (r07_Right_L2 p0) (0 : Int) : Option (Unit ⊕ Bool)) fun v2 =>
    orExit (
      loopD (r07_Right_L1 p0) (0 : Int) : Option (Unit ⊕ Bool)) fun v2 =>
    some (true)
noncomputable def F_r07_Right : FnT := ⟨[tBanks], [.bool], fun x => r07_Right x⟩
noncomputable def A_r07_Right : TA :=
 .subp [.bool] (
  .prim (.fld 0) [.v 0] <|
  .prim .len [.v 1] <|
  .prim (.bin .eql) [.v 2, .c (.int .i64 0)] <|
  .ite (.v 3) (
   .jmp 0 false [.c (.bool true)]) (
   .prim (.fld 0) [.v 0] <|
   .prim .len [.v 4] <|
   .prim (.bin .gtr) [.v 5, .c (.int .i64 8)] <|
   .ite (.v 6) (
    .jmp 0 false [.c (.bool true)]) (
    .prim (.fld 1) [.v 0] <|
    .prim .len [.v 7] <|
    .prim (.bin .eql) [.v 8, .c (.int .i64 0)] <|
    .ite (.v 9) (
     .jmp 0 false [.c (.bool true)]) (
     .prim (.fld 1) [.v 0] <|
     .prim .len [.v 10] <|
     .prim (.bin .gtr) [.v 11, .c (.int .i64 64)] <|
     .ite (.v 12) (
      .jmp 0 false [.c (.bool true)]) (
      .prim (.fld 2) [.v 0] <|
      .prim (.bin .lss) [.v 13, .c (.int .i64 0)] <|
      .ite (.v 14) (
       .jmp 0 false [.c (.bool true)]) (
       .prim (.fld 2) [.v 0] <|
       .prim (.fld 0) [.v 0] <|
       .prim .len [.v 16] <|
       .prim (.bin .gtr) [.v 15, .v 17] <|
       .jmp 0 false [.v 18])))))) 1 <|
 .ite (.v 1) (
  .jmp 0 false [.c (.bool false)]) (
  .sub1 [] (
   .loop [.int .i64] [.c (.int .i64 0)] (
    .prim (.fld 0) [.v 0] <|
    .prim .len [.v 3] <|
    .prim (.bin .lss) [.v 2, .v 4] <|
    .ite (.v 5) (
     .prim (.fld 0) [.v 0] <|
     .prim .get [.v 6, .v 2] <|
     .prim .len [.v 7] <|
     .prim (.fld 1) [.v 0] <|
     .prim .len [.v 9] <|
     .prim (.bin .neq) [.v 8, .v 10] <|
     .ite (.v 11) (
      .jmp 2 false [.c (.bool false)]) (
      .prim (.bin .add) [.v 2, .c (.int .i64 1)] <|
      .jmp 0 true [.v 12])) (
     .jmp 1 false []))) 0 <|
  .sub1 [] (
   .loop [.int .i64] [.c (.int .i64 0)] (
    .prim (.fld 1) [.v 0] <|
    .prim .len [.v 3] <|
    .prim (.bin .lss) [.v 2, .v 4] <|
    .ite (.v 5) (
     .sub0 [.bool] (
      .prim (.fld 2) [.v 0] <|
      .prim (.bin .eql) [.v 6, .c (.int .i64 0)] <|
      .ite (.v 7) (
       .prim (.fld 0) [.v 0] <|
       .call 72 F_r07_column [.v 8, .v 2, .c (.int .i64 (-1))] 1 <|
       .prim (.fld 1) [.v 0] <|
       .prim .get [.v 10, .v 2] <|
       .prim (.bin .neq) [.v 9, .v 11] <|
       .ite (.v 12) (
        .jmp 0 false [.c (.bool true)]) (
        .prim (.fld 2) [.v 0] <|
        .prim (.bin .gtr) [.v 13, .c (.int .i64 0)] <|
        .ite (.v 14) (
         .prim (.fld 0) [.v 0] <|
         .prim (.fld 2) [.v 0] <|
         .prim (.bin .sub) [.v 16, .c (.int .i64 1)] <|
         .prim .get [.v 15, .v 17] <|
         .prim .get [.v 18, .v 2] <|
         .prim (.bin .neq) [.v 19, .c (.int .u32 0)] <|
         .jmp 0 false [.v 20]) (
         .jmp 0 false [.c (.bool false)]))) (
       .prim (.fld 2) [.v 0] <|
       .prim (.bin .gtr) [.v 8, .c (.int .i64 0)] <|
       .ite (.v 9) (
        .prim (.fld 0) [.v 0] <|
        .prim (.fld 2) [.v 0] <|
        .prim (.bin .sub) [.v 11, .c (.int .i64 1)] <|
        .prim .get [.v 10, .v 12] <|
        .prim .get [.v 13, .v 2] <|
        .prim (.bin .neq) [.v 14, .c (.int .u32 0)] <|
        .jmp 0 false [.v 15]) (
        .jmp 0 false [.c (.bool false)]))) 1 <|
     .ite (.v 6) (
      .jmp 2 false [.c (.bool false)]) (
      .prim (.bin .add) [.v 2, .c (.int .i64 1)] <|
      .jmp 0 true [.v 7])) (
     .jmp 1 false []))) 0 <|
  .jmp 0 false [.c (.bool true)])
theorem a_r07_Right : treeOf cx 12 39 = some A_r07_Right.erase := by kernel_rfl
theorem k_r07_Right : FnOk cx 12 noC 39 F_r07_Right := fn_ok (t := A_r07_Right) a_r07_Right (fun _ => rfl) (ok_of [(72, F_r07_column)] (by kernel_rfl) (.cons k_r07_column .nil)) (fun x => by kernel_rfl)

/-! 34: backstay/parity.Rebuild -/
noncomputable def parity_Rebuild_L1 (x18 : List Int) (x19 : Int) (s : (Int × (List Int))) : Option ((Int × (List Int)) ⊕ (List Int)) :=
  if decide (s.1 < x19) then
    (getO x18 s.1).bind fun v23 =>
    (idxO (List.length s.2 : Int) s.1).bind fun v24 =>
    (getO s.2 v24).bind fun v25 =>
    (idxO (List.length s.2 : Int) s.1).bind fun v27 =>
    (setO s.2 v27 (bXor .u32 v25 v23)).bind fun v28 =>
    some (Sum.inl (w64 (s.1 + (1 : Int)), v28))
  else
    some (Sum.inr (s.2))
noncomputable def parity_Rebuild_L2 (x11 : List (List Int)) (x14 : Int) (s : (Int × (List Int))) : Option ((Int × (List Int)) ⊕ (List Int)) :=
  if decide (s.1 < x14) then
    (getO x11 s.1).bind fun v18 =>
    let v19 : Int := (List.length v18 : Int)
    (
      loopD (parity_Rebuild_L1 v18 v19) ((0 : Int), s.2) : Option (List Int)).bind fun v20 =>
    some (Sum.inl (w64 (s.1 + (1 : Int)), v20))
  else
    some (Sum.inr (s.2))
noncomputable def parity_Rebuild_L3 (x4 : List (List Int)) (x5 : Int) (s : (Int × (List (List Int)))) : Option ((Int × (List (List Int))) ⊕ (List (List Int))) :=
  if decide (s.1 < x5) then
    (getO x4 s.1).bind fun v9 =>
    (cloneO 4 v9).bind fun v10 =>
    (appO 24 s.2 ([v10] : List (List Int))).bind fun v12 =>
    some (Sum.inl (w64 (s.1 + (1 : Int)), v12))
  else
    some (Sum.inr (s.2))
noncomputable def parity_Rebuild (p0 : Banks) : Option (Banks × Int) :=
  (
    (cloneO 4 (Banks.Par p0)).bind fun v2 =>
    let v5 : Int := (List.length (Banks.Rows p0) : Int)
    (
      loopD (parity_Rebuild_L3 (Banks.Rows p0) v5) ((0 : Int), ([] : List (List Int))) : Option (List (List Int))).bind fun v6 =>
    some ((Banks.Lost p0, v6, v2)) : Option (Int × (List (List Int)) × (List Int))).bind fun v1 =>
  (parity_Right p0).bind fun v4 =>
  if !v4 then
    some ((Banks.mk v1.2.1 v1.2.2 v1.1, (1 : Int)))
  else
    if decide ((Banks.Lost p0) = (0 : Int)) then
      some ((Banks.mk v1.2.1 v1.2.2 v1.1, (8 : Int)))
    else
      (getO v1.2.1 (0 : Int)).bind fun v10 =>
      (appO 24 v1.2.1 ([v1.2.2] : List (List Int))).bind fun v11 =>
      let v12 : Int := (List.length v1.2.2 : Int)
      (
        (repO (0 : Int) 4 v12 v12).bind fun v13 =>
        let v14 : Int := (List.length v11 : Int)
        (
          loopD (parity_Rebuild_L2 v11 v14) ((0 : Int), v13) : Option (List Int)).bind fun v15 =>
        some (v15) : Option (List Int)).bind fun v13 =>
      (idxO (List.length v1.2.1 : Int) (w64 (v1.1 - (1 : Int)))).bind fun v14 =>
      (setO v1.2.1 v14 v13).bind fun v15 =>
      some ((Banks.mk v15 v1.2.2 (0 : Int), (0 : Int)))
noncomputable def F_parity_Rebuild : FnT := ⟨[tBanks], [tBanks, .int .i64], fun x => parity_Rebuild x⟩
noncomputable def A_parity_Rebuild : TA :=
 .sub0 [.int .i64, .sl (.sl (.int .u32)), .sl (.int .u32)] (
  .prim (.fld 1) [.v 0] <|
  .prim (.clone 4) [.v 1] <|
  .prim (.fld 2) [.v 0] <|
  .prim (.fld 0) [.v 0] <|
  .prim .len [.v 4] <|
  .sub0 [.sl (.sl (.int .u32))] (
   .loop [.int .i64, .sl (.sl (.int .u32))] [.c (.int .i64 0), .c .nil] (
    .prim (.bin .lss) [.v 6, .v 5] <|
    .ite (.v 8) (
     .prim .get [.v 4, .v 6] <|
     .prim (.clone 4) [.v 9] <|
     .mkL (.sl (.int .u32)) [.v 10] <|
     .prim (.app 24) [.v 7, .v 11] <|
     .prim (.bin .add) [.v 6, .c (.int .i64 1)] <|
     .jmp 0 true [.v 13, .v 12]) (
     .jmp 1 false [.v 7]))) 1 <|
  .jmp 0 false [.v 3, .v 6, .v 2]) 3 <|
 .call 38 F_parity_Right [.v 0] 1 <|
 .prim (.un .not) [.v 4] <|
 .ite (.v 5) (
  .mkS tsBanks [.v 2, .v 3, .v 1] <|
  .jmp 0 false [.v 6, .c (.int .i64 1)]) (
  .prim (.fld 2) [.v 0] <|
  .prim (.bin .eql) [.v 6, .c (.int .i64 0)] <|
  .ite (.v 7) (
   .mkS tsBanks [.v 2, .v 3, .v 1] <|
   .jmp 0 false [.v 8, .c (.int .i64 8)]) (
   .prim (.bin .sub) [.v 1, .c (.int .i64 1)] <|
   .mkL (.sl (.int .u32)) [.v 3] <|
   .prim .get [.v 2, .c (.int .i64 0)] <|
   .prim (.app 24) [.v 2, .v 9] <|
   .prim .len [.v 3] <|
   .sub0 [.sl (.int .u32)] (
    .primH (.rep (.int .u32 0) 4) (.sl (.int .u32)) [.v 12, .v 12] <|
    .prim .len [.v 11] <|
    .sub0 [.sl (.int .u32)] (
     .loop [.int .i64, .sl (.int .u32)] [.c (.int .i64 0), .v 13] (
      .prim (.bin .lss) [.v 15, .v 14] <|
      .ite (.v 17) (
       .prim .get [.v 11, .v 15] <|
       .prim .len [.v 18] <|
       .sub0 [.sl (.int .u32)] (
        .loop [.int .i64, .sl (.int .u32)] [.c (.int .i64 0), .v 16] (
         .prim (.bin .lss) [.v 20, .v 19] <|
         .ite (.v 22) (
          .prim .get [.v 18, .v 20] <|
          .prim .idx [.v 21, .v 20] <|
          .prim .get [.v 21, .v 24] <|
          .prim (.bin .xor) [.v 25, .v 23] <|
          .prim .idx [.v 21, .v 20] <|
          .prim .set [.v 21, .v 27, .v 26] <|
          .prim (.bin .add) [.v 20, .c (.int .i64 1)] <|
          .jmp 0 true [.v 29, .v 28]) (
          .jmp 1 false [.v 21]))) 1 <|
       .prim (.bin .add) [.v 15, .c (.int .i64 1)] <|
       .jmp 0 true [.v 21, .v 20]) (
       .jmp 1 false [.v 16]))) 1 <|
    .jmp 0 false [.v 15]) 1 <|
   .prim .idx [.v 2, .v 8] <|
   .prim .set [.v 2, .v 14, .v 13] <|
   .mkS tsBanks [.v 15, .v 3, .c (.int .i64 0)] <|
   .jmp 0 false [.v 16, .c (.int .i64 0)]))
theorem a_parity_Rebuild : treeOf cx 12 34 = some A_parity_Rebuild.erase := by kernel_rfl
theorem k_parity_Rebuild : FnOk cx 12 noC 34 F_parity_Rebuild := fn_ok (t := A_parity_Rebuild) a_parity_Rebuild (fun _ => rfl) (ok_of [(38, F_parity_Right)] (by kernel_rfl) (.cons k_parity_Right .nil)) (fun x => by kernel_rfl)

/-! 35: backstay/backstayref07.Rebuild -/
noncomputable def r07_Rebuild_L1 (x0 : Banks) (s : (Int × (List Int))) : Option ((Int × (List Int)) ⊕ (List Int)) :=
  if decide (s.1 < (List.length (Banks.Par x0) : Int)) then
    (getO (Banks.Par x0) s.1).bind fun v11 =>
    (r07_column (Banks.Rows x0) s.1 (w64 ((Banks.Lost x0) - (1 : Int)))).bind fun v15 =>
    (appO 4 s.2 ([bXor .u32 v11 v15] : List Int)).bind fun v18 =>
    some (Sum.inl (w64 (s.1 + (1 : Int)), v18))
  else
    some (Sum.inr (s.2))
noncomputable def r07_Rebuild (p0 : Banks) : Option (Banks × Int) :=
  (r07_Right p0).bind fun v1 =>
  if !v1 then
    some ((p0, (1 : Int)))
  else
    if decide ((Banks.Lost p0) = (0 : Int)) then
      some ((p0, (8 : Int)))
    else
      (
        loopD (r07_Rebuild_L1 p0) ((0 : Int), ([] : List Int)) : Option (List Int)).bind fun v5 =>
      (r07_with p0 (w64 ((Banks.Lost p0) - (1 : Int))) v5).bind fun v8 =>
      some ((Banks.setLost v8 (0 : Int), (0 : Int)))
noncomputable def F_r07_Rebuild : FnT := ⟨[tBanks], [tBanks, .int .i64], fun x => r07_Rebuild x⟩
noncomputable def A_r07_Rebuild : TA :=
 .call 39 F_r07_Right [.v 0] 1 <|
 .prim (.un .not) [.v 1] <|
 .ite (.v 2) (
  .jmp 0 false [.v 0, .c (.int .i64 1)]) (
  .prim (.fld 2) [.v 0] <|
  .prim (.bin .eql) [.v 3, .c (.int .i64 0)] <|
  .ite (.v 4) (
   .jmp 0 false [.v 0, .c (.int .i64 8)]) (
   .sub0 [.sl (.int .u32)] (
    .loop [.int .i64, .sl (.int .u32)] [.c (.int .i64 0), .c .nil] (
     .prim (.fld 1) [.v 0] <|
     .prim .len [.v 7] <|
     .prim (.bin .lss) [.v 5, .v 8] <|
     .ite (.v 9) (
      .prim (.fld 1) [.v 0] <|
      .prim .get [.v 10, .v 5] <|
      .prim (.fld 0) [.v 0] <|
      .prim (.fld 2) [.v 0] <|
      .prim (.bin .sub) [.v 13, .c (.int .i64 1)] <|
      .call 72 F_r07_column [.v 12, .v 5, .v 14] 1 <|
      .prim (.bin .xor) [.v 11, .v 15] <|
      .mkL (.int .u32) [.v 16] <|
      .prim (.app 4) [.v 6, .v 17] <|
      .prim (.bin .add) [.v 5, .c (.int .i64 1)] <|
      .jmp 0 true [.v 19, .v 18]) (
      .jmp 1 false [.v 6]))) 1 <|
   .prim (.fld 2) [.v 0] <|
   .prim (.bin .sub) [.v 6, .c (.int .i64 1)] <|
   .call 71 F_r07_with [.v 0, .v 7, .v 5] 1 <|
   .prim (.setf 2) [.v 8, .c (.int .i64 0)] <|
   .jmp 0 false [.v 9, .c (.int .i64 0)]))
theorem a_r07_Rebuild : treeOf cx 12 35 = some A_r07_Rebuild.erase := by kernel_rfl
theorem k_r07_Rebuild : FnOk cx 12 noC 35 F_r07_Rebuild := fn_ok (t := A_r07_Rebuild) a_r07_Rebuild (fun _ => rfl) (ok_of [(39, F_r07_Right), (72, F_r07_column), (71, F_r07_with)] (by kernel_rfl) (.cons k_r07_Right (.cons k_r07_column (.cons k_r07_with .nil)))) (fun x => by kernel_rfl)

/-! 68: backstay/parity.has -/
noncomputable def parity_has (p0 : Banks) (p1 : Int) : Option Bool :=
  (
    (parity_Right p0).bind fun v2 =>
    if v2 then
      if decide ((0 : Int) ≤ p1) then
        some ((decide (p1 < (List.length (Banks.Rows p0) : Int))))
      else
        some (false)
    else
      some (false) : Option Bool).bind fun v2 =>
  some (v2)
noncomputable def F_parity_has : FnT := ⟨[tBanks, .int .i64], [.bool], fun x => parity_has x.1 x.2⟩
noncomputable def A_parity_has : TA :=
 .sub0 [.bool] (
  .call 38 F_parity_Right [.v 0] 1 <|
  .ite (.v 2) (
   .prim (.bin .geq) [.v 1, .c (.int .i64 0)] <|
   .ite (.v 3) (
    .prim (.fld 0) [.v 0] <|
    .prim .len [.v 4] <|
    .prim (.bin .lss) [.v 1, .v 5] <|
    .jmp 0 false [.v 6]) (
    .jmp 0 false [.c (.bool false)])) (
   .jmp 0 false [.c (.bool false)])) 1 <|
 .jmp 0 false [.v 2]
theorem a_parity_has : treeOf cx 12 68 = some A_parity_has.erase := by kernel_rfl
theorem k_parity_has : FnOk cx 12 noC 68 F_parity_has := fn_ok (t := A_parity_has) a_parity_has (fun _ => rfl) (ok_of [(38, F_parity_Right)] (by kernel_rfl) (.cons k_parity_Right .nil)) (fun x => by kernel_rfl)

/-! 69: backstay/backstayref07.has -/
noncomputable def r07_has (p0 : Banks) (p1 : Int) : Option Bool :=
  (
    (r07_Right p0).bind fun v2 =>
    if v2 then
      if decide ((0 : Int) ≤ p1) then
        some ((decide (p1 < (List.length (Banks.Rows p0) : Int))))
      else
        some (false)
    else
      some (false) : Option Bool).bind fun v2 =>
  some (v2)
noncomputable def F_r07_has : FnT := ⟨[tBanks, .int .i64], [.bool], fun x => r07_has x.1 x.2⟩
noncomputable def A_r07_has : TA :=
 .sub0 [.bool] (
  .call 39 F_r07_Right [.v 0] 1 <|
  .ite (.v 2) (
   .prim (.bin .geq) [.v 1, .c (.int .i64 0)] <|
   .ite (.v 3) (
    .prim (.fld 0) [.v 0] <|
    .prim .len [.v 4] <|
    .prim (.bin .lss) [.v 1, .v 5] <|
    .jmp 0 false [.v 6]) (
    .jmp 0 false [.c (.bool false)])) (
   .jmp 0 false [.c (.bool false)])) 1 <|
 .jmp 0 false [.v 2]
theorem a_r07_has : treeOf cx 12 69 = some A_r07_has.erase := by kernel_rfl
theorem k_r07_has : FnOk cx 12 noC 69 F_r07_has := fn_ok (t := A_r07_has) a_r07_has (fun _ => rfl) (ok_of [(39, F_r07_Right)] (by kernel_rfl) (.cons k_r07_Right .nil)) (fun x => by kernel_rfl)

/-! 27: backstay/parity.Read -/
noncomputable def parity_Read (p0 : Banks) (p1 : Int) (p2 : Int) : Option (Int × Int) :=
  (
    (parity_has p0 p1).bind fun v3 =>
    if !v3 then
      some (true)
    else
      if decide (p2 < (0 : Int)) then
        some (true)
      else
        some ((decide ((List.length (Banks.Par p0) : Int) ≤ p2))) : Option Bool).bind fun v3 =>
  if v3 then
    some (((0 : Int), (1 : Int)))
  else
    if decide ((Banks.Lost p0) = (w64 (p1 + (1 : Int)))) then
      some (((0 : Int), (8 : Int)))
    else
      (getO (Banks.Rows p0) p1).bind fun v8 =>
      (getO v8 p2).bind fun v9 =>
      some ((v9, (0 : Int)))
noncomputable def F_parity_Read : FnT := ⟨[tBanks, .int .i64, .int .i64], [.int .u32, .int .i64], fun x => parity_Read x.1 x.2.1 x.2.2⟩
noncomputable def A_parity_Read : TA :=
 .sub0 [.bool] (
  .call 68 F_parity_has [.v 0, .v 1] 1 <|
  .prim (.un .not) [.v 3] <|
  .ite (.v 4) (
   .jmp 0 false [.c (.bool true)]) (
   .prim (.bin .lss) [.v 2, .c (.int .i64 0)] <|
   .ite (.v 5) (
    .jmp 0 false [.c (.bool true)]) (
    .prim (.fld 1) [.v 0] <|
    .prim .len [.v 6] <|
    .prim (.bin .geq) [.v 2, .v 7] <|
    .jmp 0 false [.v 8]))) 1 <|
 .ite (.v 3) (
  .jmp 0 false [.c (.int .u32 0), .c (.int .i64 1)]) (
  .prim (.fld 2) [.v 0] <|
  .prim (.bin .add) [.v 1, .c (.int .i64 1)] <|
  .prim (.bin .eql) [.v 4, .v 5] <|
  .ite (.v 6) (
   .jmp 0 false [.c (.int .u32 0), .c (.int .i64 8)]) (
   .prim (.fld 0) [.v 0] <|
   .prim .get [.v 7, .v 1] <|
   .prim .get [.v 8, .v 2] <|
   .jmp 0 false [.v 9, .c (.int .i64 0)]))
theorem a_parity_Read : treeOf cx 12 27 = some A_parity_Read.erase := by kernel_rfl
theorem k_parity_Read : FnOk cx 12 noC 27 F_parity_Read := fn_ok (t := A_parity_Read) a_parity_Read (fun _ => rfl) (ok_of [(68, F_parity_has)] (by kernel_rfl) (.cons k_parity_has .nil)) (fun x => by kernel_rfl)

/-! 28: backstay/backstayref07.Read -/
noncomputable def r07_Read (p0 : Banks) (p1 : Int) (p2 : Int) : Option (Int × Int) :=
  (
    (r07_has p0 p1).bind fun v3 =>
    if !v3 then
      some (true)
    else
      if decide (p2 < (0 : Int)) then
        some (true)
      else
        some ((decide ((List.length (Banks.Par p0) : Int) ≤ p2))) : Option Bool).bind fun v3 =>
  if v3 then
    some (((0 : Int), (1 : Int)))
  else
    if decide ((Banks.Lost p0) = (w64 (p1 + (1 : Int)))) then
      some (((0 : Int), (8 : Int)))
    else
      (getO (Banks.Rows p0) p1).bind fun v8 =>
      (getO v8 p2).bind fun v9 =>
      some ((v9, (0 : Int)))
noncomputable def F_r07_Read : FnT := ⟨[tBanks, .int .i64, .int .i64], [.int .u32, .int .i64], fun x => r07_Read x.1 x.2.1 x.2.2⟩
noncomputable def A_r07_Read : TA :=
 .sub0 [.bool] (
  .call 69 F_r07_has [.v 0, .v 1] 1 <|
  .prim (.un .not) [.v 3] <|
  .ite (.v 4) (
   .jmp 0 false [.c (.bool true)]) (
   .prim (.bin .lss) [.v 2, .c (.int .i64 0)] <|
   .ite (.v 5) (
    .jmp 0 false [.c (.bool true)]) (
    .prim (.fld 1) [.v 0] <|
    .prim .len [.v 6] <|
    .prim (.bin .geq) [.v 2, .v 7] <|
    .jmp 0 false [.v 8]))) 1 <|
 .ite (.v 3) (
  .jmp 0 false [.c (.int .u32 0), .c (.int .i64 1)]) (
  .prim (.fld 2) [.v 0] <|
  .prim (.bin .add) [.v 1, .c (.int .i64 1)] <|
  .prim (.bin .eql) [.v 4, .v 5] <|
  .ite (.v 6) (
   .jmp 0 false [.c (.int .u32 0), .c (.int .i64 8)]) (
   .prim (.fld 0) [.v 0] <|
   .prim .get [.v 7, .v 1] <|
   .prim .get [.v 8, .v 2] <|
   .jmp 0 false [.v 9, .c (.int .i64 0)]))
theorem a_r07_Read : treeOf cx 12 28 = some A_r07_Read.erase := by kernel_rfl
theorem k_r07_Read : FnOk cx 12 noC 28 F_r07_Read := fn_ok (t := A_r07_Read) a_r07_Read (fun _ => rfl) (ok_of [(69, F_r07_has)] (by kernel_rfl) (.cons k_r07_has .nil)) (fun x => by kernel_rfl)

/-! 29: backstay/parity.Write -/
noncomputable def parity_Write_L1 (x7 : List (List Int)) (x8 : Int) (s : (Int × (List (List Int)))) : Option ((Int × (List (List Int))) ⊕ (List (List Int))) :=
  if decide (s.1 < x8) then
    (getO x7 s.1).bind fun v12 =>
    (cloneO 4 v12).bind fun v13 =>
    (appO 24 s.2 ([v13] : List (List Int))).bind fun v15 =>
    some (Sum.inl (w64 (s.1 + (1 : Int)), v15))
  else
    some (Sum.inr (s.2))
noncomputable def parity_Write (p0 : Banks) (p1 : Int) (p2 : Int) (p3 : Int) : Option (Banks × Int) :=
  (
    (cloneO 4 (Banks.Par p0)).bind fun v5 =>
    let v8 : Int := (List.length (Banks.Rows p0) : Int)
    (
      loopD (parity_Write_L1 (Banks.Rows p0) v8) ((0 : Int), ([] : List (List Int))) : Option (List (List Int))).bind fun v9 =>
    some ((Banks.Lost p0, v9, v5)) : Option (Int × (List (List Int)) × (List Int))).bind fun v4 =>
  (
    (parity_has p0 p1).bind fun v7 =>
    if !v7 then
      some (true)
    else
      if decide (p2 < (0 : Int)) then
        some (true)
      else
        some ((decide ((List.length (Banks.Par p0) : Int) ≤ p2))) : Option Bool).bind fun v7 =>
  if v7 then
    some ((Banks.mk v4.2.1 v4.2.2 v4.1, (1 : Int)))
  else
    if decide ((0 : Int) < (Banks.Lost p0)) then
      some ((Banks.mk v4.2.1 v4.2.2 v4.1, (8 : Int)))
    else
      (idxO (List.length v4.2.2 : Int) p2).bind fun v10 =>
      (getO v4.2.2 v10).bind fun v11 =>
      (idxO (List.length v4.2.1 : Int) p1).bind fun v12 =>
      (idxO (List.length v4.2.1 : Int) v12).bind fun v13 =>
      (getO v4.2.1 v13).bind fun v14 =>
      (idxO (List.length v14 : Int) p2).bind fun v15 =>
      (getO v4.2.1 v13).bind fun v16 =>
      (getO v16 v15).bind fun v17 =>
      (idxO (List.length v4.2.2 : Int) p2).bind fun v20 =>
      (setO v4.2.2 v20 (bXor .u32 v11 (bXor .u32 v17 p3))).bind fun v21 =>
      (idxO (List.length v4.2.1 : Int) p1).bind fun v22 =>
      (idxO (List.length v4.2.1 : Int) v22).bind fun v23 =>
      (getO v4.2.1 v23).bind fun v24 =>
      (idxO (List.length v24 : Int) p2).bind fun v25 =>
      (getO v4.2.1 v23).bind fun v26 =>
      (setO v26 v25 p3).bind fun v27 =>
      (setO v4.2.1 v23 v27).bind fun v28 =>
      some ((Banks.mk v28 v21 v4.1, (0 : Int)))
noncomputable def F_parity_Write : FnT := ⟨[tBanks, .int .i64, .int .i64, .int .u32], [tBanks, .int .i64], fun x => parity_Write x.1 x.2.1 x.2.2.1 x.2.2.2⟩
noncomputable def A_parity_Write : TA :=
 .sub0 [.int .i64, .sl (.sl (.int .u32)), .sl (.int .u32)] (
  .prim (.fld 1) [.v 0] <|
  .prim (.clone 4) [.v 4] <|
  .prim (.fld 2) [.v 0] <|
  .prim (.fld 0) [.v 0] <|
  .prim .len [.v 7] <|
  .sub0 [.sl (.sl (.int .u32))] (
   .loop [.int .i64, .sl (.sl (.int .u32))] [.c (.int .i64 0), .c .nil] (
    .prim (.bin .lss) [.v 9, .v 8] <|
    .ite (.v 11) (
     .prim .get [.v 7, .v 9] <|
     .prim (.clone 4) [.v 12] <|
     .mkL (.sl (.int .u32)) [.v 13] <|
     .prim (.app 24) [.v 10, .v 14] <|
     .prim (.bin .add) [.v 9, .c (.int .i64 1)] <|
     .jmp 0 true [.v 16, .v 15]) (
     .jmp 1 false [.v 10]))) 1 <|
  .jmp 0 false [.v 6, .v 9, .v 5]) 3 <|
 .sub0 [.bool] (
  .call 68 F_parity_has [.v 0, .v 1] 1 <|
  .prim (.un .not) [.v 7] <|
  .ite (.v 8) (
   .jmp 0 false [.c (.bool true)]) (
   .prim (.bin .lss) [.v 2, .c (.int .i64 0)] <|
   .ite (.v 9) (
    .jmp 0 false [.c (.bool true)]) (
    .prim (.fld 1) [.v 0] <|
    .prim .len [.v 10] <|
    .prim (.bin .geq) [.v 2, .v 11] <|
    .jmp 0 false [.v 12]))) 1 <|
 .ite (.v 7) (
  .mkS tsBanks [.v 5, .v 6, .v 4] <|
  .jmp 0 false [.v 8, .c (.int .i64 1)]) (
  .prim (.fld 2) [.v 0] <|
  .prim (.bin .gtr) [.v 8, .c (.int .i64 0)] <|
  .ite (.v 9) (
   .mkS tsBanks [.v 5, .v 6, .v 4] <|
   .jmp 0 false [.v 10, .c (.int .i64 8)]) (
   .prim .idx [.v 6, .v 2] <|
   .prim .get [.v 6, .v 10] <|
   .prim .idx [.v 5, .v 1] <|
   .prim .idx [.v 5, .v 12] <|
   .prim .get [.v 5, .v 13] <|
   .prim .idx [.v 14, .v 2] <|
   .prim .get [.v 5, .v 13] <|
   .prim .get [.v 16, .v 15] <|
   .prim (.bin .xor) [.v 17, .v 3] <|
   .prim (.bin .xor) [.v 11, .v 18] <|
   .prim .idx [.v 6, .v 2] <|
   .prim .set [.v 6, .v 20, .v 19] <|
   .prim .idx [.v 5, .v 1] <|
   .prim .idx [.v 5, .v 22] <|
   .prim .get [.v 5, .v 23] <|
   .prim .idx [.v 24, .v 2] <|
   .prim .get [.v 5, .v 23] <|
   .prim .set [.v 26, .v 25, .v 3] <|
   .prim .set [.v 5, .v 23, .v 27] <|
   .mkS tsBanks [.v 28, .v 21, .v 4] <|
   .jmp 0 false [.v 29, .c (.int .i64 0)]))
theorem a_parity_Write : treeOf cx 12 29 = some A_parity_Write.erase := by kernel_rfl
theorem k_parity_Write : FnOk cx 12 noC 29 F_parity_Write := fn_ok (t := A_parity_Write) a_parity_Write (fun _ => rfl) (ok_of [(68, F_parity_has)] (by kernel_rfl) (.cons k_parity_has .nil)) (fun x => by kernel_rfl)

/-! 30: backstay/backstayref07.Write -/
noncomputable def r07_Write (p0 : Banks) (p1 : Int) (p2 : Int) (p3 : Int) : Option (Banks × Int) :=
  (
    (r07_has p0 p1).bind fun v4 =>
    if !v4 then
      some (true)
    else
      if decide (p2 < (0 : Int)) then
        some (true)
      else
        some ((decide ((List.length (Banks.Par p0) : Int) ≤ p2))) : Option Bool).bind fun v4 =>
  if v4 then
    some ((p0, (1 : Int)))
  else
    if !decide ((Banks.Lost p0) = (0 : Int)) then
      some ((p0, (8 : Int)))
    else
      (getO (Banks.Rows p0) p1).bind fun v8 =>
      (appO 4 ([] : List Int) v8).bind fun v9 =>
      (idxO (List.length v9 : Int) p2).bind fun v10 =>
      (setO v9 v10 p3).bind fun v11 =>
      (r07_with p0 p1 v11).bind fun v12 =>
      (appO 4 ([] : List Int) (Banks.Par v12)).bind fun v14 =>
      (r07_column (Banks.Rows v12) p2 (-1 : Int)).bind fun v16 =>
      (idxO (List.length v14 : Int) p2).bind fun v17 =>
      (setO v14 v17 v16).bind fun v18 =>
      some ((Banks.mk (Banks.Rows v12) v18 (Banks.Lost v12), (0 : Int)))
noncomputable def F_r07_Write : FnT := ⟨[tBanks, .int .i64, .int .i64, .int .u32], [tBanks, .int .i64], fun x => r07_Write x.1 x.2.1 x.2.2.1 x.2.2.2⟩
noncomputable def A_r07_Write : TA :=
 .sub0 [.bool] (
  .call 69 F_r07_has [.v 0, .v 1] 1 <|
  .prim (.un .not) [.v 4] <|
  .ite (.v 5) (
   .jmp 0 false [.c (.bool true)]) (
   .prim (.bin .lss) [.v 2, .c (.int .i64 0)] <|
   .ite (.v 6) (
    .jmp 0 false [.c (.bool true)]) (
    .prim (.fld 1) [.v 0] <|
    .prim .len [.v 7] <|
    .prim (.bin .geq) [.v 2, .v 8] <|
    .jmp 0 false [.v 9]))) 1 <|
 .ite (.v 4) (
  .jmp 0 false [.v 0, .c (.int .i64 1)]) (
  .prim (.fld 2) [.v 0] <|
  .prim (.bin .neq) [.v 5, .c (.int .i64 0)] <|
  .ite (.v 6) (
   .jmp 0 false [.v 0, .c (.int .i64 8)]) (
   .prim (.fld 0) [.v 0] <|
   .prim .get [.v 7, .v 1] <|
   .primH (.app 4) (.sl (.int .u32)) [.c (.sl []), .v 8] <|
   .prim .idx [.v 9, .v 2] <|
   .prim .set [.v 9, .v 10, .v 3] <|
   .call 71 F_r07_with [.v 0, .v 1, .v 11] 1 <|
   .prim (.fld 1) [.v 12] <|
   .primH (.app 4) (.sl (.int .u32)) [.c (.sl []), .v 13] <|
   .prim (.fld 0) [.v 12] <|
   .call 72 F_r07_column [.v 15, .v 2, .c (.int .i64 (-1))] 1 <|
   .prim .idx [.v 14, .v 2] <|
   .prim .set [.v 14, .v 17, .v 16] <|
   .prim (.fld 0) [.v 12] <|
   .prim (.fld 1) [.v 12] <|
   .prim (.fld 2) [.v 12] <|
   .mkS tsBanks [.v 19, .v 18, .v 21] <|
   .jmp 0 false [.v 22, .c (.int .i64 0)]))
theorem a_r07_Write : treeOf cx 12 30 = some A_r07_Write.erase := by kernel_rfl
theorem k_r07_Write : FnOk cx 12 noC 30 F_r07_Write := fn_ok (t := A_r07_Write) a_r07_Write (fun _ => rfl) (ok_of [(69, F_r07_has), (71, F_r07_with), (72, F_r07_column)] (by kernel_rfl) (.cons k_r07_has (.cons k_r07_with (.cons k_r07_column .nil)))) (fun x => by kernel_rfl)

/-! 32: backstay/parity.Lose -/
noncomputable def parity_Lose_L1 (x5 : List (List Int)) (x6 : Int) (s : (Int × (List (List Int)))) : Option ((Int × (List (List Int))) ⊕ (List (List Int))) :=
  if decide (s.1 < x6) then
    (getO x5 s.1).bind fun v10 =>
    (cloneO 4 v10).bind fun v11 =>
    (appO 24 s.2 ([v11] : List (List Int))).bind fun v13 =>
    some (Sum.inl (w64 (s.1 + (1 : Int)), v13))
  else
    some (Sum.inr (s.2))
noncomputable def parity_Lose (p0 : Banks) (p1 : Int) : Option (Banks × Int) :=
  (
    (cloneO 4 (Banks.Par p0)).bind fun v3 =>
    let v6 : Int := (List.length (Banks.Rows p0) : Int)
    (
      loopD (parity_Lose_L1 (Banks.Rows p0) v6) ((0 : Int), ([] : List (List Int))) : Option (List (List Int))).bind fun v7 =>
    some ((Banks.Lost p0, v7, v3)) : Option (Int × (List (List Int)) × (List Int))).bind fun v2 =>
  (parity_has p0 p1).bind fun v5 =>
  if !v5 then
    some ((Banks.mk v2.2.1 v2.2.2 v2.1, (1 : Int)))
  else
    if decide ((0 : Int) < (Banks.Lost p0)) then
      some ((Banks.mk v2.2.1 v2.2.2 v2.1, (8 : Int)))
    else
      (idxO (List.length v2.2.1 : Int) p1).bind fun v9 =>
      (idxO (List.length v2.2.1 : Int) v9).bind fun v10 =>
      (getO v2.2.1 v10).bind fun v11 =>
      (setO v2.2.1 v10 (List.replicate (List.length v11) (0 : Int))).bind fun v13 =>
      some ((Banks.mk v13 v2.2.2 (w64 (p1 + (1 : Int))), (0 : Int)))
noncomputable def F_parity_Lose : FnT := ⟨[tBanks, .int .i64], [tBanks, .int .i64], fun x => parity_Lose x.1 x.2⟩
noncomputable def A_parity_Lose : TA :=
 .sub0 [.int .i64, .sl (.sl (.int .u32)), .sl (.int .u32)] (
  .prim (.fld 1) [.v 0] <|
  .prim (.clone 4) [.v 2] <|
  .prim (.fld 2) [.v 0] <|
  .prim (.fld 0) [.v 0] <|
  .prim .len [.v 5] <|
  .sub0 [.sl (.sl (.int .u32))] (
   .loop [.int .i64, .sl (.sl (.int .u32))] [.c (.int .i64 0), .c .nil] (
    .prim (.bin .lss) [.v 7, .v 6] <|
    .ite (.v 9) (
     .prim .get [.v 5, .v 7] <|
     .prim (.clone 4) [.v 10] <|
     .mkL (.sl (.int .u32)) [.v 11] <|
     .prim (.app 24) [.v 8, .v 12] <|
     .prim (.bin .add) [.v 7, .c (.int .i64 1)] <|
     .jmp 0 true [.v 14, .v 13]) (
     .jmp 1 false [.v 8]))) 1 <|
  .jmp 0 false [.v 4, .v 7, .v 3]) 3 <|
 .call 68 F_parity_has [.v 0, .v 1] 1 <|
 .prim (.un .not) [.v 5] <|
 .ite (.v 6) (
  .mkS tsBanks [.v 3, .v 4, .v 2] <|
  .jmp 0 false [.v 7, .c (.int .i64 1)]) (
  .prim (.fld 2) [.v 0] <|
  .prim (.bin .gtr) [.v 7, .c (.int .i64 0)] <|
  .ite (.v 8) (
   .mkS tsBanks [.v 3, .v 4, .v 2] <|
   .jmp 0 false [.v 9, .c (.int .i64 8)]) (
   .prim .idx [.v 3, .v 1] <|
   .prim .idx [.v 3, .v 9] <|
   .prim .get [.v 3, .v 10] <|
   .prim (.clr (.int .u32 0)) [.v 11] <|
   .prim .set [.v 3, .v 10, .v 12] <|
   .prim (.bin .add) [.v 1, .c (.int .i64 1)] <|
   .mkS tsBanks [.v 13, .v 4, .v 14] <|
   .jmp 0 false [.v 15, .c (.int .i64 0)]))
theorem a_parity_Lose : treeOf cx 12 32 = some A_parity_Lose.erase := by kernel_rfl
theorem k_parity_Lose : FnOk cx 12 noC 32 F_parity_Lose := fn_ok (t := A_parity_Lose) a_parity_Lose (fun _ => rfl) (ok_of [(68, F_parity_has)] (by kernel_rfl) (.cons k_parity_has .nil)) (fun x => by kernel_rfl)

/-! 33: backstay/backstayref07.Lose -/
noncomputable def r07_Lose (p0 : Banks) (p1 : Int) : Option (Banks × Int) :=
  (r07_has p0 p1).bind fun v2 =>
  if !v2 then
    some ((p0, (1 : Int)))
  else
    if !decide ((Banks.Lost p0) = (0 : Int)) then
      some ((p0, (8 : Int)))
    else
      let v7 : Int := (List.length (Banks.Par p0) : Int)
      (repO (0 : Int) 4 v7 v7).bind fun v8 =>
      (r07_with p0 p1 v8).bind fun v9 =>
      some ((Banks.setLost v9 (w64 (p1 + (1 : Int))), (0 : Int)))
noncomputable def F_r07_Lose : FnT := ⟨[tBanks, .int .i64], [tBanks, .int .i64], fun x => r07_Lose x.1 x.2⟩
noncomputable def A_r07_Lose : TA :=
 .call 69 F_r07_has [.v 0, .v 1] 1 <|
 .prim (.un .not) [.v 2] <|
 .ite (.v 3) (
  .jmp 0 false [.v 0, .c (.int .i64 1)]) (
  .prim (.fld 2) [.v 0] <|
  .prim (.bin .neq) [.v 4, .c (.int .i64 0)] <|
  .ite (.v 5) (
   .jmp 0 false [.v 0, .c (.int .i64 8)]) (
   .prim (.fld 1) [.v 0] <|
   .prim .len [.v 6] <|
   .primH (.rep (.int .u32 0) 4) (.sl (.int .u32)) [.v 7, .v 7] <|
   .call 71 F_r07_with [.v 0, .v 1, .v 8] 1 <|
   .prim (.bin .add) [.v 1, .c (.int .i64 1)] <|
   .prim (.setf 2) [.v 9, .v 10] <|
   .jmp 0 false [.v 11, .c (.int .i64 0)]))
theorem a_r07_Lose : treeOf cx 12 33 = some A_r07_Lose.erase := by kernel_rfl
theorem k_r07_Lose : FnOk cx 12 noC 33 F_r07_Lose := fn_ok (t := A_r07_Lose) a_r07_Lose (fun _ => rfl) (ok_of [(69, F_r07_has), (71, F_r07_with)] (by kernel_rfl) (.cons k_r07_has (.cons k_r07_with .nil))) (fun x => by kernel_rfl)

/-! 25: backstay/backstaylaw07.awake -/
def l07_awake : Bool := true
def F_l07_awake : PnT := ⟨[], [.bool], fun _ => l07_awake⟩
theorem k_l07_awake : FnOk cx 12 noC 25 F_l07_awake.fn := fun ds x r hx hr => by
  have hx : ds = [] := hx
  subst hx
  exact ⟨[.bool true], call_now 100 12 (by kernel_rfl), .bool true, rfl, congrArg D.bool (Option.some.inj hr)⟩

end Go.Proofs.Ytflnpiknckdmfaa
