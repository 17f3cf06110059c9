/- More functions of this cut as functions of plain typed data. Printed by a program of this claim's prover; each is checked here to be what the executor makes of the code. -/
import Derived.Test.YtihchahfnhoapaaD042
set_option linter.unusedVariables false
set_option maxRecDepth 100000
namespace Go.Proofs.Ytihchahfnhoapaa
open Go.SX
/-! 9: backstay/backstaylaw04.AtomReplays -/
noncomputable def l04_AtomReplays_L1 (x15 : List Core) (x23 : Int) (x27 : Atom) (s : Int) : Option (Int ⊕ Unit ⊕ (Int × (List Int) × (List Core) × (List Told) × (List Int)) ⊕ ((List Int) × (List Core) × (List Told) × (List Int)) ⊕ Bool) :=
  if decide (s < (List.length x15 : Int)) then
    (
      if !decide (s = x23) then
        (getO x15 s).bind fun v35 =>
        (getO (Atom.Cores x27) s).bind fun v37 =>
        some ((!(@decide (v35 = v37) (Ty.dec tCore _ _))))
      else
        some (false) : Option Bool).bind fun v34 =>
    if v34 then
      some (Sum.inr (Sum.inr (Sum.inr (Sum.inr (false)))))
    else
      some (Sum.inl (w64 (s + (1 : Int))))
  else
    some (Sum.inr (Sum.inl ()))
noncomputable def l04_AtomReplays_L2 (x14 : List Int) (x27 : Atom) (s : (Int × Int)) : Option ((Int × Int) ⊕ Int) :=
  if decide (s.2 < (List.length x14 : Int)) then
    (getO x14 s.2).bind fun v34 =>
    (getO (Atom.Mem x27) s.2).bind fun v36 =>
    some (Sum.inl (bif !decide (v34 = v36) then w64 (s.1 + (1 : Int)) else s.1, w64 (s.2 + (1 : Int))))
  else
    some (Sum.inr (s.1))
noncomputable def l04_AtomReplays_L3 (x0 : List (List Ins)) (x2 : List Int) (s : (Int × (List Int) × (List Core) × (List Told) × (List Int))) : Option ((Int × (List Int) × (List Core) × (List Told) × (List Int)) ⊕ ((List Int) × (List Core) × (List Told) × (List Int)) ⊕ Bool) :=
  if decide (s.1 < (List.length x2 : Int)) then
    (getO x2 s.1).bind fun v20 =>
    (remO (w64 v20) (List.length x0 : Int)).bind fun v23 =>
    (appO 8 s.2.2.2.2 ([v23] : List Int)).bind fun v25 =>
    (atom_Step x0 (Atom.mk s.2.1 s.2.2.1 s.2.2.2.1) v23).bind fun v27 =>
    (
      if !decide (v27.2 = (0 : Int)) then
        some (true)
      else
        if decide ((List.length (Atom.Outs v27.1) : Int) < (List.length s.2.2.2.1 : Int)) then
          some (true)
        else
          if decide ((w64 ((List.length s.2.2.2.1 : Int) + (1 : Int))) < (List.length (Atom.Outs v27.1) : Int)) then
            some (true)
          else
            (subO (Atom.Outs v27.1) (0 : Int) (List.length s.2.2.2.1 : Int)).bind fun v42 =>
            (r04_Outs s.2.2.2.1 v42).bind fun v43 =>
            if !v43 then
              some (true)
            else
              (atom_Over (Atom.mk s.2.1 s.2.2.1 s.2.2.2.1)).bind fun v46 =>
              if v46 then
                (r04_Same (Atom.mk s.2.1 s.2.2.1 s.2.2.2.1) v27.1).bind fun v48 =>
                some ((!v48))
              else
                some (false) : Option Bool).bind fun v29 =>
    if v29 then
      some (Sum.inr (Sum.inr (false)))
    else
      (
        loopD (l04_AtomReplays_L2 s.2.1 v27.1) ((0 : Int), (0 : Int)) : Option Int).bind fun v30 =>
      orExit (
        loopD (l04_AtomReplays_L1 s.2.2.1 v23 v27.1) (0 : Int) : Option (Unit ⊕ (Int × (List Int) × (List Core) × (List Told) × (List Int)) ⊕ ((List Int) × (List Core) × (List Told) × (List Int)) ⊕ Bool)) fun v31 =>
      (
        if decide ((1 : Int) < v30) then
          some (true)
        else
          (getO s.2.2.1 v23).bind fun v32 =>
          if Core.Halted v32 then
            (getO s.2.2.1 v23).bind fun v34 =>
            (getO (Atom.Cores v27.1) v23).bind fun v36 =>
            some ((!(@decide (v34 = v36) (Ty.dec tCore _ _))))
          else
            some (false) : Option Bool).bind fun v31 =>
      if v31 then
        some (Sum.inr (Sum.inr (false)))
      else
        some (Sum.inl (w64 (s.1 + (1 : Int)), Atom.Mem v27.1, Atom.Cores v27.1, Atom.Outs v27.1, v25))
  else
    some (Sum.inr (Sum.inl (s.2.1, s.2.2.1, s.2.2.2.1, s.2.2.2.2)))
noncomputable def l04_AtomReplays (p0 : List (List Ins)) (p1 : Int) (p2 : List Int) : Option Bool :=
  if !l04_awake then
    some (false)
  else
    (
      (r02_Short p0).bind fun v5 =>
      if !v5 then
        some (true)
      else
        some ((decide ((150 : Int) < (List.length p2 : Int)))) : Option Bool).bind fun v5 =>
    if v5 then
      some (true)
    else
      (remO p1 (64 : Int)).bind fun v6 =>
      let v8 : Int := w64 ((w64 v6) + (1 : Int))
      (
        (
          (isa_All p0).bind fun v9 =>
          if !v9 then
            some (true)
          else
            if decide (v8 < (1 : Int)) then
              some (true)
            else
              some ((decide ((64 : Int) < v8))) : Option Bool).bind fun v9 =>
        if v9 then
          some (((1 : Int), ([] : List Int), ([] : List Core)))
        else
          (repO (0 : Int) 4 v8 v8).bind fun v10 =>
          let v11 : Int := (List.length p0 : Int)
          (repO (Core.mk ([(0 : Int), (0 : Int), (0 : Int), (0 : Int), (0 : Int), (0 : Int), (0 : Int), (0 : Int)] : List Int) (0 : Int) false) 48 v11 v11).bind fun v12 =>
          some (((0 : Int), v10, v12)) : Option (Int × (List Int) × (List Core))).bind fun v9 =>
      if !decide (v9.1 = (0 : Int)) then
        some ((decide ((List.length v9.2.1 : Int) = (0 : Int))))
      else
        orExit (
          loopD (l04_AtomReplays_L3 p0 p2) ((0 : Int), v9.2.1, v9.2.2, ([] : List Told), ([] : List Int)) : Option (((List Int) × (List Core) × (List Told) × (List Int)) ⊕ Bool)) fun v13 =>
        (remO p1 (64 : Int)).bind fun v17 =>
        (atom_Run p0 (w64 ((w64 v17) + (1 : Int))) v13.2.2.2).bind fun v20 =>
        (
          if decide (v20.2 = (0 : Int)) then
            (r04_Same (Atom.mk v13.1 v13.2.1 v13.2.2.1) v20.1).bind fun v24 =>
            some (v24)
          else
            some (false) : Option Bool).bind fun v22 =>
        some (v22)
noncomputable def F_l04_AtomReplays : FnT := ⟨[.sl (.sl tIns), .int .u8, .sl (.int .u8)], [.bool], fun x => l04_AtomReplays x.1 x.2.1 x.2.2⟩
noncomputable def A_l04_AtomReplays : TA :=
 .callp 33 F_l04_awake [] 1 <|
 .prim (.un .not) [.v 3] <|
 .ite (.v 4) (
  .jmp 0 false [.c (.bool false)]) (
  .sub0 [.bool] (
   .call 34 F_r02_Short [.v 0] 1 <|
   .prim (.un .not) [.v 5] <|
   .ite (.v 6) (
    .jmp 0 false [.c (.bool true)]) (
    .prim .len [.v 2] <|
    .prim (.bin .gtr) [.v 7, .c (.int .i64 150)] <|
    .jmp 0 false [.v 8])) 1 <|
  .ite (.v 5) (
   .jmp 0 false [.c (.bool true)]) (
   .prim (.bin .rem) [.v 1, .c (.int .u8 64)] <|
   .prim (.conv .i64) [.v 6] <|
   .prim (.bin .add) [.v 7, .c (.int .i64 1)] <|
   .sub0 [.int .i64, .sl (.int .u32), .sl tCore] (
    .sub0 [.bool] (
     .call 93 F_isa_All [.v 0] 1 <|
     .prim (.un .not) [.v 9] <|
     .ite (.v 10) (
      .jmp 0 false [.c (.bool true)]) (
      .prim (.bin .lss) [.v 8, .c (.int .i64 1)] <|
      .ite (.v 11) (
       .jmp 0 false [.c (.bool true)]) (
       .prim (.bin .gtr) [.v 8, .c (.int .i64 64)] <|
       .jmp 0 false [.v 12]))) 1 <|
    .ite (.v 9) (
     .jmp 0 false [.c (.int .i64 1), .c .nil, .c .nil]) (
     .primH (.rep (.int .u32 0) 4) (.sl (.int .u32)) [.v 8, .v 8] <|
     .prim .len [.v 0] <|
     .primH (.rep (.agg [(.agg [(.int .u32 0), (.int .u32 0), (.int .u32 0), (.int .u32 0), (.int .u32 0), (.int .u32 0), (.int .u32 0), (.int .u32 0)]), (.int .i64 0), (.bool false)]) 48) (.sl tCore) [.v 11, .v 11] <|
     .jmp 0 false [.c (.int .i64 0), .v 10, .v 12])) 3 <|
   .prim (.bin .neq) [.v 9, .c (.int .i64 0)] <|
   .ite (.v 12) (
    .prim .len [.v 10] <|
    .prim (.bin .eql) [.v 13, .c (.int .i64 0)] <|
    .jmp 0 false [.v 14]) (
    .sub1 [.sl (.int .u32), .sl tCore, .sl tTold, .sl (.int .i64)] (
     .loop [.int .i64, .sl (.int .u32), .sl tCore, .sl tTold, .sl (.int .i64)] [.c (.int .i64 0), .v 10, .v 11, .c .nil, .c .nil] (
      .prim .len [.v 2] <|
      .prim (.bin .lss) [.v 13, .v 18] <|
      .ite (.v 19) (
       .prim .get [.v 2, .v 13] <|
       .prim (.conv .i64) [.v 20] <|
       .prim .len [.v 0] <|
       .prim (.bin .rem) [.v 21, .v 22] <|
       .mkL (.int .i64) [.v 23] <|
       .prim (.app 8) [.v 17, .v 24] <|
       .mkS tsAtom [.v 14, .v 15, .v 16] <|
       .call 54 F_atom_Step [.v 0, .v 26, .v 23] 2 <|
       .sub0 [.bool] (
        .prim (.bin .neq) [.v 28, .c (.int .i64 0)] <|
        .ite (.v 29) (
         .jmp 0 false [.c (.bool true)]) (
         .prim (.fld 2) [.v 27] <|
         .prim .len [.v 30] <|
         .prim .len [.v 16] <|
         .prim (.bin .lss) [.v 31, .v 32] <|
         .ite (.v 33) (
          .jmp 0 false [.c (.bool true)]) (
          .prim (.fld 2) [.v 27] <|
          .prim .len [.v 34] <|
          .prim .len [.v 16] <|
          .prim (.bin .add) [.v 36, .c (.int .i64 1)] <|
          .prim (.bin .gtr) [.v 35, .v 37] <|
          .ite (.v 38) (
           .jmp 0 false [.c (.bool true)]) (
           .prim (.fld 2) [.v 27] <|
           .prim .len [.v 16] <|
           .prim .len [.v 39] <|
           .prim .sub [.v 39, .c (.int .i64 0), .v 40] <|
           .call 55 F_r04_Outs [.v 16, .v 42] 1 <|
           .prim (.un .not) [.v 43] <|
           .ite (.v 44) (
            .jmp 0 false [.c (.bool true)]) (
            .mkS tsAtom [.v 14, .v 15, .v 16] <|
            .call 56 F_atom_Over [.v 45] 1 <|
            .ite (.v 46) (
             .mkS tsAtom [.v 14, .v 15, .v 16] <|
             .call 37 F_r04_Same [.v 47, .v 27] 1 <|
             .prim (.un .not) [.v 48] <|
             .jmp 0 false [.v 49]) (
             .jmp 0 false [.c (.bool false)])))))) 1 <|
       .ite (.v 29) (
        .jmp 2 false [.c (.bool false)]) (
        .sub0 [.int .i64] (
         .loop [.int .i64, .int .i64] [.c (.int .i64 0), .c (.int .i64 0)] (
          .prim .len [.v 14] <|
          .prim (.bin .lss) [.v 31, .v 32] <|
          .ite (.v 33) (
           .prim .get [.v 14, .v 31] <|
           .prim (.fld 0) [.v 27] <|
           .prim .get [.v 35, .v 31] <|
           .prim (.bin .neq) [.v 34, .v 36] <|
           .subp [.int .i64] (
            .ite (.v 37) (
             .prim (.bin .add) [.v 30, .c (.int .i64 1)] <|
             .jmp 0 false [.v 38]) (
             .jmp 0 false [.v 30])) 1 <|
           .prim (.bin .add) [.v 31, .c (.int .i64 1)] <|
           .jmp 0 true [.v 38, .v 39]) (
           .jmp 1 false [.v 30]))) 1 <|
        .sub1 [] (
         .loop [.int .i64] [.c (.int .i64 0)] (
          .prim .len [.v 15] <|
          .prim (.bin .lss) [.v 31, .v 32] <|
          .ite (.v 33) (
           .sub0 [.bool] (
            .prim (.bin .neq) [.v 31, .v 23] <|
            .ite (.v 34) (
             .prim .get [.v 15, .v 31] <|
             .prim (.fld 1) [.v 27] <|
             .prim .get [.v 36, .v 31] <|
             .prim .eqv [.v 35, .v 37] <|
             .prim (.un .not) [.v 38] <|
             .jmp 0 false [.v 39]) (
             .jmp 0 false [.c (.bool false)])) 1 <|
           .ite (.v 34) (
            .jmp 4 false [.c (.bool false)]) (
            .prim (.bin .add) [.v 31, .c (.int .i64 1)] <|
            .jmp 0 true [.v 35])) (
           .jmp 1 false []))) 0 <|
        .sub0 [.bool] (
         .prim (.bin .gtr) [.v 30, .c (.int .i64 1)] <|
         .ite (.v 31) (
          .jmp 0 false [.c (.bool true)]) (
          .prim .get [.v 15, .v 23] <|
          .prim (.fld 2) [.v 32] <|
          .ite (.v 33) (
           .prim .get [.v 15, .v 23] <|
           .prim (.fld 1) [.v 27] <|
           .prim .get [.v 35, .v 23] <|
           .prim .eqv [.v 34, .v 36] <|
           .prim (.un .not) [.v 37] <|
           .jmp 0 false [.v 38]) (
           .jmp 0 false [.c (.bool false)]))) 1 <|
        .ite (.v 31) (
         .jmp 2 false [.c (.bool false)]) (
         .prim (.bin .add) [.v 13, .c (.int .i64 1)] <|
         .prim (.fld 0) [.v 27] <|
         .prim (.fld 1) [.v 27] <|
         .prim (.fld 2) [.v 27] <|
         .jmp 0 true [.v 32, .v 33, .v 34, .v 35, .v 25]))) (
       .jmp 1 false [.v 14, .v 15, .v 16, .v 17]))) 4 <|
    .prim (.bin .rem) [.v 1, .c (.int .u8 64)] <|
    .prim (.conv .i64) [.v 17] <|
    .prim (.bin .add) [.v 18, .c (.int .i64 1)] <|
    .call 35 F_atom_Run [.v 0, .v 19, .v 16] 2 <|
    .sub0 [.bool] (
     .prim (.bin .eql) [.v 21, .c (.int .i64 0)] <|
     .ite (.v 22) (
      .mkS tsAtom [.v 13, .v 14, .v 15] <|
      .call 37 F_r04_Same [.v 23, .v 20] 1 <|
      .jmp 0 false [.v 24]) (
      .jmp 0 false [.c (.bool false)])) 1 <|
    .jmp 0 false [.v 22])))
theorem a_l04_AtomReplays : treeOf cx 12 9 = some A_l04_AtomReplays.erase := by kernel_rfl
theorem k_l04_AtomReplays : FnOk cx 12 noC 9 F_l04_AtomReplays := fn_ok (t := A_l04_AtomReplays) a_l04_AtomReplays (fun _ => rfl) (ok_of [(33, F_l04_awake.fn), (34, F_r02_Short), (93, F_isa_All), (54, F_atom_Step), (55, F_r04_Outs), (56, F_atom_Over), (37, F_r04_Same), (35, F_atom_Run), (37, F_r04_Same)] (by kernel_rfl) (.cons k_l04_awake (.cons k_r02_Short (.cons k_isa_All (.cons k_atom_Step (.cons k_r04_Outs (.cons k_atom_Over (.cons k_r04_Same (.cons k_atom_Run (.cons k_r04_Same .nil)))))))))) (fun x => by kernel_rfl)

end Go.Proofs.Ytihchahfnhoapaa
