/- More functions of this cut as functions of plain typed data. Printed by a program of this claim's prover; each is checked here to be what the executor makes of the code. -/
import Derived.Test.YtlgjbfdojbmmgaaD421
set_option linter.unusedVariables false
set_option maxRecDepth 100000
noncomputable section
namespace Go.Proofs.Ytlgjbfdojbmmgaa
open Go.SX
def zae (x7:List (List Int)) (x8:Int) (s:(Int×(List (List Int)))):Option ((Int×(List (List Int)))⊕(List (List Int))) :=
 if decide (s.1<x8) then
 (getO x7 s.1).bind fun v12=>(zaV 4 v12).bind fun v13=>(appO 24 s.2 ([v13]:List (List Int))).bind fun v15=>some (Sum.inl (w64 (s.1 + (1:Int)),v15))
 else
 some (Sum.inr (s.2))
def zby (p0:Banks) (p1:Int) (p2:Int) (p3:Int):Option (Banks×Int) :=
 ((zaV 4 (Banks.Par p0)).bind fun v5=>let v8:Int:=(List.length (Banks.Rows p0):Int)
 (zar (zae (Banks.Rows p0) v8) ((0:Int),([]:List (List Int))):Option (List (List Int))).bind fun v9=>some ((Banks.Lost p0,v9,v5)):Option (Int×(List (List Int))×(List Int))).bind fun v4=>((zdp p0 p1).bind fun v7=>if !v7 then
 some (true)
 else
 if decide (p2<(0:Int)) then
 some (true)
 else
 some ((decide ((List.length (Banks.Par p0):Int)≤p2))):Option Bool).bind fun v7=>if v7 then
 some ((Banks.mk v4.2.1 v4.2.2 v4.1,(1:Int)))
 else
 if decide ((0:Int)<(Banks.Lost p0)) then
 some ((Banks.mk v4.2.1 v4.2.2 v4.1,(8:Int)))
 else
 (idxO (List.length v4.2.2:Int) p2).bind fun v10=>(getO v4.2.2 v10).bind fun v11=>(idxO (List.length v4.2.1:Int) p1).bind fun v12=>(idxO (List.length v4.2.1:Int) v12).bind fun v13=>(getO v4.2.1 v13).bind fun v14=>(idxO (List.length v14:Int) p2).bind fun v15=>(getO v4.2.1 v13).bind fun v16=>(getO v16 v15).bind fun v17=>(idxO (List.length v4.2.2:Int) p2).bind fun v20=>(setO v4.2.2 v20 (bXor .u32 v11 (bXor .u32 v17 p3))).bind fun v21=>(idxO (List.length v4.2.1:Int) p1).bind fun v22=>(idxO (List.length v4.2.1:Int) v22).bind fun v23=>(getO v4.2.1 v23).bind fun v24=>(idxO (List.length v24:Int) p2).bind fun v25=>(getO v4.2.1 v23).bind fun v26=>(setO v26 v25 p3).bind fun v27=>(setO v4.2.1 v23 v27).bind fun v28=>some ((Banks.mk v28 v21 v4.1,(0:Int)))
def zbW:FnT:=⟨[zai,.int .i64,.int .i64,.int .u32],[zai,.int .i64],fun x=>zby x.1 x.2.1 x.2.2.1 x.2.2.2⟩
def zgQ:TA :=
 .sub0 [.int .i64,.sl (.sl (.int .u32)),.sl (.int .u32)] (.prim (.fld 1) [.v 0]<|.prim (.clone 4) [.v 4]<|.prim (.fld 2) [.v 0]<|.prim (.fld 0) [.v 0]<|.prim .len [.v 7]<|.sub0 [.sl (.sl (.int .u32))] (.loop [.int .i64,.sl (.sl (.int .u32))] [.c (.int .i64 0),.c .nil] (.prim (.bin .lss) [.v 9,.v 8]<|.ite (.v 11) (.prim .get [.v 7,.v 9]<|.prim (.clone 4) [.v 12]<|.mkL (.sl (.int .u32)) [.v 13]<|.prim (.app 24) [.v 10,.v 14]<|.prim (.bin .add) [.v 9,.c (.int .i64 1)]<|.jmp 0 true [.v 16,.v 15]) (.jmp 1 false [.v 10]))) 1<|.jmp 0 false [.v 6,.v 9,.v 5]) 3<|.sub0 [.bool] (.call 114 zbD [.v 0,.v 1] 1<|.prim (.un .not) [.v 7]<|.ite (.v 8) (.jmp 0 false [.c (.bool true)]) (.prim (.bin .lss) [.v 2,.c (.int .i64 0)]<|.ite (.v 9) (.jmp 0 false [.c (.bool true)]) (.prim (.fld 1) [.v 0]<|.prim .len [.v 10]<|.prim (.bin .geq) [.v 2,.v 11]<|.jmp 0 false [.v 12]))) 1<|.ite (.v 7) (.mkS zaD [.v 5,.v 6,.v 4]<|.jmp 0 false [.v 8,.c (.int .i64 1)]) (.prim (.fld 2) [.v 0]<|.prim (.bin .gtr) [.v 8,.c (.int .i64 0)]<|.ite (.v 9) (.mkS zaD [.v 5,.v 6,.v 4]<|.jmp 0 false [.v 10,.c (.int .i64 8)]) (.prim .idx [.v 6,.v 2]<|.prim .get [.v 6,.v 10]<|.prim .idx [.v 5,.v 1]<|.prim .idx [.v 5,.v 12]<|.prim .get [.v 5,.v 13]<|.prim .idx [.v 14,.v 2]<|.prim .get [.v 5,.v 13]<|.prim .get [.v 16,.v 15]<|.prim (.bin .xor) [.v 17,.v 3]<|.prim (.bin .xor) [.v 11,.v 18]<|.prim .idx [.v 6,.v 2]<|.prim .set [.v 6,.v 20,.v 19]<|.prim .idx [.v 5,.v 1]<|.prim .idx [.v 5,.v 22]<|.prim .get [.v 5,.v 23]<|.prim .idx [.v 24,.v 2]<|.prim .get [.v 5,.v 23]<|.prim .set [.v 26,.v 25,.v 3]<|.prim .set [.v 5,.v 23,.v 27]<|.mkS zaD [.v 28,.v 21,.v 4]<|.jmp 0 false [.v 29,.c (.int .i64 0)]))
theorem zms:zaj cx 12 110=some zgQ.erase:=by kernel_rfl
theorem zgM:FnOk cx 12 noC 110 zbW:=zaQ (t:=zgQ) zms (fun _=>rfl) (zaN [(114,zbD)] (by kernel_rfl) (.cons zfv .nil)) (fun x=>by kernel_rfl)
def zfD (p0:Banks) (p1:Int) (p2:Int) (p3:Int):Option (Banks×Int) :=
 ((ziQ p0 p1).bind fun v4=>if !v4 then
 some (true)
 else
 if decide (p2<(0:Int)) then
 some (true)
 else
 some ((decide ((List.length (Banks.Par p0):Int)≤p2))):Option Bool).bind fun v4=>if v4 then
 some ((p0,(1:Int)))
 else
 if !decide ((Banks.Lost p0)=(0:Int)) then
 some ((p0,(8:Int)))
 else
 (getO (Banks.Rows p0) p1).bind fun v8=>(appO 4 ([]:List Int) v8).bind fun v9=>(idxO (List.length v9:Int) p2).bind fun v10=>(setO v9 v10 p3).bind fun v11=>(zgk p0 p1 v11).bind fun v12=>(appO 4 ([]:List Int) (Banks.Par v12)).bind fun v14=>(zdo (Banks.Rows v12) p2 (-1:Int)).bind fun v16=>(idxO (List.length v14:Int) p2).bind fun v17=>(setO v14 v17 v16).bind fun v18=>some ((Banks.mk (Banks.Rows v12) v18 (Banks.Lost v12),(0:Int)))
def zha:FnT:=⟨[zai,.int .i64,.int .i64,.int .u32],[zai,.int .i64],fun x=>zfD x.1 x.2.1 x.2.2.1 x.2.2.2⟩
def zlB:TA :=
 .sub0 [.bool] (.call 80 zdr [.v 0,.v 1] 1<|.prim (.un .not) [.v 4]<|.ite (.v 5) (.jmp 0 false [.c (.bool true)]) (.prim (.bin .lss) [.v 2,.c (.int .i64 0)]<|.ite (.v 6) (.jmp 0 false [.c (.bool true)]) (.prim (.fld 1) [.v 0]<|.prim .len [.v 7]<|.prim (.bin .geq) [.v 2,.v 8]<|.jmp 0 false [.v 9]))) 1<|.ite (.v 4) (.jmp 0 false [.v 0,.c (.int .i64 1)]) (.prim (.fld 2) [.v 0]<|.prim (.bin .neq) [.v 5,.c (.int .i64 0)]<|.ite (.v 6) (.jmp 0 false [.v 0,.c (.int .i64 8)]) (.prim (.fld 0) [.v 0]<|.prim .get [.v 7,.v 1]<|.primH (.app 4) (.sl (.int .u32)) [.c (.sl []),.v 8]<|.prim .idx [.v 9,.v 2]<|.prim .set [.v 9,.v 10,.v 3]<|.call 81 zcs [.v 0,.v 1,.v 11] 1<|.prim (.fld 1) [.v 12]<|.primH (.app 4) (.sl (.int .u32)) [.c (.sl []),.v 13]<|.prim (.fld 0) [.v 12]<|.call 82 zbE [.v 15,.v 2,.c (.int .i64 (-1))] 1<|.prim .idx [.v 14,.v 2]<|.prim .set [.v 14,.v 17,.v 16]<|.prim (.fld 0) [.v 12]<|.prim (.fld 1) [.v 12]<|.prim (.fld 2) [.v 12]<|.mkS zaD [.v 19,.v 18,.v 21]<|.jmp 0 false [.v 22,.c (.int .i64 0)]))
theorem zq5:zaj cx 12 112=some zlB.erase:=by kernel_rfl
theorem zrP:FnOk cx 12 noC 112 zha:=zaQ (t:=zlB) zq5 (fun _=>rfl) (zaN [(80,zdr),(81,zcs),(82,zbE)] (by kernel_rfl) (.cons zll (.cons ziP (.cons zf9 .nil)))) (fun x=>by kernel_rfl)
def zcb (x1:Int) (x3:Int) (x4:Int) (x7:List Undo) (x13:List Undo) (s:(Int×(List (List Int))×(List Int)×Int×Int)):Option ((Int×(List (List Int))×(List Int)×Int×Int)⊕((List (List Int))×(List Int)×Int×Int)) :=
 if decide (s.1<(0:Int)) then
 some (Sum.inr ((s.2.1,s.2.2.1,s.2.2.2.1,s.2.2.2.2)))
 else
 (getO x13 s.1).bind fun v27=>if decide ((Undo.Span v27)<x1) then
 some (Sum.inr ((s.2.1,s.2.2.1,s.2.2.2.1,s.2.2.2.2)))
 else
 ((subO x7 (0:Int) s.2.2.2.2).bind fun v33=>(zbm (Vault.mk (Banks.mk s.2.1 s.2.2.1 s.2.2.2.1) x3 x4 v33) (Undo.At v27)).bind fun v35=>(zby (Banks.mk s.2.1 s.2.2.1 s.2.2.2.1) v35.1 v35.2 (Undo.Val v27)).bind fun v38=>some (v38.1):Option Banks).bind fun v32=>(zu4 (List.length x7:Int) (0:Int) (0:Int) (w64 ((s.2.2.2.2 - (0:Int)) - (1:Int)))).bind fun v36=>some (Sum.inl (w64 (s.1 - (1:Int)),Banks.Rows v32,Banks.Par v32,Banks.Lost v32,v36))
def zbJ (x3:List (List Int)) (x4:Int) (s:(Int×(List (List Int)))):Option ((Int×(List (List Int)))⊕(List (List Int))) :=
 if decide (s.1<x4) then
 (getO x3 s.1).bind fun v8=>(zaV 4 v8).bind fun v9=>(appO 24 s.2 ([v9]:List (List Int))).bind fun v11=>some (Sum.inl (w64 (s.1 + (1:Int)),v11))
 else
 some (Sum.inr (s.2))
def zgh (p0:Vault) (p1:Int):Option (Vault×Int) :=
 (let v3:List (List Int):=Banks.Rows (Vault.Banks p0)
 let v4:Int:=(List.length v3:Int)
 (zar (zbJ v3 v4) ((0:Int),([]:List (List Int))):Option (List (List Int))).bind fun v5=>(zaV 4 (Banks.Par (Vault.Banks p0))).bind fun v8=>(zaV 24 (Vault.Lst p0)).bind fun v10=>some ((Banks.Lost (Vault.Banks p0),Vault.Words p0,Vault.Span p0,v5,v8,v10)):Option (Int×Int×Int×(List (List Int))×(List Int)×(List Undo))).bind fun v2=>(zcM p0 p1).bind fun v8=>if !v8 then
 some ((Vault.mk (Banks.mk v2.2.2.2.1 v2.2.2.2.2.1 v2.1) v2.2.1 v2.2.2.1 v2.2.2.2.2.2,(1:Int)))
 else
 if decide ((0:Int)<(Banks.Lost (Vault.Banks p0))) then
 some ((Vault.mk (Banks.mk v2.2.2.2.1 v2.2.2.2.2.1 v2.1) v2.2.1 v2.2.2.1 v2.2.2.2.2.2,(8:Int)))
 else
 (zar (zcb p1 v2.2.1 v2.2.2.1 v2.2.2.2.2.2 (Vault.Lst p0)) (w64 ((List.length (Vault.Lst p0):Int) - (1:Int)),v2.2.2.2.1,v2.2.2.2.2.1,v2.1,(List.length v2.2.2.2.2.2:Int)):Option ((List (List Int))×(List Int)×Int×Int)).bind fun v14=>(subO v2.2.2.2.2.2 (0:Int) v14.2.2.2).bind fun v19=>some ((Vault.mk (Banks.mk v14.1 v14.2.1 v14.2.2.1) v2.2.1 p1 v19,(0:Int)))
def zfS:FnT:=⟨[zaB,.int .i64],[zaB,.int .i64],fun x=>zgh x.1 x.2⟩
def zjA:TA :=
 .sub0 [.int .i64,.int .i64,.int .i64,.sl (.sl (.int .u32)),.sl (.int .u32),.sl zbt] (.prim (.fld 0) [.v 0]<|.prim (.fld 0) [.v 2]<|.prim .len [.v 3]<|.sub0 [.sl (.sl (.int .u32))] (.loop [.int .i64,.sl (.sl (.int .u32))] [.c (.int .i64 0),.c .nil] (.prim (.bin .lss) [.v 5,.v 4]<|.ite (.v 7) (.prim .get [.v 3,.v 5]<|.prim (.clone 4) [.v 8]<|.mkL (.sl (.int .u32)) [.v 9]<|.prim (.app 24) [.v 6,.v 10]<|.prim (.bin .add) [.v 5,.c (.int .i64 1)]<|.jmp 0 true [.v 12,.v 11]) (.jmp 1 false [.v 6]))) 1<|.prim (.fld 0) [.v 0]<|.prim (.fld 1) [.v 6]<|.prim (.clone 4) [.v 7]<|.prim (.fld 3) [.v 0]<|.prim (.clone 24) [.v 9]<|.prim (.fld 0) [.v 0]<|.prim (.fld 1) [.v 0]<|.prim (.fld 2) [.v 0]<|.prim (.fld 3) [.v 0]<|.prim (.fld 0) [.v 11]<|.prim (.fld 1) [.v 11]<|.prim (.fld 2) [.v 11]<|.jmp 0 false [.v 17,.v 12,.v 13,.v 5,.v 8,.v 10]) 6<|.call 62 zbQ [.v 0,.v 1] 1<|.prim (.un .not) [.v 8]<|.ite (.v 9) (.mkS zaD [.v 5,.v 6,.v 2]<|.mkS za9 [.v 10,.v 3,.v 4,.v 7]<|.jmp 0 false [.v 11,.c (.int .i64 1)]) (.prim (.fld 0) [.v 0]<|.prim (.fld 2) [.v 10]<|.prim (.bin .gtr) [.v 11,.c (.int .i64 0)]<|.ite (.v 12) (.mkS zaD [.v 5,.v 6,.v 2]<|.mkS za9 [.v 13,.v 3,.v 4,.v 7]<|.jmp 0 false [.v 14,.c (.int .i64 8)]) (.prim (.fld 3) [.v 0]<|.subp [] (.jmp 0 false []) 0<|.sub0 [.sl (.sl (.int .u32)),.sl (.int .u32),.int .i64,.int .i64] (.prim .len [.v 13]<|.prim (.bin .sub) [.v 14,.c (.int .i64 1)]<|.subp [.int .i64,.sl (.sl (.int .u32)),.sl (.int .u32),.int .i64,.int .i64] (.prim .len [.v 7]<|.jmp 0 false [.v 15,.v 5,.v 6,.v 2,.v 16]) 5<|.loop [.int .i64,.sl (.sl (.int .u32)),.sl (.int .u32),.int .i64,.int .i64] [.v 16,.v 17,.v 18,.v 19,.v 20] (.prim (.bin .lss) [.v 21,.c (.int .i64 0)]<|.ite (.v 26) (.jmp 1 false [.v 22,.v 23,.v 24,.v 25]) (.prim .get [.v 13,.v 21]<|.prim (.fld 0) [.v 27]<|.prim (.bin .lss) [.v 28,.v 1]<|.ite (.v 29) (.jmp 1 false [.v 22,.v 23,.v 24,.v 25]) (.prim (.fld 1) [.v 27]<|.prim (.fld 2) [.v 27]<|.sub0 [zai] (.mkS zaD [.v 22,.v 23,.v 24]<|.prim .sub [.v 7,.c (.int .i64 0),.v 25]<|.mkS za9 [.v 32,.v 3,.v 4,.v 33]<|.call 71 zaW [.v 34,.v 30] 2<|.mkS zaD [.v 22,.v 23,.v 24]<|.call 110 zbW [.v 37,.v 35,.v 36,.v 31] 2<|.jmp 0 false [.v 38]) 1<|.prim .vlen [.c (.int .i64 0),.v 25]<|.prim (.bin .sub) [.v 33,.c (.int .i64 1)]<|.prim .vlen [.c (.int .i64 0),.v 25]<|.prim .rngv [.v 7,.c (.int .i64 0),.c (.int .i64 0),.v 34]<|.prim (.bin .sub) [.v 21,.c (.int .i64 1)]<|.prim (.fld 0) [.v 32]<|.prim (.fld 1) [.v 32]<|.prim (.fld 2) [.v 32]<|.jmp 0 true [.v 37,.v 38,.v 39,.v 40,.v 36])))) 4<|.mkS zaD [.v 14,.v 15,.v 16]<|.prim .sub [.v 7,.c (.int .i64 0),.v 17]<|.mkS za9 [.v 18,.v 3,.v 1,.v 19]<|.jmp 0 false [.v 20,.c (.int .i64 0)]))
theorem zpt:zaj cx 12 15=some zjA.erase:=by kernel_rfl
theorem zpJ:FnOk cx 12 noC 15 zfS:=zaQ (t:=zjA) zpt (fun _=>rfl) (zaN [(62,zbQ),(71,zaW),(110,zbW)] (by kernel_rfl) (.cons zgH (.cons zdf (.cons zgM .nil)))) (fun x=>by kernel_rfl)
def zdh (x1:Int) (s:(Int×Int×(List Undo))):Option ((Int×Int×(List Undo))⊕(Int×(List Undo))) :=
 if decide (s.2.1<(List.length s.2.2:Int)) then
 (idxO (List.length s.2.2:Int) s.2.1).bind fun v18=>(getO s.2.2 v18).bind fun v19=>(if !(decide ((Undo.Span v19)<x1)) then
 (idxO (List.length s.2.2:Int) s.1).bind fun v22=>(setO s.2.2 v22 v19).bind fun v23=>some ((w64 (s.1 + (1:Int)),v23))
 else
 some ((s.1,s.2.2)):Option (Int×(List Undo))).bind fun v22=>some (Sum.inl (v22.1,w64 (s.2.1 + (1:Int)),v22.2))
 else
 some (Sum.inr ((s.1,s.2.2)))
def zdc (x1:Int) (x7:List Undo) (x10:Int) (s:Int):Option (Int⊕Unit⊕Int) :=
 if decide (s<x10) then
 (idxO (List.length x7:Int) s).bind fun v13=>(getO x7 v13).bind fun v14=>if decide ((Undo.Span v14)<x1) then
 some (Sum.inr (Sum.inr (s)))
 else
 some (Sum.inl (w64 (s + (1:Int))))
 else
 some (Sum.inr (Sum.inl ()))
def zgm (p0:Vault) (p1:Int):Option (Vault×Int) :=
 (let v3:List (List Int):=Banks.Rows (Vault.Banks p0)
 let v4:Int:=(List.length v3:Int)
 (zar (zbJ v3 v4) ((0:Int),([]:List (List Int))):Option (List (List Int))).bind fun v5=>(zaV 4 (Banks.Par (Vault.Banks p0))).bind fun v8=>(zaV 24 (Vault.Lst p0)).bind fun v10=>some ((Banks.Lost (Vault.Banks p0),Vault.Words p0,Vault.Span p0,v5,v8,v10)):Option (Int×Int×Int×(List (List Int))×(List Int)×(List Undo))).bind fun v2=>(zcM p0 p1).bind fun v8=>if !v8 then
 some ((Vault.mk (Banks.mk v2.2.2.2.1 v2.2.2.2.2.1 v2.1) v2.2.1 v2.2.2.1 v2.2.2.2.2.2,(1:Int)))
 else
 ((let v10:Int:=(List.length v2.2.2.2.2.2:Int)
 zbw (zar (zdc p1 v2.2.2.2.2.2 v10) (0:Int):Option (Unit⊕Int)) fun v11=>some ((-1:Int)):Option Int).bind fun v10=>if decide (v10=(-1:Int)) then
 some (((List.length v2.2.2.2.2.2:Int),v2.2.2.2.2.2))
 else
 (zar (zdh p1) (v10,w64 (v10 + (1:Int)),v2.2.2.2.2.2):Option (Int×(List Undo))).bind fun v13=>(rngO (List.length v13.2:Int) v13.1 (List.length v13.2:Int)).bind fun v16=>(subO v13.2 v13.1 v16).bind fun v17=>(zt3 v13.2 v13.1 v16 (List.replicate (List.length v17) (Undo.mk (0:Int) (0:Int) (0:Int)))).bind fun v19=>(rngO (List.length v19:Int) (0:Int) v13.1).bind fun v21=>some ((v21,v19)):Option (Int×(List Undo))).bind fun v10=>(subO v10.2 (0:Int) v10.1).bind fun v13=>some ((Vault.mk (Banks.mk v2.2.2.2.1 v2.2.2.2.2.1 v2.1) v2.2.1 v2.2.2.1 v13,(0:Int)))
def zfB:FnT:=⟨[zaB,.int .i64],[zaB,.int .i64],fun x=>zgm x.1 x.2⟩
def zjw:TA :=
 .sub0 [.int .i64,.int .i64,.int .i64,.sl (.sl (.int .u32)),.sl (.int .u32),.sl zbt] (.prim (.fld 0) [.v 0]<|.prim (.fld 0) [.v 2]<|.prim .len [.v 3]<|.sub0 [.sl (.sl (.int .u32))] (.loop [.int .i64,.sl (.sl (.int .u32))] [.c (.int .i64 0),.c .nil] (.prim (.bin .lss) [.v 5,.v 4]<|.ite (.v 7) (.prim .get [.v 3,.v 5]<|.prim (.clone 4) [.v 8]<|.mkL (.sl (.int .u32)) [.v 9]<|.prim (.app 24) [.v 6,.v 10]<|.prim (.bin .add) [.v 5,.c (.int .i64 1)]<|.jmp 0 true [.v 12,.v 11]) (.jmp 1 false [.v 6]))) 1<|.prim (.fld 0) [.v 0]<|.prim (.fld 1) [.v 6]<|.prim (.clone 4) [.v 7]<|.prim (.fld 3) [.v 0]<|.prim (.clone 24) [.v 9]<|.prim (.fld 0) [.v 0]<|.prim (.fld 1) [.v 0]<|.prim (.fld 2) [.v 0]<|.prim (.fld 3) [.v 0]<|.prim (.fld 0) [.v 11]<|.prim (.fld 1) [.v 11]<|.prim (.fld 2) [.v 11]<|.jmp 0 false [.v 17,.v 12,.v 13,.v 5,.v 8,.v 10]) 6<|.call 62 zbQ [.v 0,.v 1] 1<|.prim (.un .not) [.v 8]<|.ite (.v 9) (.mkS zaD [.v 5,.v 6,.v 2]<|.mkS za9 [.v 10,.v 3,.v 4,.v 7]<|.jmp 0 false [.v 11,.c (.int .i64 1)]) (.sub0 [.int .i64,.sl zbt] (.sub0 [.int .i64] (.prim .len [.v 7]<|.sub1 [] (.loop [.int .i64] [.c (.int .i64 0)] (.prim (.bin .lss) [.v 11,.v 10]<|.ite (.v 12) (.prim .idx [.v 7,.v 11]<|.prim .get [.v 7,.v 13]<|.subp [.bool] (.prim (.fld 0) [.v 14]<|.prim (.bin .lss) [.v 15,.v 1]<|.jmp 0 false [.v 16]) 1<|.ite (.v 15) (.jmp 2 false [.v 11]) (.prim (.bin .add) [.v 11,.c (.int .i64 1)]<|.jmp 0 true [.v 16])) (.jmp 1 false []))) 0<|.jmp 0 false [.c (.int .i64 (-1))]) 1<|.prim (.bin .eql) [.v 10,.c (.int .i64 (-1))]<|.ite (.v 11) (.prim .len [.v 7]<|.jmp 0 false [.v 12,.v 7]) (.prim (.bin .add) [.v 10,.c (.int .i64 1)]<|.sub0 [.int .i64,.sl zbt] (.loop [.int .i64,.int .i64,.sl zbt] [.v 10,.v 12,.v 7] (.prim .len [.v 15]<|.prim (.bin .lss) [.v 14,.v 16]<|.ite (.v 17) (.prim .idx [.v 15,.v 14]<|.prim .get [.v 15,.v 18]<|.subp [.bool] (.prim (.fld 0) [.v 19]<|.prim (.bin .lss) [.v 20,.v 1]<|.jmp 0 false [.v 21]) 1<|.prim (.un .not) [.v 20]<|.sub0 [.int .i64,.sl zbt] (.ite (.v 21) (.prim .idx [.v 15,.v 13]<|.prim .set [.v 15,.v 22,.v 19]<|.prim (.bin .add) [.v 13,.c (.int .i64 1)]<|.jmp 0 false [.v 24,.v 23]) (.jmp 0 false [.v 13,.v 15])) 2<|.prim (.bin .add) [.v 14,.c (.int .i64 1)]<|.jmp 0 true [.v 22,.v 24,.v 23]) (.jmp 1 false [.v 13,.v 15]))) 2<|.prim .len [.v 14]<|.prim .rng [.v 14,.v 13,.v 15]<|.prim .sub [.v 14,.v 13,.v 16]<|.prim (.clr (.agg [(.int .i64 0),(.int .i64 0),(.int .u32 0)])) [.v 17]<|.prim .cpyv [.v 14,.v 13,.v 16,.v 18]<|.prim .len [.v 19]<|.prim .rng [.v 19,.c (.int .i64 0),.v 13]<|.jmp 0 false [.v 21,.v 19])) 2<|.mkS zaD [.v 5,.v 6,.v 2]<|.prim .sub [.v 11,.c (.int .i64 0),.v 10]<|.mkS za9 [.v 12,.v 3,.v 4,.v 13]<|.jmp 0 false [.v 14,.c (.int .i64 0)])
theorem zpK:zaj cx 12 17=some zjw.erase:=by kernel_rfl
theorem zpX:FnOk cx 12 noC 17 zfB:=zaQ (t:=zjw) zpK (fun _=>rfl) (zaN [(62,zbQ)] (by kernel_rfl) (.cons zgH .nil)) (fun x=>by kernel_rfl)
def zex (p0:Vault) (p1:Int):Option (Int×Int) :=
 (zdP p0 p1).bind fun v2=>if !v2 then
 some (((0:Int),(1:Int)))
 else
 (zbm p0 p1).bind fun v4=>(zdu (Vault.Banks p0) v4.1 v4.2).bind fun v7=>some ((v7.1,v7.2))
def zcV:FnT:=⟨[zaB,.int .i64],[.int .u32,.int .i64],fun x=>zex x.1 x.2⟩
def zjT:TA :=
 .call 54 zcj [.v 0,.v 1] 1<|.prim (.un .not) [.v 2]<|.ite (.v 3) (.jmp 0 false [.c (.int .u32 0),.c (.int .i64 1)]) (.call 71 zaW [.v 0,.v 1] 2<|.prim (.fld 0) [.v 0]<|.call 72 ze9 [.v 6,.v 4,.v 5] 2<|.jmp 0 false [.v 7,.v 8])
theorem zpF:zaj cx 12 21=some zjT.erase:=by kernel_rfl
theorem zjF:FnOk cx 12 noC 21 zcV:=zaQ (t:=zjT) zpF (fun _=>rfl) (zaN [(54,zcj),(71,zaW),(72,ze9)] (by kernel_rfl) (.cons zhw (.cons zdf (.cons zon .nil)))) (fun x=>by kernel_rfl)
def zkn (p0:Vault) (p1:Int):Option (Int×Int) :=
 ((zcc p0).bind fun v2=>if !v2 then
 some (true)
 else
 if decide (p1<(0:Int)) then
 some (true)
 else
 some ((decide ((Vault.Words p0)≤p1))):Option Bool).bind fun v2=>if v2 then
 some (((0:Int),(1:Int)))
 else
 let v5:Int:=(List.length (Banks.Rows (Vault.Banks p0)):Int)
 (remO p1 v5).bind fun v7=>(quoO .i64 p1 v5).bind fun v8=>(zkp (Vault.Banks p0) v7 v8).bind fun v9=>some ((v9.1,v9.2))
def zi1:FnT:=⟨[zaB,.int .i64],[.int .u32,.int .i64],fun x=>zkn x.1 x.2⟩
def zm7:TA :=
 .sub0 [.bool] (.call 23 zaL [.v 0] 1<|.prim (.un .not) [.v 2]<|.ite (.v 3) (.jmp 0 false [.c (.bool true)]) (.prim (.bin .lss) [.v 1,.c (.int .i64 0)]<|.ite (.v 4) (.jmp 0 false [.c (.bool true)]) (.prim (.fld 1) [.v 0]<|.prim (.bin .geq) [.v 1,.v 5]<|.jmp 0 false [.v 6]))) 1<|.ite (.v 2) (.jmp 0 false [.c (.int .u32 0),.c (.int .i64 1)]) (.prim (.fld 0) [.v 0]<|.prim (.fld 0) [.v 3]<|.prim .len [.v 4]<|.prim (.fld 0) [.v 0]<|.prim (.bin .rem) [.v 1,.v 5]<|.prim (.bin .quo) [.v 1,.v 5]<|.call 73 ziI [.v 6,.v 7,.v 8] 2<|.jmp 0 false [.v 9,.v 10])
theorem ztG:zaj cx 12 22=some zm7.erase:=by kernel_rfl
theorem zt8:FnOk cx 12 noC 22 zi1:=zaQ (t:=zm7) ztG (fun _=>rfl) (zaN [(23,zaL),(73,ziI)] (by kernel_rfl) (.cons zct (.cons ztN .nil))) (fun x=>by kernel_rfl)
def zgo (p0:Vault) (p1:Int):Option (Vault×Int) :=
 (let v3:List (List Int):=Banks.Rows (Vault.Banks p0)
 let v4:Int:=(List.length v3:Int)
 (zar (zbJ v3 v4) ((0:Int),([]:List (List Int))):Option (List (List Int))).bind fun v5=>(zaV 4 (Banks.Par (Vault.Banks p0))).bind fun v8=>(zaV 24 (Vault.Lst p0)).bind fun v10=>some ((Banks.Lost (Vault.Banks p0),Vault.Words p0,Vault.Span p0,v5,v8,v10)):Option (Int×Int×Int×(List (List Int))×(List Int)×(List Undo))).bind fun v2=>(za6 p0).bind fun v8=>if !v8 then
 some ((Vault.mk (Banks.mk v2.2.2.2.1 v2.2.2.2.2.1 v2.1) v2.2.1 v2.2.2.1 v2.2.2.2.2.2,(1:Int)))
 else
 (ze6 (Vault.Banks p0) p1).bind fun v11=>some ((Vault.mk v11.1 v2.2.1 v2.2.2.1 v2.2.2.2.2.2,v11.2))
def zfw:FnT:=⟨[zaB,.int .i64],[zaB,.int .i64],fun x=>zgo x.1 x.2⟩
def zjC:TA :=
 .sub0 [.int .i64,.int .i64,.int .i64,.sl (.sl (.int .u32)),.sl (.int .u32),.sl zbt] (.prim (.fld 0) [.v 0]<|.prim (.fld 0) [.v 2]<|.prim .len [.v 3]<|.sub0 [.sl (.sl (.int .u32))] (.loop [.int .i64,.sl (.sl (.int .u32))] [.c (.int .i64 0),.c .nil] (.prim (.bin .lss) [.v 5,.v 4]<|.ite (.v 7) (.prim .get [.v 3,.v 5]<|.prim (.clone 4) [.v 8]<|.mkL (.sl (.int .u32)) [.v 9]<|.prim (.app 24) [.v 6,.v 10]<|.prim (.bin .add) [.v 5,.c (.int .i64 1)]<|.jmp 0 true [.v 12,.v 11]) (.jmp 1 false [.v 6]))) 1<|.prim (.fld 0) [.v 0]<|.prim (.fld 1) [.v 6]<|.prim (.clone 4) [.v 7]<|.prim (.fld 3) [.v 0]<|.prim (.clone 24) [.v 9]<|.prim (.fld 0) [.v 0]<|.prim (.fld 1) [.v 0]<|.prim (.fld 2) [.v 0]<|.prim (.fld 3) [.v 0]<|.prim (.fld 0) [.v 11]<|.prim (.fld 1) [.v 11]<|.prim (.fld 2) [.v 11]<|.jmp 0 false [.v 17,.v 12,.v 13,.v 5,.v 8,.v 10]) 6<|.call 24 zaq [.v 0] 1<|.prim (.un .not) [.v 8]<|.ite (.v 9) (.mkS zaD [.v 5,.v 6,.v 2]<|.mkS za9 [.v 10,.v 3,.v 4,.v 7]<|.jmp 0 false [.v 11,.c (.int .i64 1)]) (.prim (.fld 0) [.v 0]<|.call 78 zeK [.v 10,.v 1] 2<|.mkS za9 [.v 11,.v 3,.v 4,.v 7]<|.jmp 0 false [.v 13,.v 12])
theorem zpc:zaj cx 12 29=some zjC.erase:=by kernel_rfl
theorem zpM:FnOk cx 12 noC 29 zfw:=zaQ (t:=zjC) zpc (fun _=>rfl) (zaN [(24,zaq),(78,zeK)] (by kernel_rfl) (.cons zbn (.cons zot .nil))) (fun x=>by kernel_rfl)
def zla (p0:Vault):Option Log :=
 (zf6 p0).bind fun v1=>some ((Log.mk v1 (Vault.Span p0) (Vault.Lst p0)))
def zfQ:FnT:=⟨[zaB],[tLog],fun x=>zla x⟩
def zqc:TA :=
 .call 27 zds [.v 0] 1<|.prim (.fld 2) [.v 0]<|.prim (.fld 3) [.v 0]<|.mkS zoB [.v 1,.v 2,.v 3]<|.jmp 0 false [.v 4]
theorem zuu:zaj cx 12 59=some zqc.erase:=by kernel_rfl
theorem zps:FnOk cx 12 noC 59 zfQ:=zaQ (t:=zqc) zuu (fun _=>rfl) (zaN [(27,zds)] (by kernel_rfl) (.cons zlg .nil)) (fun x=>by kernel_rfl)
def zeH (x1:Log) (x4:Int) (s:(Int×Vault)):Option ((Int×Vault)⊕Vault) :=
 if decide (s.1<(List.length (Log.Mem x1):Int)) then
 (remO s.1 x4).bind fun v11=>(quoO .i64 s.1 x4).bind fun v12=>(getO (Log.Mem x1) s.1).bind fun v14=>(zfD (Vault.Banks s.2) v11 v12 v14).bind fun v15=>some (Sum.inl (w64 (s.1 + (1:Int)),Vault.setBanks s.2 v15.1))
 else
 some (Sum.inr (s.2))
def zgc (p0:Vault) (p1:Log):Option Vault :=
 let v4:Int:=(List.length (Banks.Rows (Vault.Banks p0)):Int)
 (zar (zeH p1 v4) ((0:Int),p0):Option Vault).bind fun v5=>some ((Vault.setLst (Vault.setSpan v5 (Log.Span p1)) (Log.Lst p1)))
def zek:FnT:=⟨[zaB,tLog],[zaB],fun x=>zgc x.1 x.2⟩
def zm0:TA :=
 .prim (.fld 0) [.v 0]<|.prim (.fld 0) [.v 2]<|.prim .len [.v 3]<|.sub0 [zaB] (.loop [.int .i64,zaB] [.c (.int .i64 0),.v 0] (.prim (.fld 0) [.v 1]<|.prim .len [.v 7]<|.prim (.bin .lss) [.v 5,.v 8]<|.ite (.v 9) (.prim (.fld 0) [.v 6]<|.prim (.bin .rem) [.v 5,.v 4]<|.prim (.bin .quo) [.v 5,.v 4]<|.prim (.fld 0) [.v 1]<|.prim .get [.v 13,.v 5]<|.call 112 zha [.v 10,.v 11,.v 12,.v 14] 2<|.prim (.setf 0) [.v 6,.v 15]<|.prim (.bin .add) [.v 5,.c (.int .i64 1)]<|.jmp 0 true [.v 18,.v 17]) (.jmp 1 false [.v 6]))) 1<|.prim (.fld 1) [.v 1]<|.prim (.setf 2) [.v 5,.v 6]<|.prim (.fld 2) [.v 1]<|.prim (.setf 3) [.v 7,.v 8]<|.jmp 0 false [.v 9]
theorem zti:zaj cx 12 60=some zm0.erase:=by kernel_rfl
theorem znw:FnOk cx 12 noC 60 zek:=zaQ (t:=zm0) zti (fun _=>rfl) (zaN [(112,zha)] (by kernel_rfl) (.cons zrP .nil)) (fun x=>by kernel_rfl)
def zcD (x0:Vault) (x1:Int) (x14:List Undo) (x15:Int) (s:Int):Option (Int⊕Unit⊕Int) :=
 if decide (s<x15) then
 (getO x14 s).bind fun v18=>if (decide ((Undo.Span v18)=(Vault.Span x0)))&&(decide ((Undo.At v18)=x1)) then
 some (Sum.inr (Sum.inr (s)))
 else
 some (Sum.inl (w64 (s + (1:Int))))
 else
 some (Sum.inr (Sum.inl ()))
def ze4 (p0:Vault) (p1:Int) (p2:Int):Option (Vault×Int) :=
 (let v4:List (List Int):=Banks.Rows (Vault.Banks p0)
 let v5:Int:=(List.length v4:Int)
 (zar (zbH v4 v5) ((0:Int),([]:List (List Int))):Option (List (List Int))).bind fun v6=>(zaV 4 (Banks.Par (Vault.Banks p0))).bind fun v9=>(zaV 24 (Vault.Lst p0)).bind fun v11=>some ((Banks.Lost (Vault.Banks p0),Vault.Words p0,Vault.Span p0,v6,v9,v11)):Option (Int×Int×Int×(List (List Int))×(List Int)×(List Undo))).bind fun v3=>(zdP p0 p1).bind fun v9=>if !v9 then
 some ((Vault.mk (Banks.mk v3.2.2.2.1 v3.2.2.2.2.1 v3.1) v3.2.1 v3.2.2.1 v3.2.2.2.2.2,(1:Int)))
 else
 if decide ((0:Int)<(Banks.Lost (Vault.Banks p0))) then
 some ((Vault.mk (Banks.mk v3.2.2.2.1 v3.2.2.2.2.1 v3.1) v3.2.1 v3.2.2.1 v3.2.2.2.2.2,(8:Int)))
 else
 ((let v15:Int:=(List.length (Vault.Lst p0):Int)
 zbw (zar (zcD p0 p1 (Vault.Lst p0) v15) (0:Int):Option (Unit⊕Int)) fun v16=>some ((-1:Int)):Option Int).bind fun v15=>some ((decide ((0:Int)≤v15))):Option Bool).bind fun v15=>if (!v15)&&(decide ((List.length (Vault.Lst p0):Int)=(256:Int))) then
 some ((Vault.mk (Banks.mk v3.2.2.2.1 v3.2.2.2.2.1 v3.1) v3.2.1 v3.2.2.1 v3.2.2.2.2.2,(6:Int)))
 else
 (if !v15 then
 (zex p0 p1).bind fun v18=>(appO 24 v3.2.2.2.2.2 ([Undo.mk (Vault.Span p0) p1 v18.1]:List Undo)).bind fun v23=>some (v23)
 else
 some (v3.2.2.2.2.2):Option (List Undo)).bind fun v18=>((zbm (Vault.mk (Banks.mk v3.2.2.2.1 v3.2.2.2.2.1 v3.1) v3.2.1 v3.2.2.1 v18) p1).bind fun v21=>(zby (Banks.mk v3.2.2.2.1 v3.2.2.2.2.1 v3.1) v21.1 v21.2 p2).bind fun v24=>some (v24.1):Option Banks).bind fun v19=>some ((Vault.mk v19 v3.2.1 v3.2.2.1 v18,(0:Int)))
def zfb:FnT:=⟨[zaB,.int .i64,.int .u32],[zaB,.int .i64],fun x=>ze4 x.1 x.2.1 x.2.2⟩
def zh9:TA :=
 .sub0 [.int .i64,.int .i64,.int .i64,.sl (.sl (.int .u32)),.sl (.int .u32),.sl zbt] (.prim (.fld 0) [.v 0]<|.prim (.fld 0) [.v 3]<|.prim .len [.v 4]<|.sub0 [.sl (.sl (.int .u32))] (.loop [.int .i64,.sl (.sl (.int .u32))] [.c (.int .i64 0),.c .nil] (.prim (.bin .lss) [.v 6,.v 5]<|.ite (.v 8) (.prim .get [.v 4,.v 6]<|.prim (.clone 4) [.v 9]<|.mkL (.sl (.int .u32)) [.v 10]<|.prim (.app 24) [.v 7,.v 11]<|.prim (.bin .add) [.v 6,.c (.int .i64 1)]<|.jmp 0 true [.v 13,.v 12]) (.jmp 1 false [.v 7]))) 1<|.prim (.fld 0) [.v 0]<|.prim (.fld 1) [.v 7]<|.prim (.clone 4) [.v 8]<|.prim (.fld 3) [.v 0]<|.prim (.clone 24) [.v 10]<|.prim (.fld 0) [.v 0]<|.prim (.fld 1) [.v 0]<|.prim (.fld 2) [.v 0]<|.prim (.fld 3) [.v 0]<|.prim (.fld 0) [.v 12]<|.prim (.fld 1) [.v 12]<|.prim (.fld 2) [.v 12]<|.jmp 0 false [.v 18,.v 13,.v 14,.v 6,.v 9,.v 11]) 6<|.call 54 zcj [.v 0,.v 1] 1<|.prim (.un .not) [.v 9]<|.ite (.v 10) (.mkS zaD [.v 6,.v 7,.v 3]<|.mkS za9 [.v 11,.v 4,.v 5,.v 8]<|.jmp 0 false [.v 12,.c (.int .i64 1)]) (.prim (.fld 0) [.v 0]<|.prim (.fld 2) [.v 11]<|.prim (.bin .gtr) [.v 12,.c (.int .i64 0)]<|.ite (.v 13) (.mkS zaD [.v 6,.v 7,.v 3]<|.mkS za9 [.v 14,.v 4,.v 5,.v 8]<|.jmp 0 false [.v 15,.c (.int .i64 8)]) (.prim (.fld 3) [.v 0]<|.sub0 [.bool] (.sub0 [.int .i64] (.prim .len [.v 14]<|.sub1 [] (.loop [.int .i64] [.c (.int .i64 0)] (.prim (.bin .lss) [.v 16,.v 15]<|.ite (.v 17) (.prim .get [.v 14,.v 16]<|.subp [.bool] (.subp [.bool] (.prim (.fld 0) [.v 18]<|.prim (.fld 2) [.v 0]<|.prim (.bin .eql) [.v 19,.v 20]<|.ite (.v 21) (.prim (.fld 1) [.v 18]<|.prim (.bin .eql) [.v 22,.v 1]<|.jmp 0 false [.v 23]) (.jmp 0 false [.c (.bool false)])) 1<|.jmp 0 false [.v 19]) 1<|.ite (.v 19) (.jmp 2 false [.v 16]) (.prim (.bin .add) [.v 16,.c (.int .i64 1)]<|.jmp 0 true [.v 20])) (.jmp 1 false []))) 0<|.jmp 0 false [.c (.int .i64 (-1))]) 1<|.prim (.bin .geq) [.v 15,.c (.int .i64 0)]<|.jmp 0 false [.v 16]) 1<|.subp [.bool] (.prim (.un .not) [.v 15]<|.ite (.v 16) (.prim (.fld 3) [.v 0]<|.prim .len [.v 17]<|.prim (.bin .eql) [.v 18,.c (.int .i64 256)]<|.jmp 0 false [.v 19]) (.jmp 0 false [.c (.bool false)])) 1<|.ite (.v 16) (.mkS zaD [.v 6,.v 7,.v 3]<|.mkS za9 [.v 17,.v 4,.v 5,.v 8]<|.jmp 0 false [.v 18,.c (.int .i64 6)]) (.prim (.un .not) [.v 15]<|.sub0 [.sl zbt] (.ite (.v 17) (.call 21 zcV [.v 0,.v 1] 2<|.prim (.fld 2) [.v 0]<|.mkS zus [.v 20,.v 1,.v 18]<|.mkL zbt [.v 21]<|.prim (.app 24) [.v 8,.v 22]<|.jmp 0 false [.v 23]) (.jmp 0 false [.v 8])) 1<|.sub0 [zai] (.mkS zaD [.v 6,.v 7,.v 3]<|.mkS za9 [.v 19,.v 4,.v 5,.v 18]<|.call 71 zaW [.v 20,.v 1] 2<|.mkS zaD [.v 6,.v 7,.v 3]<|.call 110 zbW [.v 23,.v 21,.v 22,.v 2] 2<|.jmp 0 false [.v 24]) 1<|.mkS za9 [.v 19,.v 4,.v 5,.v 18]<|.jmp 0 false [.v 20,.c (.int .i64 0)])))
theorem zog:zaj cx 12 12=some zh9.erase:=by kernel_rfl
theorem zoO:FnOk cx 12 noC 12 zfb:=zaQ (t:=zh9) zog (fun _=>rfl) (zaN [(54,zcj),(21,zcV),(71,zaW),(110,zbW)] (by kernel_rfl) (.cons zhw (.cons zjF (.cons zdf (.cons zgM .nil))))) (fun x=>by kernel_rfl)
def zhN (p0:Vault) (p1:Int) (p2:Int):Option (Vault×Int) :=
 ((zcc p0).bind fun v3=>if !v3 then
 some (true)
 else
 if decide (p1<(0:Int)) then
 some (true)
 else
 some ((decide ((Vault.Words p0)≤p1))):Option Bool).bind fun v3=>if v3 then
 some ((p0,(1:Int)))
 else
 if !decide ((Banks.Lost (Vault.Banks p0))=(0:Int)) then
 some ((p0,(8:Int)))
 else
 (zla p0).bind fun v7=>(zid v7 p1 p2).bind fun v8=>if !decide (v8.2=(0:Int)) then
 some ((p0,v8.2))
 else
 (zgc p0 v8.1).bind fun v11=>some ((v11,(0:Int)))
def zg5:FnT:=⟨[zaB,.int .i64,.int .u32],[zaB,.int .i64],fun x=>zhN x.1 x.2.1 x.2.2⟩
def zlL:TA :=
 .sub0 [.bool] (.call 23 zaL [.v 0] 1<|.prim (.un .not) [.v 3]<|.ite (.v 4) (.jmp 0 false [.c (.bool true)]) (.prim (.bin .lss) [.v 1,.c (.int .i64 0)]<|.ite (.v 5) (.jmp 0 false [.c (.bool true)]) (.prim (.fld 1) [.v 0]<|.prim (.bin .geq) [.v 1,.v 6]<|.jmp 0 false [.v 7]))) 1<|.ite (.v 3) (.jmp 0 false [.v 0,.c (.int .i64 1)]) (.prim (.fld 0) [.v 0]<|.prim (.fld 2) [.v 4]<|.prim (.bin .neq) [.v 5,.c (.int .i64 0)]<|.ite (.v 6) (.jmp 0 false [.v 0,.c (.int .i64 8)]) (.call 59 zfQ [.v 0] 1<|.call 58 zhd [.v 7,.v 1,.v 2] 2<|.prim (.bin .neq) [.v 9,.c (.int .i64 0)]<|.ite (.v 10) (.jmp 0 false [.v 0,.v 9]) (.call 60 zek [.v 0,.v 8] 1<|.jmp 0 false [.v 11,.c (.int .i64 0)])))
theorem zrm:zaj cx 12 13=some zlL.erase:=by kernel_rfl
theorem zqQ:FnOk cx 12 noC 13 zg5:=zaQ (t:=zlL) zrm (fun _=>rfl) (zaN [(23,zaL),(59,zfQ),(58,zhd),(60,zek)] (by kernel_rfl) (.cons zct (.cons zps (.cons zrn (.cons znw .nil))))) (fun x=>by kernel_rfl)
def zkb (p0:Vault) (p1:Int):Option (Vault×Int) :=
 ((zcc p0).bind fun v2=>if !v2 then
 some (true)
 else
 if decide (p1<(0:Int)) then
 some (true)
 else
 some ((decide ((Vault.Span p0)<p1))):Option Bool).bind fun v2=>if v2 then
 some ((p0,(1:Int)))
 else
 if !decide ((Banks.Lost (Vault.Banks p0))=(0:Int)) then
 some ((p0,(8:Int)))
 else
 (zla p0).bind fun v6=>(zkg v6 p1).bind fun v7=>(zgc p0 v7.1).bind fun v9=>some ((v9,(0:Int)))
def zjh:FnT:=⟨[zaB,.int .i64],[zaB,.int .i64],fun x=>zkb x.1 x.2⟩
def zno:TA :=
 .sub0 [.bool] (.call 23 zaL [.v 0] 1<|.prim (.un .not) [.v 2]<|.ite (.v 3) (.jmp 0 false [.c (.bool true)]) (.prim (.bin .lss) [.v 1,.c (.int .i64 0)]<|.ite (.v 4) (.jmp 0 false [.c (.bool true)]) (.prim (.fld 2) [.v 0]<|.prim (.bin .gtr) [.v 1,.v 5]<|.jmp 0 false [.v 6]))) 1<|.ite (.v 2) (.jmp 0 false [.v 0,.c (.int .i64 1)]) (.prim (.fld 0) [.v 0]<|.prim (.fld 2) [.v 3]<|.prim (.bin .neq) [.v 4,.c (.int .i64 0)]<|.ite (.v 5) (.jmp 0 false [.v 0,.c (.int .i64 8)]) (.call 59 zfQ [.v 0] 1<|.call 64 zjj [.v 6,.v 1] 2<|.call 60 zek [.v 0,.v 7] 1<|.jmp 0 false [.v 9,.c (.int .i64 0)]))
theorem ztR:zaj cx 12 16=some zno.erase:=by kernel_rfl
theorem zt4:FnOk cx 12 noC 16 zjh:=zaQ (t:=zno) ztR (fun _=>rfl) (zaN [(23,zaL),(59,zfQ),(64,zjj),(60,zek)] (by kernel_rfl) (.cons zct (.cons zps (.cons ztT (.cons znw .nil))))) (fun x=>by kernel_rfl)
def zkA:Bool:=true
def zgS:PnT:=⟨[],[.bool],fun _=>zkA⟩
theorem zqU:FnOk cx 12 noC 10 zgS.fn:=fun ds x r hx hr=>by
 have hx:ds=[]:=hx
 subst hx
 exact ⟨[.bool true],zws 100 12 (by kernel_rfl),.bool true,rfl,congrArg D.bool (Option.some.inj hr)⟩
end Go.Proofs.Ytlgjbfdojbmmgaa
