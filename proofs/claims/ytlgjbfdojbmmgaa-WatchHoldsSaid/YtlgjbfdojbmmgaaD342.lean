/- More functions of this cut as functions of plain typed data. Printed by a program of this claim's prover; each is checked here to be what the executor makes of the code. -/
import Derived.Test.YtlgjbfdojbmmgaaD341
set_option linter.unusedVariables false
set_option maxRecDepth 100000
noncomputable section
namespace Go.Proofs.Ytlgjbfdojbmmgaa
open Go.SX
def zhp (x22:List (List Int)) (x23:Int) (s:(Int×(List (List Int)))):Option ((Int×(List (List Int)))⊕(List (List Int))) :=
 if decide (s.1<x23) then
 (zzG x22 s.1).bind fun v27=>(zat 1 v27).bind fun v28=>(zzN 24 s.2 ([v28]:List (List Int))).bind fun v30=>some (Sum.inl (w64 (s.1 + (1:Int)),v30))
 else
 some (Sum.inr (s.2))
def zhC (x17:List Entry) (x20:Int) (s:(Int×(List Entry))):Option ((Int×(List Entry))⊕(List Entry)) :=
 if decide (s.1<x20) then
 (zzG x17 s.1).bind fun v24=>(zat 1 (Entry.Share v24)).bind fun v27=>(zzN 32 s.2 ([Entry.mk (Entry.Owner v24) v27]:List Entry)).bind fun v30=>some (Sum.inl (w64 (s.1 + (1:Int)),v30))
 else
 some (Sum.inr (s.2))
def zhv (x5:List (List Int)) (x6:Int) (s:(Int×(List (List Int)))):Option ((Int×(List (List Int)))⊕(List (List Int))) :=
 if decide (s.1<x6) then
 (zzG x5 s.1).bind fun v10=>(zat 4 v10).bind fun v11=>(zzN 24 s.2 ([v11]:List (List Int))).bind fun v13=>some (Sum.inl (w64 (s.1 + (1:Int)),v13))
 else
 some (Sum.inr (s.2))
def zhu (x3:List (List Int)) (x4:Int) (s:(Int×(List (List Int)))):Option ((Int×(List (List Int)))⊕(List (List Int))) :=
 if decide (s.1<x4) then
 (zzG x3 s.1).bind fun v8=>(zat 8 v8).bind fun v9=>(zzN 24 s.2 ([v9]:List (List Int))).bind fun v11=>some (Sum.inl (w64 (s.1 + (1:Int)),v11))
 else
 some (Sum.inr (s.2))
def zca (p0:Proto) (p1:Int) (p2:Int):Option (Proto×Int) :=
 ((let v4:Int:=(List.length (Proto.State p0):Int)
 (zae (zhu (Proto.State p0) v4) ((0:Int),([]:List (List Int))):Option (List (List Int))).bind fun v5=>some (v5):Option (List (List Int))).bind fun v4=>(let v6:Int:=(List.length (Proto.Val p0):Int)
 (zae (zhv (Proto.Val p0) v6) ((0:Int),([]:List (List Int))):Option (List (List Int))).bind fun v7=>some (v7):Option (List (List Int))).bind fun v6=>(zat 40 (Proto.Wait p0)).bind fun v8=>(zat 4 (Proto.Home p0)).bind fun v10=>(zat 8 (Proto.Busy p0)).bind fun v12=>let v20:Int:=(List.length (Proto.Dir p0):Int)
 (zae (zhC (Proto.Dir p0) v20) ((0:Int),([]:List Entry)):Option (List Entry)).bind fun v21=>let v22:List (List Int):=Pool.Frames (Proto.Pool p0)
 (let v23:Int:=(v22.length:Int)
 (zae (zhp v22 v23) ((0:Int),([]:List (List Int))):Option (List (List Int))).bind fun v24=>some (v24):Option (List (List Int))).bind fun v23=>some ((v4,v6,v8,v10,v21,v12,v23)):Option ((List (List Int))×(List (List Int))×(List Wait)×(List Int)×(List Entry)×(List Int)×(List (List Int)))).bind fun v3=>(zcf p0 p1 p2).bind fun v10=>if !v10 then
 some ((Proto.mk v3.1 v3.2.1 v3.2.2.1 v3.2.2.2.1 v3.2.2.2.2.1 v3.2.2.2.2.2.1 (Pool.mk v3.2.2.2.2.2.2),(1:Int)))
 else
 ((zzG (Proto.Wait p0) p1).bind fun v13=>if decide ((0:Int)<(Wait.Line v13)) then
 some (true)
 else
 (zzG (Proto.State p0) p1).bind fun v17=>(zzG v17 p2).bind fun v18=>some ((decide (v18=(0:Int)))):Option Bool).bind fun v12=>if v12 then
 some ((Proto.mk v3.1 v3.2.1 v3.2.2.1 v3.2.2.2.1 v3.2.2.2.2.1 v3.2.2.2.2.2.1 (Pool.mk v3.2.2.2.2.2.2),(8:Int)))
 else
 (zzG (Proto.State p0) p1).bind fun v14=>(zzG v14 p2).bind fun v15=>if decide (v15=(1:Int)) then
 (zzH (List.length v3.1:Int) p1).bind fun v17=>(zzH (List.length v3.1:Int) v17).bind fun v18=>(zzG v3.1 v18).bind fun v19=>(zzH (v19.length:Int) p2).bind fun v20=>(zzG v3.1 v18).bind fun v21=>(zzI v21 v20 (0:Int)).bind fun v22=>(zzI v3.1 v18 v22).bind fun v23=>some ((Proto.mk v23 v3.2.1 v3.2.2.1 v3.2.2.2.1 v3.2.2.2.2.1 v3.2.2.2.2.2.1 (Pool.mk v3.2.2.2.2.2.2),(0:Int)))
 else
 (zcr (Proto.Pool p0)).bind fun v18=>if decide (v18=(0:Int)) then
 some ((Proto.mk v3.1 v3.2.1 v3.2.2.1 v3.2.2.2.1 v3.2.2.2.2.1 v3.2.2.2.2.2.1 (Pool.mk v3.2.2.2.2.2.2),(6:Int)))
 else
 (zzH (List.length v3.2.2.1:Int) p1).bind fun v22=>(zzI v3.2.2.1 v22 (Wait.mk (w64 (p2 + (1:Int))) false true false false false (0:Int) (0:Int) (0:Int))).bind fun v23=>((zzH (v23.length:Int) p1).bind fun v24=>(zzG v23 v24).bind fun v25=>let v30:Msg:=Msg.mk (1:Int) (w64 (p1 + (1:Int))) (0:Int) (w64 ((Wait.Line v25) - (1:Int))) (w64 (p1 + (1:Int))) (0:Int) false (0:Int) (0:Int)
 (if Wait.Back v25 then
 (zzH (List.length v3.2.1:Int) p1).bind fun v32=>(zzH (List.length v3.2.1:Int) v32).bind fun v33=>(zzG v3.2.1 v33).bind fun v35=>(zzH (v35.length:Int) (Msg.Line v30)).bind fun v36=>(zzG v3.2.1 v33).bind fun v37=>(zzG v37 v36).bind fun v38=>some ((Msg.setVal (Msg.setFor (Msg.setKind v30 (8:Int)) (0:Int)) v38))
 else
 some ((bif Wait.Write v25 then Msg.setKind v30 (2:Int) else v30)):Option Msg).bind fun v32=>((zaf (Pool.mk v3.2.2.2.2.2.2) v32).bind fun v34=>some (v34.1):Option Pool).bind fun v33=>some (v33):Option Pool).bind fun v24=>some ((Proto.mk v3.1 v3.2.1 v23 v3.2.2.2.1 v3.2.2.2.2.1 v3.2.2.2.2.2.1 v24,(0:Int)))
def zfr:FnT:=⟨[zaD,.int .i64,.int .i64],[zaD,.int .i64],fun x=>zca x.1 x.2.1 x.2.2⟩
def zfO:TA :=
 .sub0 [.sl (.sl (.int .i64)),.sl (.sl (.int .u32)),.sl zck,.sl (.int .u32),.sl zaE,.sl (.int .i64),.sl (.sl (.int .u8))] (.prim (.fld 0) [.v 0]<|.sub0 [.sl (.sl (.int .i64))] (.prim .len [.v 3]<|.sub0 [.sl (.sl (.int .i64))] (.loop [.int .i64,.sl (.sl (.int .i64))] [.c (.int .i64 0),.c .nil] (.prim (.bin .lss) [.v 5,.v 4]<|.ite (.v 7) (.prim .get [.v 3,.v 5]<|.prim (.clone 8) [.v 8]<|.mkL (.sl (.int .i64)) [.v 9]<|.prim (.app 24) [.v 6,.v 10]<|.prim (.bin .add) [.v 5,.c (.int .i64 1)]<|.jmp 0 true [.v 12,.v 11]) (.jmp 1 false [.v 6]))) 1<|.jmp 0 false [.v 5]) 1<|.prim (.fld 1) [.v 0]<|.sub0 [.sl (.sl (.int .u32))] (.prim .len [.v 5]<|.sub0 [.sl (.sl (.int .u32))] (.loop [.int .i64,.sl (.sl (.int .u32))] [.c (.int .i64 0),.c .nil] (.prim (.bin .lss) [.v 7,.v 6]<|.ite (.v 9) (.prim .get [.v 5,.v 7]<|.prim (.clone 4) [.v 10]<|.mkL (.sl (.int .u32)) [.v 11]<|.prim (.app 24) [.v 8,.v 12]<|.prim (.bin .add) [.v 7,.c (.int .i64 1)]<|.jmp 0 true [.v 14,.v 13]) (.jmp 1 false [.v 8]))) 1<|.jmp 0 false [.v 7]) 1<|.prim (.fld 2) [.v 0]<|.prim (.clone 40) [.v 7]<|.prim (.fld 3) [.v 0]<|.prim (.clone 4) [.v 9]<|.prim (.fld 5) [.v 0]<|.prim (.clone 8) [.v 11]<|.prim (.fld 0) [.v 0]<|.prim (.fld 1) [.v 0]<|.prim (.fld 2) [.v 0]<|.prim (.fld 3) [.v 0]<|.prim (.fld 4) [.v 0]<|.prim (.fld 5) [.v 0]<|.prim (.fld 6) [.v 0]<|.prim .len [.v 17]<|.sub0 [.sl zaE] (.loop [.int .i64,.sl zaE] [.c (.int .i64 0),.c .nil] (.prim (.bin .lss) [.v 21,.v 20]<|.ite (.v 23) (.prim .get [.v 17,.v 21]<|.prim (.fld 0) [.v 24]<|.prim (.fld 1) [.v 24]<|.prim (.clone 1) [.v 26]<|.mkS zbT [.v 25,.v 27]<|.mkL zaE [.v 28]<|.prim (.app 32) [.v 22,.v 29]<|.prim (.bin .add) [.v 21,.c (.int .i64 1)]<|.jmp 0 true [.v 31,.v 30]) (.jmp 1 false [.v 22]))) 1<|.prim (.fld 0) [.v 19]<|.sub0 [.sl (.sl (.int .u8))] (.prim .len [.v 22]<|.sub0 [.sl (.sl (.int .u8))] (.loop [.int .i64,.sl (.sl (.int .u8))] [.c (.int .i64 0),.c .nil] (.prim (.bin .lss) [.v 24,.v 23]<|.ite (.v 26) (.prim .get [.v 22,.v 24]<|.prim (.clone 1) [.v 27]<|.mkL (.sl (.int .u8)) [.v 28]<|.prim (.app 24) [.v 25,.v 29]<|.prim (.bin .add) [.v 24,.c (.int .i64 1)]<|.jmp 0 true [.v 31,.v 30]) (.jmp 1 false [.v 25]))) 1<|.jmp 0 false [.v 24]) 1<|.jmp 0 false [.v 4,.v 6,.v 8,.v 10,.v 21,.v 12,.v 23]) 7<|.call 90 zaY [.v 0,.v 1,.v 2] 1<|.prim (.un .not) [.v 10]<|.ite (.v 11) (.mkS zch [.v 9]<|.mkS zbD [.v 3,.v 4,.v 5,.v 6,.v 7,.v 8,.v 12]<|.jmp 0 false [.v 13,.c (.int .i64 1)]) (.sub0 [.bool] (.prim (.fld 2) [.v 0]<|.prim .get [.v 12,.v 1]<|.prim (.fld 0) [.v 13]<|.prim (.bin .gtr) [.v 14,.c (.int .i64 0)]<|.ite (.v 15) (.jmp 0 false [.c (.bool true)]) (.prim (.fld 0) [.v 0]<|.prim .get [.v 16,.v 1]<|.prim .get [.v 17,.v 2]<|.prim (.bin .eql) [.v 18,.c (.int .i64 0)]<|.jmp 0 false [.v 19])) 1<|.ite (.v 12) (.mkS zch [.v 9]<|.mkS zbD [.v 3,.v 4,.v 5,.v 6,.v 7,.v 8,.v 13]<|.jmp 0 false [.v 14,.c (.int .i64 8)]) (.prim (.fld 0) [.v 0]<|.prim .get [.v 13,.v 1]<|.prim .get [.v 14,.v 2]<|.prim (.bin .eql) [.v 15,.c (.int .i64 1)]<|.ite (.v 16) (.prim .idx [.v 3,.v 1]<|.prim .idx [.v 3,.v 17]<|.prim .get [.v 3,.v 18]<|.prim .idx [.v 19,.v 2]<|.prim .get [.v 3,.v 18]<|.prim .set [.v 21,.v 20,.c (.int .i64 0)]<|.prim .set [.v 3,.v 18,.v 22]<|.mkS zch [.v 9]<|.mkS zbD [.v 23,.v 4,.v 5,.v 6,.v 7,.v 8,.v 24]<|.jmp 0 false [.v 25,.c (.int .i64 0)]) (.prim (.fld 6) [.v 0]<|.call 93 zbr [.v 17] 1<|.prim (.bin .eql) [.v 18,.c (.int .i64 0)]<|.ite (.v 19) (.mkS zch [.v 9]<|.mkS zbD [.v 3,.v 4,.v 5,.v 6,.v 7,.v 8,.v 20]<|.jmp 0 false [.v 21,.c (.int .i64 6)]) (.prim (.bin .add) [.v 2,.c (.int .i64 1)]<|.mkS zuO [.v 20,.c (.bool false),.c (.bool true),.c (.bool false),.c (.bool false),.c (.bool false),.c (.int .i64 0),.c (.int .i64 0),.c (.int .u32 0)]<|.prim .idx [.v 5,.v 1]<|.prim .set [.v 5,.v 22,.v 21]<|.sub0 [zaS] (.prim .idx [.v 23,.v 1]<|.prim .get [.v 23,.v 24]<|.prim (.bin .add) [.v 1,.c (.int .i64 1)]<|.prim (.fld 0) [.v 25]<|.prim (.bin .sub) [.v 27,.c (.int .i64 1)]<|.prim (.bin .add) [.v 1,.c (.int .i64 1)]<|.mkS zhn [.c (.int .i64 1),.v 26,.c (.int .i64 0),.v 28,.v 29,.c (.int .i64 0),.c (.bool false),.c (.int .u32 0),.c (.int .u32 0)]<|.prim (.fld 2) [.v 25]<|.sub0 [zAc] (.ite (.v 31) (.prim .idx [.v 4,.v 1]<|.prim .idx [.v 4,.v 32]<|.prim (.fld 3) [.v 30]<|.prim .get [.v 4,.v 33]<|.prim .idx [.v 35,.v 34]<|.prim .get [.v 4,.v 33]<|.prim .get [.v 37,.v 36]<|.prim (.setf 0) [.v 30,.c (.int .i64 8)]<|.prim (.setf 4) [.v 39,.c (.int .i64 0)]<|.prim (.setf 8) [.v 40,.v 38]<|.jmp 0 false [.v 41]) (.prim (.fld 1) [.v 25]<|.subp [zAc] (.ite (.v 32) (.prim (.setf 0) [.v 30,.c (.int .i64 2)]<|.jmp 0 false [.v 33]) (.jmp 0 false [.v 30])) 1<|.jmp 0 false [.v 33])) 1<|.sub0 [zaS] (.mkS zch [.v 9]<|.call 154 zab [.v 33,.v 32] 2<|.jmp 0 false [.v 34]) 1<|.jmp 0 false [.v 33]) 1<|.mkS zbD [.v 3,.v 4,.v 23,.v 6,.v 7,.v 8,.v 24]<|.jmp 0 false [.v 25,.c (.int .i64 0)]))))
theorem ziH:zaj cx 12 46=some zfO.erase:=by kernel_rfl
theorem zob:zzK cx 12 noC 46 zfr:=zbb (t:=zfO) ziH (fun _=>rfl) (zaQ [(90,zaY),(93,zbr),(154,zab)] (by kernel_rfl) (.cons zdE (.cons zfp (.cons zaI .nil)))) (fun x=>by kernel_rfl)
def za7 (x13:Msg) (x46:List Int) (x52:Int) (s:(Int×Pool)):Option ((Int×Pool)⊕Pool) :=
 if decide (s.1<x52) then
 (zzG x46 s.1).bind fun v56=>((zaf s.2 (Msg.mk (4:Int) (0:Int) (w64 (v56 + (1:Int))) (Msg.Line x13) (Msg.From x13) (0:Int) false (0:Int) (0:Int))).bind fun v61=>some (v61.1):Option Pool).bind fun v61=>some (Sum.inl (w64 (s.1 + (1:Int)),v61))
 else
 some (Sum.inr (s.2))
def zdn (x21:List (List Int)) (x22:Int) (s:(Int×(List (List Int)))):Option ((Int×(List (List Int)))⊕(List (List Int))) :=
 if decide (s.1<x22) then
 (zzG x21 s.1).bind fun v26=>(zat 1 v26).bind fun v27=>(zzN 24 s.2 ([v27]:List (List Int))).bind fun v29=>some (Sum.inl (w64 (s.1 + (1:Int)),v29))
 else
 some (Sum.inr (s.2))
def zdk (x16:List Entry) (x19:Int) (s:(Int×(List Entry))):Option ((Int×(List Entry))⊕(List Entry)) :=
 if decide (s.1<x19) then
 (zzG x16 s.1).bind fun v23=>(zat 1 (Entry.Share v23)).bind fun v26=>(zzN 32 s.2 ([Entry.mk (Entry.Owner v23) v26]:List Entry)).bind fun v29=>some (Sum.inl (w64 (s.1 + (1:Int)),v29))
 else
 some (Sum.inr (s.2))
def zds (x4:List (List Int)) (x5:Int) (s:(Int×(List (List Int)))):Option ((Int×(List (List Int)))⊕(List (List Int))) :=
 if decide (s.1<x5) then
 (zzG x4 s.1).bind fun v9=>(zat 4 v9).bind fun v10=>(zzN 24 s.2 ([v10]:List (List Int))).bind fun v12=>some (Sum.inl (w64 (s.1 + (1:Int)),v12))
 else
 some (Sum.inr (s.2))
def zdl (x2:List (List Int)) (x3:Int) (s:(Int×(List (List Int)))):Option ((Int×(List (List Int)))⊕(List (List Int))) :=
 if decide (s.1<x3) then
 (zzG x2 s.1).bind fun v7=>(zat 8 v7).bind fun v8=>(zzN 24 s.2 ([v8]:List (List Int))).bind fun v10=>some (Sum.inl (w64 (s.1 + (1:Int)),v10))
 else
 some (Sum.inr (s.2))
def zax (p0:Proto) (p1:Int):Option (Proto×Int) :=
 ((let v3:Int:=(List.length (Proto.State p0):Int)
 (zae (zdl (Proto.State p0) v3) ((0:Int),([]:List (List Int))):Option (List (List Int))).bind fun v4=>some (v4):Option (List (List Int))).bind fun v3=>(let v5:Int:=(List.length (Proto.Val p0):Int)
 (zae (zds (Proto.Val p0) v5) ((0:Int),([]:List (List Int))):Option (List (List Int))).bind fun v6=>some (v6):Option (List (List Int))).bind fun v5=>(zat 40 (Proto.Wait p0)).bind fun v7=>(zat 4 (Proto.Home p0)).bind fun v9=>(zat 8 (Proto.Busy p0)).bind fun v11=>let v19:Int:=(List.length (Proto.Dir p0):Int)
 (zae (zdk (Proto.Dir p0) v19) ((0:Int),([]:List Entry)):Option (List Entry)).bind fun v20=>let v21:List (List Int):=Pool.Frames (Proto.Pool p0)
 (let v22:Int:=(v21.length:Int)
 (zae (zdn v21 v22) ((0:Int),([]:List (List Int))):Option (List (List Int))).bind fun v23=>some (v23):Option (List (List Int))).bind fun v22=>some ((v3,v5,v7,v9,v20,v11,v22)):Option ((List (List Int))×(List (List Int))×(List Wait)×(List Int)×(List Entry)×(List Int)×(List (List Int)))).bind fun v2=>(za4 p0).bind fun v9=>if !v9 then
 some ((Proto.mk v2.1 v2.2.1 v2.2.2.1 v2.2.2.2.1 v2.2.2.2.2.1 v2.2.2.2.2.2.1 (Pool.mk v2.2.2.2.2.2.2),(1:Int)))
 else
 (zdd (Proto.Pool p0) p1).bind fun v12=>if decide (v12.2.2=(7:Int)) then
 some ((Proto.mk v2.1 v2.2.1 v2.2.2.1 v2.2.2.2.1 v2.2.2.2.2.1 v2.2.2.2.2.2.1 (Pool.mk v2.2.2.2.2.2.2),v12.2.2))
 else
 (zcr v12.1).bind fun v16=>if decide (v16<(w64 ((List.length (Proto.Wait p0):Int) + (1:Int)))) then
 some ((Proto.mk v2.1 v2.2.1 v2.2.2.1 v2.2.2.2.1 v2.2.2.2.2.1 v2.2.2.2.2.2.1 (Pool.mk v2.2.2.2.2.2.2),(6:Int)))
 else
 (if (!decide (v12.2.2=(0:Int)))||(!(zcz p0 v12.2.1)) then
 some ((v12.1,v2.1,v2.2.1,v2.2.2.1,v2.2.2.2.1,v2.2.2.2.2.1,v2.2.2.2.2.2.1))
 else
 (if decide ((0:Int)<(Msg.To v12.2.1)) then
 let v25:Int:=w64 ((Msg.To v12.2.1) - (1:Int))
 ((zzH (List.length v2.2.2.1:Int) v25).bind fun v26=>(zzH (List.length v2.1:Int) v25).bind fun v27=>(zzH (List.length v2.1:Int) v27).bind fun v28=>(zzG v2.1 v28).bind fun v30=>(zzH (v30.length:Int) (Msg.Line v12.2.1)).bind fun v31=>(zzG v2.2.2.1 v26).bind fun v32=>let v36:Bool:=decide ((Wait.Line v32)=(w64 ((Msg.Line v12.2.1) + (1:Int))))
 (if decide ((Msg.Kind v12.2.1)=(3:Int)) then
 (if v36 then
 (zzG v2.2.2.1 v26).bind fun v39=>if !(Wait.Back v39) then
 (zzG v2.2.2.1 v26).bind fun v42=>some ((!(Wait.Came v42)))
 else
 some (false)
 else
 some (false):Option Bool).bind fun v39=>(if v39 then
 (zzG v2.2.2.1 v26).bind fun v45=>(zzI v2.2.2.1 v26 (Wait.setCame v45 true)).bind fun v47=>(zzG v47 v26).bind fun v48=>(zzI v47 v26 (Wait.setNeed v48 (Msg.Acks v12.2.1))).bind fun v50=>(zzG v50 v26).bind fun v51=>(zzI v50 v26 (Wait.setOwn v51 (Msg.Own v12.2.1))).bind fun v53=>(zzG v53 v26).bind fun v54=>(zzI v53 v26 (Wait.setKeep v54 (decide ((Msg.Num v12.2.1)=(1:Int))))).bind fun v56=>(zzG v56 v26).bind fun v57=>(zzI v56 v26 (Wait.setVal v57 (Msg.Val v12.2.1))).bind fun v59=>((zzH (v59.length:Int) v25).bind fun v60=>(zzG v59 v60).bind fun v61=>if (!(Wait.Came v61))||(decide ((Wait.Got v61)<(Wait.Need v61))) then
 some ((v12.1,v2.1,v2.2.1,v59))
 else
 let v64:Int:=w64 ((Wait.Line v61) - (1:Int))
 (zzH (List.length v2.1:Int) v25).bind fun v67=>(zzH (List.length v2.1:Int) v67).bind fun v68=>(zzG v2.1 v68).bind fun v69=>(zzH (v69.length:Int) v64).bind fun v70=>(zzG v2.1 v68).bind fun v71=>(zzI v71 v70 (bif Wait.Write v61 then (3:Int) else bif Wait.Own v61 then (2:Int) else (1:Int))).bind fun v72=>(zzI v2.1 v68 v72).bind fun v73=>(if !(Wait.Keep v61) then
 (zzH (List.length v2.2.1:Int) v25).bind fun v76=>(zzH (List.length v2.2.1:Int) v76).bind fun v77=>(zzG v2.2.1 v77).bind fun v79=>(zzH (v79.length:Int) v64).bind fun v80=>(zzG v2.2.1 v77).bind fun v81=>(zzI v81 v80 (Wait.Val v61)).bind fun v82=>(zzI v2.2.1 v77 v82).bind fun v83=>some (v83)
 else
 some (v2.2.1):Option (List (List Int))).bind fun v76=>(zzH (v59.length:Int) v25).bind fun v77=>(zzI v59 v77 (Wait.mk (0:Int) false false false false false (0:Int) (0:Int) (0:Int))).bind fun v78=>((zaf v12.1 (Msg.mk (11:Int) (w64 (v25 + (1:Int))) (0:Int) v64 (0:Int) (0:Int) false (0:Int) (0:Int))).bind fun v81=>some (v81.1):Option Pool).bind fun v81=>some ((v81,v73,v76,v78)):Option (Pool×(List (List Int))×(List (List Int))×(List Wait))).bind fun v60=>some ((v60.1,v60.2.1,v60.2.2.1,v60.2.2.2))
 else
 some ((v12.1,v2.1,v2.2.1,v2.2.2.1)):Option (Pool×(List (List Int))×(List (List Int))×(List Wait))).bind fun v40=>some ((v40.1,v40.2.1,v40.2.2.1,v40.2.2.2))
 else
 (if decide ((Msg.Kind v12.2.1)=(5:Int)) then
 (if v36 then
 (zzG v2.2.2.1 v26).bind fun v40=>if Wait.Write v40 then
 (zzG v2.2.2.1 v26).bind fun v42=>some ((decide ((Wait.Got v42)<(255:Int))))
 else
 some (false)
 else
 some (false):Option Bool).bind fun v40=>(if v40 then
 (zzG v2.2.2.1 v26).bind fun v41=>(zzG v2.2.2.1 v26).bind fun v44=>(zzI v2.2.2.1 v26 (Wait.setGot v44 (w64 ((Wait.Got v41) + (1:Int))))).bind fun v46=>((zzH (v46.length:Int) v25).bind fun v47=>(zzG v46 v47).bind fun v48=>if (!(Wait.Came v48))||(decide ((Wait.Got v48)<(Wait.Need v48))) then
 some ((v12.1,v2.1,v2.2.1,v46))
 else
 let v51:Int:=w64 ((Wait.Line v48) - (1:Int))
 (zzH (List.length v2.1:Int) v25).bind fun v54=>(zzH (List.length v2.1:Int) v54).bind fun v55=>(zzG v2.1 v55).bind fun v56=>(zzH (v56.length:Int) v51).bind fun v57=>(zzG v2.1 v55).bind fun v58=>(zzI v58 v57 (bif Wait.Write v48 then (3:Int) else bif Wait.Own v48 then (2:Int) else (1:Int))).bind fun v59=>(zzI v2.1 v55 v59).bind fun v60=>(if !(Wait.Keep v48) then
 (zzH (List.length v2.2.1:Int) v25).bind fun v63=>(zzH (List.length v2.2.1:Int) v63).bind fun v64=>(zzG v2.2.1 v64).bind fun v66=>(zzH (v66.length:Int) v51).bind fun v67=>(zzG v2.2.1 v64).bind fun v68=>(zzI v68 v67 (Wait.Val v48)).bind fun v69=>(zzI v2.2.1 v64 v69).bind fun v70=>some (v70)
 else
 some (v2.2.1):Option (List (List Int))).bind fun v63=>(zzH (v46.length:Int) v25).bind fun v64=>(zzI v46 v64 (Wait.mk (0:Int) false false false false false (0:Int) (0:Int) (0:Int))).bind fun v65=>((zaf v12.1 (Msg.mk (11:Int) (w64 (v25 + (1:Int))) (0:Int) v51 (0:Int) (0:Int) false (0:Int) (0:Int))).bind fun v68=>some (v68.1):Option Pool).bind fun v68=>some ((v68,v60,v63,v65)):Option (Pool×(List (List Int))×(List (List Int))×(List Wait))).bind fun v47=>some ((v47.1,v47.2.1,v47.2.2.1,v47.2.2.2))
 else
 some ((v12.1,v2.1,v2.2.1,v2.2.2.1)):Option (Pool×(List (List Int))×(List (List Int))×(List Wait))).bind fun v41=>some ((v41.1,v41.2.1,v41.2.2.1,v41.2.2.2))
 else
 (if decide ((Msg.Kind v12.2.1)=(4:Int)) then
 (zzG v2.1 v28).bind fun v41=>(zzG v41 v31).bind fun v42=>(if decide (v42=(1:Int)) then
 (zzG v2.1 v28).bind fun v44=>(zzI v44 v31 (0:Int)).bind fun v45=>(zzI v2.1 v28 v45).bind fun v46=>some (v46)
 else
 some (v2.1):Option (List (List Int))).bind fun v44=>((zaf v12.1 (Msg.mk (5:Int) (w64 (v25 + (1:Int))) (Msg.For v12.2.1) (Msg.Line v12.2.1) (0:Int) (0:Int) false (0:Int) (0:Int))).bind fun v49=>some (v49.1):Option Pool).bind fun v49=>some ((v49,v44,v2.2.2.1))
 else
 let v41:Bool:=decide ((Msg.Kind v12.2.1)=(6:Int))
 (if bif v41 then v41 else decide ((Msg.Kind v12.2.1)=(7:Int)) then
 ((zzH (List.length v2.1:Int) v25).bind fun v43=>(zzH (List.length v2.1:Int) v43).bind fun v44=>(zzG v2.1 v44).bind fun v46=>(zzH (v46.length:Int) (Msg.Line v12.2.1)).bind fun v47=>(zzG v2.1 v44).bind fun v48=>(zzG v48 v47).bind fun v49=>if !(zcN v49) then
 some ((v12.1,v2.1))
 else
 let v53:Bool:=decide ((Msg.Kind v12.2.1)=(7:Int))
 (zzH (List.length v2.2.1:Int) v25).bind fun v58=>(zzH (List.length v2.2.1:Int) v58).bind fun v59=>(zzG v2.2.1 v59).bind fun v61=>(zzH (v61.length:Int) (Msg.Line v12.2.1)).bind fun v62=>(zzG v2.2.1 v59).bind fun v63=>(zzG v63 v62).bind fun v64=>((zaf v12.1 (Msg.mk (3:Int) (w64 (v25 + (1:Int))) (Msg.For v12.2.1) (Msg.Line v12.2.1) (0:Int) (Msg.Acks v12.2.1) v53 (0:Int) v64)).bind fun v66=>some (v66.1):Option Pool).bind fun v66=>(zzG v2.1 v44).bind fun v67=>(zzI v67 v47 (4:Int)).bind fun v68=>(zzI v2.1 v44 v68).bind fun v69=>(if v53 then
 (zzG v69 v44).bind fun v70=>(zzI v70 v47 (0:Int)).bind fun v71=>(zzI v69 v44 v71).bind fun v72=>some (v72)
 else
 some (v69):Option (List (List Int))).bind fun v70=>some ((v66,v70)):Option (Pool×(List (List Int)))).bind fun v43=>some ((v43.1,v43.2,v2.2.2.1))
 else
 (if decide ((Msg.Kind v12.2.1)=(10:Int)) then
 (if !v36 then
 some (true)
 else
 (zzG v2.2.2.1 v26).bind fun v45=>some ((Wait.Came v45)):Option Bool).bind fun v44=>(if v44 then
 some ((v12.1,v2.2.2.1))
 else
 ((zzG v2.2.2.1 v26).bind fun v45=>if Wait.Back v45 then
 (zzG v2.1 v28).bind fun v47=>(zzG v47 v31).bind fun v48=>some ((!(zcN v48)))
 else
 some (false):Option Bool).bind fun v45=>(if v45 then
 (zzI v2.2.2.1 v26 (Wait.mk (0:Int) false false false false false (0:Int) (0:Int) (0:Int))).bind fun v46=>some ((v12.1,v46))
 else
 ((zzH (List.length v2.2.2.1:Int) v25).bind fun v46=>(zzG v2.2.2.1 v46).bind fun v47=>let v52:Msg:=Msg.mk (1:Int) (w64 (v25 + (1:Int))) (0:Int) (w64 ((Wait.Line v47) - (1:Int))) (w64 (v25 + (1:Int))) (0:Int) false (0:Int) (0:Int)
 (if Wait.Back v47 then
 (zzH (List.length v2.2.1:Int) v25).bind fun v54=>(zzH (List.length v2.2.1:Int) v54).bind fun v55=>(zzG v2.2.1 v55).bind fun v57=>(zzH (v57.length:Int) (Msg.Line v52)).bind fun v58=>(zzG v2.2.1 v55).bind fun v59=>(zzG v59 v58).bind fun v60=>some ((Msg.setVal (Msg.setFor (Msg.setKind v52 (8:Int)) (0:Int)) v60))
 else
 some ((bif Wait.Write v47 then Msg.setKind v52 (2:Int) else v52)):Option Msg).bind fun v54=>((zaf v12.1 v54).bind fun v55=>some (v55.1):Option Pool).bind fun v55=>some (v55):Option Pool).bind fun v46=>some ((v46,v2.2.2.1)):Option (Pool×(List Wait))).bind fun v46=>some ((v46.1,v46.2)):Option (Pool×(List Wait))).bind fun v45=>some ((v45.1,v2.1,v45.2))
 else
 (if decide ((Msg.Kind v12.2.1)=(9:Int)) then
 (if v36 then
 (zzG v2.2.2.1 v26).bind fun v45=>some ((Wait.Back v45))
 else
 some (false):Option Bool).bind fun v45=>(if v45 then
 (zzG v2.1 v28).bind fun v46=>(zzI v46 v31 (0:Int)).bind fun v47=>(zzI v2.1 v28 v47).bind fun v48=>(zzI v2.2.2.1 v26 (Wait.mk (0:Int) false false false false false (0:Int) (0:Int) (0:Int))).bind fun v49=>some ((v48,v49))
 else
 some ((v2.1,v2.2.2.1)):Option ((List (List Int))×(List Wait))).bind fun v46=>some ((v46.1,v46.2))
 else
 some ((v2.1,v2.2.2.1)):Option ((List (List Int))×(List Wait))).bind fun v45=>some ((v12.1,v45.1,v45.2)):Option (Pool×(List (List Int))×(List Wait))).bind fun v44=>some ((v44.1,v44.2.1,v44.2.2)):Option (Pool×(List (List Int))×(List Wait))).bind fun v43=>some ((v43.1,v43.2.1,v43.2.2)):Option (Pool×(List (List Int))×(List Wait))).bind fun v41=>some ((v41.1,v41.2.1,v2.2.1,v41.2.2)):Option (Pool×(List (List Int))×(List (List Int))×(List Wait))).bind fun v40=>some ((v40.1,v40.2.1,v40.2.2.1,v40.2.2.2)):Option (Pool×(List (List Int))×(List (List Int))×(List Wait))).bind fun v39=>some ((v39.1,v39.2.1,v39.2.2.1,v39.2.2.2)):Option (Pool×(List (List Int))×(List (List Int))×(List Wait))).bind fun v26=>some ((v26.1,v26.2.1,v26.2.2.1,v26.2.2.2,v2.2.2.2.1,v2.2.2.2.2.1,v2.2.2.2.2.2.1))
 else
 (if decide ((0:Int)<(Msg.From v12.2.1)) then
 (let v27:Bool:=decide ((Msg.Kind v12.2.1)=(1:Int))
 zbv (if bif v27 then v27 else decide ((Msg.Kind v12.2.1)=(2:Int)) then
 (if !decide ((Msg.For v12.2.1)=(Msg.From v12.2.1)) then
 some ((v12.1,v2.2.2.2.2.1,v2.2.2.2.2.2.1))
 else
 (zzH (List.length v2.2.2.2.2.2.1:Int) (Msg.Line v12.2.1)).bind fun v33=>(zzG v2.2.2.2.2.2.1 v33).bind fun v34=>if decide ((0:Int)<v34) then
 ((zaf v12.1 (Msg.mk (10:Int) (0:Int) (Msg.From v12.2.1) (Msg.Line v12.2.1) (0:Int) (0:Int) false (0:Int) (0:Int))).bind fun v39=>some (v39.1):Option Pool).bind fun v39=>some ((v39,v2.2.2.2.2.1,v2.2.2.2.2.2.1))
 else
 (zzH (List.length v2.2.2.2.2.2.1:Int) (Msg.Line v12.2.1)).bind fun v38=>(zzI v2.2.2.2.2.2.1 v38 (Msg.From v12.2.1)).bind fun v39=>(zzH (List.length v2.2.2.2.2.1:Int) (Msg.Line v12.2.1)).bind fun v41=>(zzG v2.2.2.2.2.1 v41).bind fun v42=>(if decide ((Msg.Kind v12.2.1)=(2:Int)) then
 (zd8 v42 (w64 ((Msg.From v12.2.1) - (1:Int)))).bind fun v47=>some ((v47.2.1,v47.2.2.1,(7:Int),v47.1))
 else
 (ze7 v42 (w64 ((Msg.From v12.2.1) - (1:Int)))).bind fun v47=>some ((v47.2.1,([]:List Int),(6:Int),v47.1)):Option (Int×(List Int)×Int×Entry)).bind fun v45=>(zzH (List.length v2.2.2.2.2.1:Int) (Msg.Line v12.2.1)).bind fun v50=>(zzI v2.2.2.2.2.1 v50 v45.2.2.2).bind fun v51=>let v52:Int:=(List.length v45.2.1:Int)
 (zae (za7 v12.2.1 v45.2.1 v52) ((0:Int),v12.1):Option Pool).bind fun v53=>(if decide ((Entry.Owner v45.2.2.2)=(Msg.From v12.2.1)) then
 (zcJ v45.2.2.2).bind fun v57=>some (v57)
 else
 some (false):Option Bool).bind fun v54=>(if decide (v45.1=(0:Int)) then
 (zzH (List.length v2.2.2.2.1:Int) (Msg.Line v12.2.1)).bind fun v60=>(zzG v2.2.2.2.1 v60).bind fun v61=>((zaf v53 (Msg.mk (3:Int) (0:Int) (Msg.From v12.2.1) (Msg.Line v12.2.1) (0:Int) (List.length v45.2.1:Int) v54 (0:Int) v61)).bind fun v63=>some (v63.1):Option Pool).bind fun v63=>some (v63)
 else
 (if decide (v45.1=(Msg.From v12.2.1)) then
 ((zaf v53 (Msg.mk (3:Int) (0:Int) (Msg.From v12.2.1) (Msg.Line v12.2.1) (0:Int) (List.length v45.2.1:Int) v54 (1:Int) (0:Int))).bind fun v62=>some (v62.1):Option Pool).bind fun v62=>some (v62)
 else
 ((zaf v53 (Msg.mk v45.2.2.1 (0:Int) v45.1 (Msg.Line v12.2.1) (Msg.From v12.2.1) (List.length v45.2.1:Int) false (0:Int) (0:Int))).bind fun v62=>some (v62.1):Option Pool).bind fun v62=>some (v62):Option Pool).bind fun v58=>some (v58):Option Pool).bind fun v56=>some ((v56,v51,v39)):Option (Pool×(List Entry)×(List Int))).bind fun v29=>some (Sum.inl (v29.1,v2.2.2.2.1,v29.2.1,v29.2.2))
 else
 zbv (if decide ((Msg.Kind v12.2.1)=(8:Int)) then
 (zzH (List.length v2.2.2.2.2.2.1:Int) (Msg.Line v12.2.1)).bind fun v31=>(zzG v2.2.2.2.2.2.1 v31).bind fun v32=>if decide ((0:Int)<v32) then
 ((zaf v12.1 (Msg.mk (10:Int) (0:Int) (Msg.From v12.2.1) (Msg.Line v12.2.1) (0:Int) (0:Int) false (0:Int) (0:Int))).bind fun v37=>some (v37.1):Option Pool).bind fun v37=>some (Sum.inr (Sum.inr ((v37,v2.2.2.2.1,v2.2.2.2.2.1,v2.2.2.2.2.2.1))))
 else
 (zzH (List.length v2.2.2.2.2.1:Int) (Msg.Line v12.2.1)).bind fun v35=>(zzG v2.2.2.2.2.1 v35).bind fun v36=>(zeZ v36 (w64 ((Msg.From v12.2.1) - (1:Int)))).bind fun v39=>(if decide (v39.2=(0:Int)) then
 (zzH (List.length v2.2.2.2.2.1:Int) (Msg.Line v12.2.1)).bind fun v45=>(zzI v2.2.2.2.2.1 v45 v39.1).bind fun v46=>(zzH (List.length v2.2.2.2.1:Int) (Msg.Line v12.2.1)).bind fun v47=>(zzI v2.2.2.2.1 v47 (Msg.Val v12.2.1)).bind fun v48=>some ((v48,v46))
 else
 some ((v2.2.2.2.1,v2.2.2.2.2.1)):Option ((List Int)×(List Entry))).bind fun v42=>((zaf v12.1 (Msg.mk (9:Int) (0:Int) (Msg.From v12.2.1) (Msg.Line v12.2.1) (0:Int) (0:Int) false (0:Int) (0:Int))).bind fun v47=>some (v47.1):Option Pool).bind fun v47=>some (Sum.inl (v47,v42.1,v42.2,v2.2.2.2.2.2.1))
 else
 (if decide ((Msg.Kind v12.2.1)=(11:Int)) then
 (zzH (List.length v2.2.2.2.2.2.1:Int) (Msg.Line v12.2.1)).bind fun v32=>(zzG v2.2.2.2.2.2.1 v32).bind fun v33=>(if decide (v33=(Msg.From v12.2.1)) then
 (zzH (List.length v2.2.2.2.2.2.1:Int) (Msg.Line v12.2.1)).bind fun v37=>(zzI v2.2.2.2.2.2.1 v37 (0:Int)).bind fun v38=>some (v38)
 else
 some (v2.2.2.2.2.2.1):Option (List Int)).bind fun v36=>some (v36)
 else
 some (v2.2.2.2.2.2.1):Option (List Int)).bind fun v31=>some (Sum.inl (v12.1,v2.2.2.2.1,v2.2.2.2.2.1,v31)):Option ((Pool×(List Int)×(List Entry)×(List Int))⊕(Pool×(List Int)×(List Entry)×(List Int))⊕(Pool×(List Int)×(List Entry)×(List Int)))) fun v30=>some (Sum.inl (v30.1,v30.2.1,v30.2.2.1,v30.2.2.2)):Option ((Pool×(List Int)×(List Entry)×(List Int))⊕(Pool×(List Int)×(List Entry)×(List Int)))) fun v29=>some ((v29.1,v29.2.1,v29.2.2.1,v29.2.2.2)):Option (Pool×(List Int)×(List Entry)×(List Int))).bind fun v26=>some ((v26.1,v26.2.1,v26.2.2.1,v26.2.2.2))
 else
 some ((v12.1,v2.2.2.2.1,v2.2.2.2.2.1,v2.2.2.2.2.2.1)):Option (Pool×(List Int)×(List Entry)×(List Int))).bind fun v26=>some ((v26.1,v2.1,v2.2.1,v2.2.2.1,v26.2.1,v26.2.2.1,v26.2.2.2)):Option (Pool×(List (List Int))×(List (List Int))×(List Wait)×(List Int)×(List Entry)×(List Int))).bind fun v24=>some ((v24.1,v24.2.1,v24.2.2.1,v24.2.2.2.1,v24.2.2.2.2.1,v24.2.2.2.2.2.1,v24.2.2.2.2.2.2)):Option (Pool×(List (List Int))×(List (List Int))×(List Wait)×(List Int)×(List Entry)×(List Int))).bind fun v22=>some ((Proto.mk v22.2.1 v22.2.2.1 v22.2.2.2.1 v22.2.2.2.2.1 v22.2.2.2.2.2.1 v22.2.2.2.2.2.2 v22.1,v12.2.2))
def zbG:FnT:=⟨[zaD,.int .i64],[zaD,.int .i64],fun x=>zax x.1 x.2⟩
def zdY:TA :=
 .sub0 [.sl (.sl (.int .i64)),.sl (.sl (.int .u32)),.sl zck,.sl (.int .u32),.sl zaE,.sl (.int .i64),.sl (.sl (.int .u8))] (.prim (.fld 0) [.v 0]<|.sub0 [.sl (.sl (.int .i64))] (.prim .len [.v 2]<|.sub0 [.sl (.sl (.int .i64))] (.loop [.int .i64,.sl (.sl (.int .i64))] [.c (.int .i64 0),.c .nil] (.prim (.bin .lss) [.v 4,.v 3]<|.ite (.v 6) (.prim .get [.v 2,.v 4]<|.prim (.clone 8) [.v 7]<|.mkL (.sl (.int .i64)) [.v 8]<|.prim (.app 24) [.v 5,.v 9]<|.prim (.bin .add) [.v 4,.c (.int .i64 1)]<|.jmp 0 true [.v 11,.v 10]) (.jmp 1 false [.v 5]))) 1<|.jmp 0 false [.v 4]) 1<|.prim (.fld 1) [.v 0]<|.sub0 [.sl (.sl (.int .u32))] (.prim .len [.v 4]<|.sub0 [.sl (.sl (.int .u32))] (.loop [.int .i64,.sl (.sl (.int .u32))] [.c (.int .i64 0),.c .nil] (.prim (.bin .lss) [.v 6,.v 5]<|.ite (.v 8) (.prim .get [.v 4,.v 6]<|.prim (.clone 4) [.v 9]<|.mkL (.sl (.int .u32)) [.v 10]<|.prim (.app 24) [.v 7,.v 11]<|.prim (.bin .add) [.v 6,.c (.int .i64 1)]<|.jmp 0 true [.v 13,.v 12]) (.jmp 1 false [.v 7]))) 1<|.jmp 0 false [.v 6]) 1<|.prim (.fld 2) [.v 0]<|.prim (.clone 40) [.v 6]<|.prim (.fld 3) [.v 0]<|.prim (.clone 4) [.v 8]<|.prim (.fld 5) [.v 0]<|.prim (.clone 8) [.v 10]<|.prim (.fld 0) [.v 0]<|.prim (.fld 1) [.v 0]<|.prim (.fld 2) [.v 0]<|.prim (.fld 3) [.v 0]<|.prim (.fld 4) [.v 0]<|.prim (.fld 5) [.v 0]<|.prim (.fld 6) [.v 0]<|.prim .len [.v 16]<|.sub0 [.sl zaE] (.loop [.int .i64,.sl zaE] [.c (.int .i64 0),.c .nil] (.prim (.bin .lss) [.v 20,.v 19]<|.ite (.v 22) (.prim .get [.v 16,.v 20]<|.prim (.fld 0) [.v 23]<|.prim (.fld 1) [.v 23]<|.prim (.clone 1) [.v 25]<|.mkS zbT [.v 24,.v 26]<|.mkL zaE [.v 27]<|.prim (.app 32) [.v 21,.v 28]<|.prim (.bin .add) [.v 20,.c (.int .i64 1)]<|.jmp 0 true [.v 30,.v 29]) (.jmp 1 false [.v 21]))) 1<|.prim (.fld 0) [.v 18]<|.sub0 [.sl (.sl (.int .u8))] (.prim .len [.v 21]<|.sub0 [.sl (.sl (.int .u8))] (.loop [.int .i64,.sl (.sl (.int .u8))] [.c (.int .i64 0),.c .nil] (.prim (.bin .lss) [.v 23,.v 22]<|.ite (.v 25) (.prim .get [.v 21,.v 23]<|.prim (.clone 1) [.v 26]<|.mkL (.sl (.int .u8)) [.v 27]<|.prim (.app 24) [.v 24,.v 28]<|.prim (.bin .add) [.v 23,.c (.int .i64 1)]<|.jmp 0 true [.v 30,.v 29]) (.jmp 1 false [.v 24]))) 1<|.jmp 0 false [.v 23]) 1<|.jmp 0 false [.v 3,.v 5,.v 7,.v 9,.v 20,.v 11,.v 22]) 7<|.call 88 zaL [.v 0] 1<|.prim (.un .not) [.v 9]<|.ite (.v 10) (.mkS zch [.v 8]<|.mkS zbD [.v 2,.v 3,.v 4,.v 5,.v 6,.v 7,.v 11]<|.jmp 0 false [.v 12,.c (.int .i64 1)]) (.prim (.fld 6) [.v 0]<|.call 99 ziq [.v 11,.v 1] 3<|.prim (.bin .eql) [.v 14,.c (.int .i64 7)]<|.ite (.v 15) (.mkS zch [.v 8]<|.mkS zbD [.v 2,.v 3,.v 4,.v 5,.v 6,.v 7,.v 16]<|.jmp 0 false [.v 17,.v 14]) (.call 93 zbr [.v 12] 1<|.prim (.fld 2) [.v 0]<|.prim .len [.v 17]<|.prim (.bin .add) [.v 18,.c (.int .i64 1)]<|.prim (.bin .lss) [.v 16,.v 19]<|.ite (.v 20) (.mkS zch [.v 8]<|.mkS zbD [.v 2,.v 3,.v 4,.v 5,.v 6,.v 7,.v 21]<|.jmp 0 false [.v 22,.c (.int .i64 6)]) (.subp [.bool] (.prim (.bin .neq) [.v 14,.c (.int .i64 0)]<|.ite (.v 21) (.jmp 0 false [.c (.bool true)]) (.callp 100 zgo [.v 0,.v 13] 1<|.prim (.un .not) [.v 22]<|.jmp 0 false [.v 23])) 1<|.sub0 [zaS,.sl (.sl (.int .i64)),.sl (.sl (.int .u32)),.sl zck,.sl (.int .u32),.sl zaE,.sl (.int .i64)] (.ite (.v 21) (.jmp 0 false [.v 12,.v 2,.v 3,.v 4,.v 5,.v 6,.v 7]) (.prim (.fld 2) [.v 13]<|.prim (.bin .gtr) [.v 22,.c (.int .i64 0)]<|.sub0 [zaS,.sl (.sl (.int .i64)),.sl (.sl (.int .u32)),.sl zck,.sl (.int .u32),.sl zaE,.sl (.int .i64)] (.ite (.v 23) (.prim (.fld 2) [.v 13]<|.prim (.bin .sub) [.v 24,.c (.int .i64 1)]<|.sub0 [zaS,.sl (.sl (.int .i64)),.sl (.sl (.int .u32)),.sl zck] (.prim .idx [.v 4,.v 25]<|.prim .idx [.v 2,.v 25]<|.prim .idx [.v 2,.v 27]<|.prim (.fld 3) [.v 13]<|.prim .get [.v 2,.v 28]<|.prim .idx [.v 30,.v 29]<|.prim .get [.v 4,.v 26]<|.prim (.fld 0) [.v 32]<|.prim (.fld 3) [.v 13]<|.prim (.bin .add) [.v 34,.c (.int .i64 1)]<|.prim (.bin .eql) [.v 33,.v 35]<|.prim (.fld 0) [.v 13]<|.prim (.bin .eql) [.v 37,.c (.int .i64 3)]<|.sub0 [zaS,.sl (.sl (.int .i64)),.sl (.sl (.int .u32)),.sl zck] (.ite (.v 38) (.sub0 [.bool] (.ite (.v 36) (.prim .get [.v 4,.v 26]<|.prim (.fld 2) [.v 39]<|.prim (.un .not) [.v 40]<|.ite (.v 41) (.prim .get [.v 4,.v 26]<|.prim (.fld 3) [.v 42]<|.prim (.un .not) [.v 43]<|.jmp 0 false [.v 44]) (.jmp 0 false [.c (.bool false)])) (.jmp 0 false [.c (.bool false)])) 1<|.sub0 [zaS,.sl (.sl (.int .i64)),.sl (.sl (.int .u32)),.sl zck] (.ite (.v 39) (.prim (.fld 5) [.v 13]<|.prim (.fld 6) [.v 13]<|.prim (.fld 7) [.v 13]<|.prim (.bin .eql) [.v 42,.c (.int .u32 1)]<|.prim (.fld 8) [.v 13]<|.prim .get [.v 4,.v 26]<|.prim (.setf 3) [.v 45,.c (.bool true)]<|.prim .set [.v 4,.v 26,.v 46]<|.prim .get [.v 47,.v 26]<|.prim (.setf 6) [.v 48,.v 40]<|.prim .set [.v 47,.v 26,.v 49]<|.prim .get [.v 50,.v 26]<|.prim (.setf 4) [.v 51,.v 41]<|.prim .set [.v 50,.v 26,.v 52]<|.prim .get [.v 53,.v 26]<|.prim (.setf 5) [.v 54,.v 43]<|.prim .set [.v 53,.v 26,.v 55]<|.prim .get [.v 56,.v 26]<|.prim (.setf 8) [.v 57,.v 44]<|.prim .set [.v 56,.v 26,.v 58]<|.sub0 [zaS,.sl (.sl (.int .i64)),.sl (.sl (.int .u32)),.sl zck] (.prim .idx [.v 59,.v 25]<|.prim .get [.v 59,.v 60]<|.subp [.bool] (.prim (.fld 3) [.v 61]<|.prim (.un .not) [.v 62]<|.ite (.v 63) (.jmp 0 false [.c (.bool true)]) (.prim (.fld 7) [.v 61]<|.prim (.fld 6) [.v 61]<|.prim (.bin .lss) [.v 64,.v 65]<|.jmp 0 false [.v 66])) 1<|.ite (.v 62) (.jmp 0 false [.v 12,.v 2,.v 3,.v 59]) (.prim (.fld 0) [.v 61]<|.prim (.bin .sub) [.v 63,.c (.int .i64 1)]<|.prim (.fld 1) [.v 61]<|.subp [.int .i64] (.ite (.v 65) (.jmp 0 false [.c (.int .i64 3)]) (.prim (.fld 4) [.v 61]<|.subp [.int .i64] (.ite (.v 66) (.jmp 0 false [.c (.int .i64 2)]) (.jmp 0 false [.c (.int .i64 1)])) 1<|.jmp 0 false [.v 67])) 1<|.prim .idx [.v 2,.v 25]<|.prim .idx [.v 2,.v 67]<|.prim .get [.v 2,.v 68]<|.prim .idx [.v 69,.v 64]<|.prim .get [.v 2,.v 68]<|.prim .set [.v 71,.v 70,.v 66]<|.prim .set [.v 2,.v 68,.v 72]<|.prim (.fld 5) [.v 61]<|.prim (.un .not) [.v 74]<|.sub0 [.sl (.sl (.int .u32))] (.ite (.v 75) (.prim .idx [.v 3,.v 25]<|.prim .idx [.v 3,.v 76]<|.prim (.fld 8) [.v 61]<|.prim .get [.v 3,.v 77]<|.prim .idx [.v 79,.v 64]<|.prim .get [.v 3,.v 77]<|.prim .set [.v 81,.v 80,.v 78]<|.prim .set [.v 3,.v 77,.v 82]<|.jmp 0 false [.v 83]) (.jmp 0 false [.v 3])) 1<|.prim .idx [.v 59,.v 25]<|.primH .set zck [.v 59,.v 77,.c (.agg [(.int .i64 0),(.bool false),(.bool false),(.bool false),(.bool false),(.bool false),(.int .i64 0),(.int .i64 0),(.int .u32 0)])]<|.prim (.bin .add) [.v 25,.c (.int .i64 1)]<|.mkS zhn [.c (.int .i64 11),.v 79,.c (.int .i64 0),.v 64,.c (.int .i64 0),.c (.int .i64 0),.c (.bool false),.c (.int .u32 0),.c (.int .u32 0)]<|.sub0 [zaS] (.call 154 zab [.v 12,.v 80] 2<|.jmp 0 false [.v 81]) 1<|.jmp 0 false [.v 81,.v 73,.v 76,.v 78])) 4<|.jmp 0 false [.v 60,.v 61,.v 62,.v 63]) (.jmp 0 false [.v 12,.v 2,.v 3,.v 4])) 4<|.jmp 0 false [.v 40,.v 41,.v 42,.v 43]) (.prim (.bin .eql) [.v 37,.c (.int .i64 5)]<|.sub0 [zaS,.sl (.sl (.int .i64)),.sl (.sl (.int .u32)),.sl zck] (.ite (.v 39) (.sub0 [.bool] (.ite (.v 36) (.prim .get [.v 4,.v 26]<|.prim (.fld 1) [.v 40]<|.ite (.v 41) (.prim .get [.v 4,.v 26]<|.prim (.fld 7) [.v 42]<|.prim (.bin .lss) [.v 43,.c (.int .i64 255)]<|.jmp 0 false [.v 44]) (.jmp 0 false [.c (.bool false)])) (.jmp 0 false [.c (.bool false)])) 1<|.sub0 [zaS,.sl (.sl (.int .i64)),.sl (.sl (.int .u32)),.sl zck] (.ite (.v 40) (.prim .get [.v 4,.v 26]<|.prim (.fld 7) [.v 41]<|.prim (.bin .add) [.v 42,.c (.int .i64 1)]<|.prim .get [.v 4,.v 26]<|.prim (.setf 7) [.v 44,.v 43]<|.prim .set [.v 4,.v 26,.v 45]<|.sub0 [zaS,.sl (.sl (.int .i64)),.sl (.sl (.int .u32)),.sl zck] (.prim .idx [.v 46,.v 25]<|.prim .get [.v 46,.v 47]<|.subp [.bool] (.prim (.fld 3) [.v 48]<|.prim (.un .not) [.v 49]<|.ite (.v 50) (.jmp 0 false [.c (.bool true)]) (.prim (.fld 7) [.v 48]<|.prim (.fld 6) [.v 48]<|.prim (.bin .lss) [.v 51,.v 52]<|.jmp 0 false [.v 53])) 1<|.ite (.v 49) (.jmp 0 false [.v 12,.v 2,.v 3,.v 46]) (.prim (.fld 0) [.v 48]<|.prim (.bin .sub) [.v 50,.c (.int .i64 1)]<|.prim (.fld 1) [.v 48]<|.subp [.int .i64] (.ite (.v 52) (.jmp 0 false [.c (.int .i64 3)]) (.prim (.fld 4) [.v 48]<|.subp [.int .i64] (.ite (.v 53) (.jmp 0 false [.c (.int .i64 2)]) (.jmp 0 false [.c (.int .i64 1)])) 1<|.jmp 0 false [.v 54])) 1<|.prim .idx [.v 2,.v 25]<|.prim .idx [.v 2,.v 54]<|.prim .get [.v 2,.v 55]<|.prim .idx [.v 56,.v 51]<|.prim .get [.v 2,.v 55]<|.prim .set [.v 58,.v 57,.v 53]<|.prim .set [.v 2,.v 55,.v 59]<|.prim (.fld 5) [.v 48]<|.prim (.un .not) [.v 61]<|.sub0 [.sl (.sl (.int .u32))] (.ite (.v 62) (.prim .idx [.v 3,.v 25]<|.prim .idx [.v 3,.v 63]<|.prim (.fld 8) [.v 48]<|.prim .get [.v 3,.v 64]<|.prim .idx [.v 66,.v 51]<|.prim .get [.v 3,.v 64]<|.prim .set [.v 68,.v 67,.v 65]<|.prim .set [.v 3,.v 64,.v 69]<|.jmp 0 false [.v 70]) (.jmp 0 false [.v 3])) 1<|.prim .idx [.v 46,.v 25]<|.primH .set zck [.v 46,.v 64,.c (.agg [(.int .i64 0),(.bool false),(.bool false),(.bool false),(.bool false),(.bool false),(.int .i64 0),(.int .i64 0),(.int .u32 0)])]<|.prim (.bin .add) [.v 25,.c (.int .i64 1)]<|.mkS zhn [.c (.int .i64 11),.v 66,.c (.int .i64 0),.v 51,.c (.int .i64 0),.c (.int .i64 0),.c (.bool false),.c (.int .u32 0),.c (.int .u32 0)]<|.sub0 [zaS] (.call 154 zab [.v 12,.v 67] 2<|.jmp 0 false [.v 68]) 1<|.jmp 0 false [.v 68,.v 60,.v 63,.v 65])) 4<|.jmp 0 false [.v 47,.v 48,.v 49,.v 50]) (.jmp 0 false [.v 12,.v 2,.v 3,.v 4])) 4<|.jmp 0 false [.v 41,.v 42,.v 43,.v 44]) (.prim (.bin .eql) [.v 37,.c (.int .i64 4)]<|.sub0 [zaS,.sl (.sl (.int .i64)),.sl zck] (.ite (.v 40) (.prim .get [.v 2,.v 28]<|.prim .get [.v 41,.v 31]<|.prim (.bin .eql) [.v 42,.c (.int .i64 1)]<|.sub0 [.sl (.sl (.int .i64))] (.ite (.v 43) (.prim .get [.v 2,.v 28]<|.prim .set [.v 44,.v 31,.c (.int .i64 0)]<|.prim .set [.v 2,.v 28,.v 45]<|.jmp 0 false [.v 46]) (.jmp 0 false [.v 2])) 1<|.prim (.bin .add) [.v 25,.c (.int .i64 1)]<|.prim (.fld 4) [.v 13]<|.prim (.fld 3) [.v 13]<|.mkS zhn [.c (.int .i64 5),.v 45,.v 46,.v 47,.c (.int .i64 0),.c (.int .i64 0),.c (.bool false),.c (.int .u32 0),.c (.int .u32 0)]<|.sub0 [zaS] (.call 154 zab [.v 12,.v 48] 2<|.jmp 0 false [.v 49]) 1<|.jmp 0 false [.v 49,.v 44,.v 4]) (.prim (.bin .eql) [.v 37,.c (.int .i64 6)]<|.subp [.bool] (.ite (.v 41) (.jmp 0 false [.v 41]) (.prim (.bin .eql) [.v 37,.c (.int .i64 7)]<|.jmp 0 false [.v 42])) 1<|.sub0 [zaS,.sl (.sl (.int .i64)),.sl zck] (.ite (.v 42) (.sub0 [zaS,.sl (.sl (.int .i64))] (.prim .idx [.v 2,.v 25]<|.prim .idx [.v 2,.v 43]<|.prim (.fld 3) [.v 13]<|.prim .get [.v 2,.v 44]<|.prim .idx [.v 46,.v 45]<|.prim .get [.v 2,.v 44]<|.prim .get [.v 48,.v 47]<|.callp 141 zc1 [.v 49] 1<|.prim (.un .not) [.v 50]<|.ite (.v 51) (.jmp 0 false [.v 12,.v 2]) (.prim (.fld 0) [.v 13]<|.prim (.bin .eql) [.v 52,.c (.int .i64 7)]<|.prim (.bin .add) [.v 25,.c (.int .i64 1)]<|.prim (.fld 4) [.v 13]<|.prim (.fld 3) [.v 13]<|.prim (.fld 5) [.v 13]<|.prim .idx [.v 3,.v 25]<|.prim .idx [.v 3,.v 58]<|.prim (.fld 3) [.v 13]<|.prim .get [.v 3,.v 59]<|.prim .idx [.v 61,.v 60]<|.prim .get [.v 3,.v 59]<|.prim .get [.v 63,.v 62]<|.mkS zhn [.c (.int .i64 3),.v 54,.v 55,.v 56,.c (.int .i64 0),.v 57,.v 53,.c (.int .u32 0),.v 64]<|.sub0 [zaS] (.call 154 zab [.v 12,.v 65] 2<|.jmp 0 false [.v 66]) 1<|.prim .get [.v 2,.v 44]<|.prim .set [.v 67,.v 47,.c (.int .i64 4)]<|.prim .set [.v 2,.v 44,.v 68]<|.sub0 [.sl (.sl (.int .i64))] (.ite (.v 53) (.prim .get [.v 69,.v 44]<|.prim .set [.v 70,.v 47,.c (.int .i64 0)]<|.prim .set [.v 69,.v 44,.v 71]<|.jmp 0 false [.v 72]) (.jmp 0 false [.v 69])) 1<|.jmp 0 false [.v 66,.v 70])) 2<|.jmp 0 false [.v 43,.v 44,.v 4]) (.prim (.bin .eql) [.v 37,.c (.int .i64 10)]<|.sub0 [zaS,.sl (.sl (.int .i64)),.sl zck] (.ite (.v 43) (.sub0 [.bool] (.prim (.un .not) [.v 36]<|.ite (.v 44) (.jmp 0 false [.c (.bool true)]) (.prim .get [.v 4,.v 26]<|.prim (.fld 3) [.v 45]<|.jmp 0 false [.v 46])) 1<|.sub0 [zaS,.sl zck] (.ite (.v 44) (.jmp 0 false [.v 12,.v 4]) (.sub0 [.bool] (.prim .get [.v 4,.v 26]<|.prim (.fld 2) [.v 45]<|.ite (.v 46) (.prim .get [.v 2,.v 28]<|.prim .get [.v 47,.v 31]<|.callp 141 zc1 [.v 48] 1<|.prim (.un .not) [.v 49]<|.jmp 0 false [.v 50]) (.jmp 0 false [.c (.bool false)])) 1<|.sub0 [zaS,.sl zck] (.ite (.v 45) (.primH .set zck [.v 4,.v 26,.c (.agg [(.int .i64 0),(.bool false),(.bool false),(.bool false),(.bool false),(.bool false),(.int .i64 0),(.int .i64 0),(.int .u32 0)])]<|.jmp 0 false [.v 12,.v 46]) (.sub0 [zaS] (.prim .idx [.v 4,.v 25]<|.prim .get [.v 4,.v 46]<|.prim (.bin .add) [.v 25,.c (.int .i64 1)]<|.prim (.fld 0) [.v 47]<|.prim (.bin .sub) [.v 49,.c (.int .i64 1)]<|.prim (.bin .add) [.v 25,.c (.int .i64 1)]<|.mkS zhn [.c (.int .i64 1),.v 48,.c (.int .i64 0),.v 50,.v 51,.c (.int .i64 0),.c (.bool false),.c (.int .u32 0),.c (.int .u32 0)]<|.prim (.fld 2) [.v 47]<|.sub0 [zAc] (.ite (.v 53) (.prim .idx [.v 3,.v 25]<|.prim .idx [.v 3,.v 54]<|.prim (.fld 3) [.v 52]<|.prim .get [.v 3,.v 55]<|.prim .idx [.v 57,.v 56]<|.prim .get [.v 3,.v 55]<|.prim .get [.v 59,.v 58]<|.prim (.setf 0) [.v 52,.c (.int .i64 8)]<|.prim (.setf 4) [.v 61,.c (.int .i64 0)]<|.prim (.setf 8) [.v 62,.v 60]<|.jmp 0 false [.v 63]) (.prim (.fld 1) [.v 47]<|.subp [zAc] (.ite (.v 54) (.prim (.setf 0) [.v 52,.c (.int .i64 2)]<|.jmp 0 false [.v 55]) (.jmp 0 false [.v 52])) 1<|.jmp 0 false [.v 55])) 1<|.sub0 [zaS] (.call 154 zab [.v 12,.v 54] 2<|.jmp 0 false [.v 55]) 1<|.jmp 0 false [.v 55]) 1<|.jmp 0 false [.v 46,.v 4])) 2<|.jmp 0 false [.v 46,.v 47])) 2<|.jmp 0 false [.v 45,.v 2,.v 46]) (.prim (.bin .eql) [.v 37,.c (.int .i64 9)]<|.sub0 [.sl (.sl (.int .i64)),.sl zck] (.ite (.v 44) (.sub0 [.bool] (.ite (.v 36) (.prim .get [.v 4,.v 26]<|.prim (.fld 2) [.v 45]<|.jmp 0 false [.v 46]) (.jmp 0 false [.c (.bool false)])) 1<|.sub0 [.sl (.sl (.int .i64)),.sl zck] (.ite (.v 45) (.prim .get [.v 2,.v 28]<|.prim .set [.v 46,.v 31,.c (.int .i64 0)]<|.prim .set [.v 2,.v 28,.v 47]<|.primH .set zck [.v 4,.v 26,.c (.agg [(.int .i64 0),(.bool false),(.bool false),(.bool false),(.bool false),(.bool false),(.int .i64 0),(.int .i64 0),(.int .u32 0)])]<|.jmp 0 false [.v 48,.v 49]) (.jmp 0 false [.v 2,.v 4])) 2<|.jmp 0 false [.v 46,.v 47]) (.jmp 0 false [.v 2,.v 4])) 2<|.jmp 0 false [.v 12,.v 45,.v 46])) 3<|.jmp 0 false [.v 44,.v 45,.v 46])) 3<|.jmp 0 false [.v 43,.v 44,.v 45])) 3<|.jmp 0 false [.v 41,.v 42,.v 3,.v 43])) 4<|.jmp 0 false [.v 40,.v 41,.v 42,.v 43])) 4<|.jmp 0 false [.v 39,.v 40,.v 41,.v 42]) 4<|.jmp 0 false [.v 26,.v 27,.v 28,.v 29,.v 5,.v 6,.v 7]) (.prim (.fld 1) [.v 13]<|.prim (.bin .gtr) [.v 24,.c (.int .i64 0)]<|.sub0 [zaS,.sl (.int .u32),.sl zaE,.sl (.int .i64)] (.ite (.v 25) (.sub0 [zaS,.sl (.int .u32),.sl zaE,.sl (.int .i64)] (.prim (.fld 0) [.v 13]<|.prim (.bin .eql) [.v 26,.c (.int .i64 1)]<|.subp [.bool] (.ite (.v 27) (.jmp 0 false [.v 27]) (.prim (.bin .eql) [.v 26,.c (.int .i64 2)]<|.jmp 0 false [.v 28])) 1<|.sub1 [zaS,.sl (.int .u32),.sl zaE,.sl (.int .i64)] (.ite (.v 28) (.sub0 [zaS,.sl zaE,.sl (.int .i64)] (.prim (.fld 4) [.v 13]<|.prim (.fld 1) [.v 13]<|.prim (.bin .neq) [.v 29,.v 30]<|.ite (.v 31) (.jmp 0 false [.v 12,.v 6,.v 7]) (.prim (.fld 3) [.v 13]<|.prim .idx [.v 7,.v 32]<|.prim .get [.v 7,.v 33]<|.prim (.bin .gtr) [.v 34,.c (.int .i64 0)]<|.ite (.v 35) (.prim (.fld 1) [.v 13]<|.prim (.fld 3) [.v 13]<|.mkS zhn [.c (.int .i64 10),.c (.int .i64 0),.v 36,.v 37,.c (.int .i64 0),.c (.int .i64 0),.c (.bool false),.c (.int .u32 0),.c (.int .u32 0)]<|.sub0 [zaS] (.call 154 zab [.v 12,.v 38] 2<|.jmp 0 false [.v 39]) 1<|.jmp 0 false [.v 39,.v 6,.v 7]) (.prim (.fld 3) [.v 13]<|.prim (.fld 1) [.v 13]<|.prim .idx [.v 7,.v 36]<|.prim .set [.v 7,.v 38,.v 37]<|.prim (.fld 3) [.v 13]<|.prim .idx [.v 6,.v 40]<|.prim .get [.v 6,.v 41]<|.prim (.fld 0) [.v 13]<|.prim (.bin .eql) [.v 43,.c (.int .i64 2)]<|.sub0 [.int .i64,.sl (.int .i64),.int .i64,zaE] (.ite (.v 44) (.prim (.fld 1) [.v 13]<|.prim (.bin .sub) [.v 45,.c (.int .i64 1)]<|.call 163 zfy [.v 42,.v 46] 4<|.jmp 0 false [.v 48,.v 49,.c (.int .i64 7),.v 47]) (.prim (.fld 1) [.v 13]<|.prim (.bin .sub) [.v 45,.c (.int .i64 1)]<|.call 164 zgC [.v 42,.v 46] 3<|.jmp 0 false [.v 48,.c .nil,.c (.int .i64 6),.v 47])) 4<|.prim (.fld 3) [.v 13]<|.prim .idx [.v 6,.v 49]<|.prim .set [.v 6,.v 50,.v 48]<|.prim .len [.v 46]<|.sub0 [zaS] (.loop [.int .i64,zaS] [.c (.int .i64 0),.v 12] (.prim (.bin .lss) [.v 53,.v 52]<|.ite (.v 55) (.prim .get [.v 46,.v 53]<|.prim (.bin .add) [.v 56,.c (.int .i64 1)]<|.prim (.fld 3) [.v 13]<|.prim (.fld 1) [.v 13]<|.mkS zhn [.c (.int .i64 4),.c (.int .i64 0),.v 57,.v 58,.v 59,.c (.int .i64 0),.c (.bool false),.c (.int .u32 0),.c (.int .u32 0)]<|.sub0 [zaS] (.call 154 zab [.v 54,.v 60] 2<|.jmp 0 false [.v 61]) 1<|.prim (.bin .add) [.v 53,.c (.int .i64 1)]<|.jmp 0 true [.v 62,.v 61]) (.jmp 1 false [.v 54]))) 1<|.sub0 [.bool] (.prim (.fld 0) [.v 48]<|.prim (.fld 1) [.v 13]<|.prim (.bin .eql) [.v 54,.v 55]<|.ite (.v 56) (.call 165 zfY [.v 48] 1<|.jmp 0 false [.v 57]) (.jmp 0 false [.c (.bool false)])) 1<|.prim (.bin .eql) [.v 45,.c (.int .i64 0)]<|.sub0 [zaS] (.ite (.v 55) (.prim (.fld 1) [.v 13]<|.prim (.fld 3) [.v 13]<|.prim .len [.v 46]<|.prim (.fld 3) [.v 13]<|.prim .idx [.v 5,.v 59]<|.prim .get [.v 5,.v 60]<|.mkS zhn [.c (.int .i64 3),.c (.int .i64 0),.v 56,.v 57,.c (.int .i64 0),.v 58,.v 54,.c (.int .u32 0),.v 61]<|.sub0 [zaS] (.call 154 zab [.v 53,.v 62] 2<|.jmp 0 false [.v 63]) 1<|.jmp 0 false [.v 63]) (.prim (.fld 1) [.v 13]<|.prim (.bin .eql) [.v 45,.v 56]<|.sub0 [zaS] (.ite (.v 57) (.prim (.fld 1) [.v 13]<|.prim (.fld 3) [.v 13]<|.prim .len [.v 46]<|.mkS zhn [.c (.int .i64 3),.c (.int .i64 0),.v 58,.v 59,.c (.int .i64 0),.v 60,.v 54,.c (.int .u32 1),.c (.int .u32 0)]<|.sub0 [zaS] (.call 154 zab [.v 53,.v 61] 2<|.jmp 0 false [.v 62]) 1<|.jmp 0 false [.v 62]) (.prim (.fld 3) [.v 13]<|.prim (.fld 1) [.v 13]<|.prim .len [.v 46]<|.mkS zhn [.v 47,.c (.int .i64 0),.v 45,.v 58,.v 59,.v 60,.c (.bool false),.c (.int .u32 0),.c (.int .u32 0)]<|.sub0 [zaS] (.call 154 zab [.v 53,.v 61] 2<|.jmp 0 false [.v 62]) 1<|.jmp 0 false [.v 62])) 1<|.jmp 0 false [.v 58])) 1<|.jmp 0 false [.v 56,.v 51,.v 39]))) 3<|.jmp 0 false [.v 29,.v 5,.v 30,.v 31]) (.prim (.bin .eql) [.v 26,.c (.int .i64 8)]<|.sub1 [zaS,.sl (.int .u32),.sl zaE,.sl (.int .i64)] (.ite (.v 29) (.prim (.fld 3) [.v 13]<|.prim .idx [.v 7,.v 30]<|.prim .get [.v 7,.v 31]<|.prim (.bin .gtr) [.v 32,.c (.int .i64 0)]<|.ite (.v 33) (.prim (.fld 1) [.v 13]<|.prim (.fld 3) [.v 13]<|.mkS zhn [.c (.int .i64 10),.c (.int .i64 0),.v 34,.v 35,.c (.int .i64 0),.c (.int .i64 0),.c (.bool false),.c (.int .u32 0),.c (.int .u32 0)]<|.sub0 [zaS] (.call 154 zab [.v 12,.v 36] 2<|.jmp 0 false [.v 37]) 1<|.jmp 2 false [.v 37,.v 5,.v 6,.v 7]) (.prim (.fld 3) [.v 13]<|.prim .idx [.v 6,.v 34]<|.prim .get [.v 6,.v 35]<|.prim (.fld 1) [.v 13]<|.prim (.bin .sub) [.v 37,.c (.int .i64 1)]<|.call 143 zgJ [.v 36,.v 38] 2<|.prim (.bin .eql) [.v 40,.c (.int .i64 0)]<|.sub0 [.sl (.int .u32),.sl zaE] (.ite (.v 41) (.prim (.fld 3) [.v 13]<|.prim (.fld 3) [.v 13]<|.prim (.fld 8) [.v 13]<|.prim .idx [.v 6,.v 42]<|.prim .set [.v 6,.v 45,.v 39]<|.prim .idx [.v 5,.v 43]<|.prim .set [.v 5,.v 47,.v 44]<|.jmp 0 false [.v 48,.v 46]) (.jmp 0 false [.v 5,.v 6])) 2<|.prim (.fld 1) [.v 13]<|.prim (.fld 3) [.v 13]<|.mkS zhn [.c (.int .i64 9),.c (.int .i64 0),.v 44,.v 45,.c (.int .i64 0),.c (.int .i64 0),.c (.bool false),.c (.int .u32 0),.c (.int .u32 0)]<|.sub0 [zaS] (.call 154 zab [.v 12,.v 46] 2<|.jmp 0 false [.v 47]) 1<|.jmp 0 false [.v 47,.v 42,.v 43,.v 7])) (.prim (.bin .eql) [.v 26,.c (.int .i64 11)]<|.sub0 [.sl (.int .i64)] (.ite (.v 30) (.prim (.fld 3) [.v 13]<|.prim .idx [.v 7,.v 31]<|.prim .get [.v 7,.v 32]<|.prim (.fld 1) [.v 13]<|.prim (.bin .eql) [.v 33,.v 34]<|.sub0 [.sl (.int .i64)] (.ite (.v 35) (.prim (.fld 3) [.v 13]<|.prim .idx [.v 7,.v 36]<|.prim .set [.v 7,.v 37,.c (.int .i64 0)]<|.jmp 0 false [.v 38]) (.jmp 0 false [.v 7])) 1<|.jmp 0 false [.v 36]) (.jmp 0 false [.v 7])) 1<|.jmp 0 false [.v 12,.v 5,.v 6,.v 31])) 4<|.jmp 0 false [.v 30,.v 31,.v 32,.v 33])) 4<|.jmp 0 false [.v 29,.v 30,.v 31,.v 32]) 4<|.jmp 0 false [.v 26,.v 27,.v 28,.v 29]) (.jmp 0 false [.v 12,.v 5,.v 6,.v 7])) 4<|.jmp 0 false [.v 26,.v 2,.v 3,.v 4,.v 27,.v 28,.v 29])) 7<|.jmp 0 false [.v 24,.v 25,.v 26,.v 27,.v 28,.v 29,.v 30])) 7<|.mkS zbD [.v 23,.v 24,.v 25,.v 26,.v 27,.v 28,.v 22]<|.jmp 0 false [.v 29,.v 14])))
theorem zgY:zaj cx 12 49=some zdY.erase:=by kernel_rfl
theorem zgk:zzK cx 12 noC 49 zbG:=zbb (t:=zdY) zgY (fun _=>rfl) (zaQ [(88,zaL),(99,ziq),(93,zbr),(100,zgo.fn),(154,zab),(154,zab),(154,zab),(141,zc1.fn),(154,zab),(141,zc1.fn),(154,zab),(154,zab),(163,zfy),(164,zgC),(154,zab),(165,zfY),(154,zab),(154,zab),(154,zab),(154,zab),(143,zgJ),(154,zab)] (by kernel_rfl) (.cons zcm (.cons zrJ (.cons zfp (.cons zp9 (.cons zaI (.cons zaI (.cons zaI (.cons zkm (.cons zaI (.cons zkm (.cons zaI (.cons zaI (.cons zox (.cons zqq (.cons zaI (.cons zn6 (.cons zaI (.cons zaI (.cons zaI (.cons zaI (.cons zpm (.cons zaI .nil))))))))))))))))))))))) (fun x=>by kernel_rfl)
def zdh (x0:Proto) (x1:Int) (x3:Int) (s:(Int×(List Int))):Option ((Int×(List Int))⊕(List Int)) :=
 if decide (s.1<x3) then
 (zfe x0 s.1 x1 false).bind fun v7=>(if v7 then
 (zzN 8 s.2 ([s.1]:List Int)).bind fun v9=>some (v9)
 else
 some (s.2):Option (List Int)).bind fun v8=>some (Sum.inl (w64 (s.1 + (1:Int)),v8))
 else
 some (Sum.inr (s.2))
def zgs (p0:Proto) (p1:Int):Option (List Int) :=
 let v3:Int:=(List.length (Proto.Wait p0):Int)
 (zae (zdh p0 p1 v3) ((0:Int),([]:List Int)):Option (List Int)).bind fun v4=>some (v4)
def zdQ:FnT:=⟨[zaD,.int .i64],[.sl (.int .i64)],fun x=>zgs x.1 x.2⟩
def zhP:TA :=
 .prim (.fld 2) [.v 0]<|.prim .len [.v 2]<|.sub0 [.sl (.int .i64)] (.loop [.int .i64,.sl (.int .i64)] [.c (.int .i64 0),.c .nil] (.prim (.bin .lss) [.v 4,.v 3]<|.ite (.v 6) (.call 42 zd5 [.v 0,.v 4,.v 1,.c (.bool false)] 1<|.sub0 [.sl (.int .i64)] (.ite (.v 7) (.mkL (.int .i64) [.v 4]<|.prim (.app 8) [.v 5,.v 8]<|.jmp 0 false [.v 9]) (.jmp 0 false [.v 5])) 1<|.prim (.bin .add) [.v 4,.c (.int .i64 1)]<|.jmp 0 true [.v 9,.v 8]) (.jmp 1 false [.v 5]))) 1<|.jmp 0 false [.v 4]
theorem zlF:zaj cx 12 98=some zhP.erase:=by kernel_rfl
theorem zlh:zzK cx 12 noC 98 zdQ:=zbb (t:=zhP) zlF (fun _=>rfl) (zaQ [(42,zd5)] (by kernel_rfl) (.cons zmc .nil)) (fun x=>by kernel_rfl)
def zb1 (x0:Proto) (x1:Int) (x4:List Int) (x7:Int) (s:Int):Option (Int⊕Unit⊕Int) :=
 if decide (s<x7) then
 (zzG x4 s).bind fun v10=>((zfe x0 v10 x1 true).bind fun v11=>some (v11):Option Bool).bind fun v11=>if v11 then
 some (Sum.inr (Sum.inr (s)))
 else
 some (Sum.inl (w64 (s + (1:Int))))
 else
 some (Sum.inr (Sum.inl ()))
def zfl (p0:Proto) (p1:Int):Option Bool :=
 (zcB p0 p1).bind fun v2=>if !v2 then
 some (false)
 else
 (zgs p0 p1).bind fun v4=>(if decide ((v4.length:Int)<(2:Int)) then
 some (true)
 else
 ((let v7:Int:=(v4.length:Int)
 zbv (zae (zb1 p0 p1 v4 v7) (0:Int):Option (Unit⊕Int)) fun v8=>some ((-1:Int)):Option Int).bind fun v7=>some ((decide ((0:Int)≤v7))):Option Bool).bind fun v7=>some ((!v7)):Option Bool).bind fun v5=>some (v5)
def zfK:FnT:=⟨[zaD,.int .i64],[.bool],fun x=>zfl x.1 x.2⟩
def zfs:TA :=
 .call 133 zbt [.v 0,.v 1] 1<|.prim (.un .not) [.v 2]<|.ite (.v 3) (.jmp 0 false [.c (.bool false)]) (.call 98 zdQ [.v 0,.v 1] 1<|.sub0 [.bool] (.prim .len [.v 4]<|.prim (.bin .lss) [.v 5,.c (.int .i64 2)]<|.ite (.v 6) (.jmp 0 false [.c (.bool true)]) (.sub0 [.bool] (.sub0 [.int .i64] (.prim .len [.v 4]<|.sub1 [] (.loop [.int .i64] [.c (.int .i64 0)] (.prim (.bin .lss) [.v 8,.v 7]<|.ite (.v 9) (.prim .get [.v 4,.v 8]<|.sub0 [.bool] (.call 42 zd5 [.v 0,.v 10,.v 1,.c (.bool true)] 1<|.jmp 0 false [.v 11]) 1<|.ite (.v 11) (.jmp 2 false [.v 8]) (.prim (.bin .add) [.v 8,.c (.int .i64 1)]<|.jmp 0 true [.v 12])) (.jmp 1 false []))) 0<|.jmp 0 false [.c (.int .i64 (-1))]) 1<|.prim (.bin .geq) [.v 7,.c (.int .i64 0)]<|.jmp 0 false [.v 8]) 1<|.prim (.un .not) [.v 7]<|.jmp 0 false [.v 8])) 1<|.jmp 0 false [.v 5])
theorem zi1:zaj cx 12 95=some zfs.erase:=by kernel_rfl
theorem zoM:zzK cx 12 noC 95 zfK:=zbb (t:=zfs) zi1 (fun _=>rfl) (zaQ [(133,zbt),(98,zdQ),(42,zd5)] (by kernel_rfl) (.cons zfG (.cons zlh (.cons zmc .nil)))) (fun x=>by kernel_rfl)
def zbX (x0:Proto) (x1:Int) (x4:List Int) (x5:Int) (s:Int):Option (Int⊕Unit⊕Int) :=
 if decide (s<x5) then
 (zzG x4 s).bind fun v8=>((zzG (Proto.Val x0) v8).bind fun v10=>(zzG v10 x1).bind fun v11=>(zzG x4 (0:Int)).bind fun v13=>(zzG (Proto.Val x0) v13).bind fun v14=>(zzG v14 x1).bind fun v15=>some ((!decide (v11=v15))):Option Bool).bind fun v9=>if v9 then
 some (Sum.inr (Sum.inr (s)))
 else
 some (Sum.inl (w64 (s + (1:Int))))
 else
 some (Sum.inr (Sum.inl ()))
def zfA (p0:Proto) (p1:Int):Option Bool :=
 (zcB p0 p1).bind fun v2=>if !v2 then
 some (false)
 else
 (zgs p0 p1).bind fun v4=>((let v5:Int:=(v4.length:Int)
 zbv (zae (zbX p0 p1 v4 v5) (0:Int):Option (Unit⊕Int)) fun v6=>some ((-1:Int)):Option Int).bind fun v5=>some ((decide ((0:Int)≤v5))):Option Bool).bind fun v5=>some ((!v5))
def zfM:FnT:=⟨[zaD,.int .i64],[.bool],fun x=>zfA x.1 x.2⟩
def zfj:TA :=
 .call 133 zbt [.v 0,.v 1] 1<|.prim (.un .not) [.v 2]<|.ite (.v 3) (.jmp 0 false [.c (.bool false)]) (.call 98 zdQ [.v 0,.v 1] 1<|.sub0 [.bool] (.sub0 [.int .i64] (.prim .len [.v 4]<|.sub1 [] (.loop [.int .i64] [.c (.int .i64 0)] (.prim (.bin .lss) [.v 6,.v 5]<|.ite (.v 7) (.prim .get [.v 4,.v 6]<|.sub0 [.bool] (.prim (.fld 1) [.v 0]<|.prim .get [.v 9,.v 8]<|.prim .get [.v 10,.v 1]<|.prim (.fld 1) [.v 0]<|.prim .get [.v 4,.c (.int .i64 0)]<|.prim .get [.v 12,.v 13]<|.prim .get [.v 14,.v 1]<|.prim (.bin .neq) [.v 11,.v 15]<|.jmp 0 false [.v 16]) 1<|.ite (.v 9) (.jmp 2 false [.v 6]) (.prim (.bin .add) [.v 6,.c (.int .i64 1)]<|.jmp 0 true [.v 10])) (.jmp 1 false []))) 0<|.jmp 0 false [.c (.int .i64 (-1))]) 1<|.prim (.bin .geq) [.v 5,.c (.int .i64 0)]<|.jmp 0 false [.v 6]) 1<|.prim (.un .not) [.v 5]<|.jmp 0 false [.v 6])
theorem zjv:zaj cx 12 96=some zfj.erase:=by kernel_rfl
theorem zoR:zzK cx 12 noC 96 zfM:=zbb (t:=zfj) zjv (fun _=>rfl) (zaQ [(133,zbt),(98,zdQ)] (by kernel_rfl) (.cons zfG (.cons zlh .nil))) (fun x=>by kernel_rfl)
def zdg (x0:Proto) (x2:Int) (s:Int):Option (Int⊕Unit⊕Bool) :=
 if decide (s<x2) then
 ((zfl x0 s).bind fun v5=>if !v5 then
 some (true)
 else
 (zfA x0 s).bind fun v7=>if !v7 then
 some (true)
 else
 (zfW x0 s).bind fun v9=>some ((!v9)):Option Bool).bind fun v5=>if v5 then
 some (Sum.inr (Sum.inr (false)))
 else
 some (Sum.inl (w64 (s + (1:Int))))
 else
 some (Sum.inr (Sum.inl ()))
def zfa (p0:Proto):Option Bool :=
 let v2:Int:=(List.length (Proto.Home p0):Int)
 zbv (zae (zdg p0 v2) (0:Int):Option (Unit⊕Bool)) fun v3=>(za4 p0).bind fun v3=>some (v3)
def zd0:FnT:=⟨[zaD],[.bool],fun x=>zfa x⟩
def zil:TA :=
 .prim (.fld 3) [.v 0]<|.prim .len [.v 1]<|.sub1 [] (.loop [.int .i64] [.c (.int .i64 0)] (.prim (.bin .lss) [.v 3,.v 2]<|.ite (.v 4) (.sub0 [.bool] (.call 95 zfK [.v 0,.v 3] 1<|.prim (.un .not) [.v 5]<|.ite (.v 6) (.jmp 0 false [.c (.bool true)]) (.call 96 zfM [.v 0,.v 3] 1<|.prim (.un .not) [.v 7]<|.ite (.v 8) (.jmp 0 false [.c (.bool true)]) (.call 97 zfw [.v 0,.v 3] 1<|.prim (.un .not) [.v 9]<|.jmp 0 false [.v 10]))) 1<|.ite (.v 5) (.jmp 2 false [.c (.bool false)]) (.prim (.bin .add) [.v 3,.c (.int .i64 1)]<|.jmp 0 true [.v 6])) (.jmp 1 false []))) 0<|.call 88 zaL [.v 0] 1<|.jmp 0 false [.v 3]
theorem zlu:zaj cx 12 50=some zil.erase:=by kernel_rfl
theorem zlg:zzK cx 12 noC 50 zd0:=zbb (t:=zil) zlu (fun _=>rfl) (zaQ [(95,zfK),(96,zfM),(97,zfw),(88,zaL)] (by kernel_rfl) (.cons zoM (.cons zoR (.cons zoq (.cons zcm .nil))))) (fun x=>by kernel_rfl)
end Go.Proofs.Ytlgjbfdojbmmgaa
