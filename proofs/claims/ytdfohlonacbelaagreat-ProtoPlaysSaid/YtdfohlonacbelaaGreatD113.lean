import Derived.Test.YtdfohlonacbelaaGreatD112
set_option linter.unusedVariables false
set_option maxRecDepth 100000
noncomputable section
namespace Go.Proofs.YtdfohlonacbelaaGreat
open Go.SX
def zh9 (x22:List (List Int)) (x23:Int) (s:(Int×(List (List Int)))):Option ((Int×(List (List Int)))⊕(List (List Int))) :=
 if decide (s.1<x23) then
 (zAF x22 s.1).bind fun v27=>(zaC 1 v27).bind fun v28=>(zAK 24 s.2 ([v28]:List (List Int))).bind fun v30=>some (Sum.inl (w64 (s.1 + (1:Int)),v30))
 else
 some (Sum.inr (s.2))
def zid (x17:List Entry) (x20:Int) (s:(Int×(List Entry))):Option ((Int×(List Entry))⊕(List Entry)) :=
 if decide (s.1<x20) then
 (zAF x17 s.1).bind fun v24=>(zaC 1 (Entry.Share v24)).bind fun v27=>(zAK 32 s.2 ([Entry.mk (Entry.Owner v24) v27]:List Entry)).bind fun v30=>some (Sum.inl (w64 (s.1 + (1:Int)),v30))
 else
 some (Sum.inr (s.2))
def zh6 (x5:List (List Int)) (x6:Int) (s:(Int×(List (List Int)))):Option ((Int×(List (List Int)))⊕(List (List Int))) :=
 if decide (s.1<x6) then
 (zAF x5 s.1).bind fun v10=>(zaC 4 v10).bind fun v11=>(zAK 24 s.2 ([v11]:List (List Int))).bind fun v13=>some (Sum.inl (w64 (s.1 + (1:Int)),v13))
 else
 some (Sum.inr (s.2))
def zif (x3:List (List Int)) (x4:Int) (s:(Int×(List (List Int)))):Option ((Int×(List (List Int)))⊕(List (List Int))) :=
 if decide (s.1<x4) then
 (zAF x3 s.1).bind fun v8=>(zaC 8 v8).bind fun v9=>(zAK 24 s.2 ([v9]:List (List Int))).bind fun v11=>some (Sum.inl (w64 (s.1 + (1:Int)),v11))
 else
 some (Sum.inr (s.2))
def zfZ (p0:Proto) (p1:Int) (p2:Int):Option (Proto×Int) :=
 ((let v4:Int:=(List.length (Proto.State p0):Int)
 (zaf (zif (Proto.State p0) v4) ((0:Int),([]:List (List Int))):Option (List (List Int))).bind fun v5=>some (v5):Option (List (List Int))).bind fun v4=>(let v6:Int:=(List.length (Proto.Val p0):Int)
 (zaf (zh6 (Proto.Val p0) v6) ((0:Int),([]:List (List Int))):Option (List (List Int))).bind fun v7=>some (v7):Option (List (List Int))).bind fun v6=>(zaC 40 (Proto.Wait p0)).bind fun v8=>(zaC 4 (Proto.Home p0)).bind fun v10=>(zaC 8 (Proto.Busy p0)).bind fun v12=>let v20:Int:=(List.length (Proto.Dir p0):Int)
 (zaf (zid (Proto.Dir p0) v20) ((0:Int),([]:List Entry)):Option (List Entry)).bind fun v21=>let v22:List (List Int):=Pool.Frames (Proto.Pool p0)
 (let v23:Int:=(v22.length:Int)
 (zaf (zh9 v22 v23) ((0:Int),([]:List (List Int))):Option (List (List Int))).bind fun v24=>some (v24):Option (List (List Int))).bind fun v23=>some ((v4,v6,v8,v10,v21,v12,v23)):Option ((List (List Int))×(List (List Int))×(List Wait)×(List Int)×(List Entry)×(List Int)×(List (List Int)))).bind fun v3=>(zc2 p0 p1 p2).bind fun v10=>if !v10 then
 some ((Proto.mk v3.1 v3.2.1 v3.2.2.1 v3.2.2.2.1 v3.2.2.2.2.1 v3.2.2.2.2.2.1 (Pool.mk v3.2.2.2.2.2.2),(1:Int)))
 else
 ((zAF (Proto.Wait p0) p1).bind fun v13=>if decide ((0:Int)<(Wait.Line v13)) then
 some (true)
 else
 (zAF (Proto.State p0) p1).bind fun v17=>(zAF v17 p2).bind fun v18=>some ((decide (v18=(0:Int)))):Option Bool).bind fun v12=>if v12 then
 some ((Proto.mk v3.1 v3.2.1 v3.2.2.1 v3.2.2.2.1 v3.2.2.2.2.1 v3.2.2.2.2.2.1 (Pool.mk v3.2.2.2.2.2.2),(8:Int)))
 else
 (zAF (Proto.State p0) p1).bind fun v14=>(zAF v14 p2).bind fun v15=>if decide (v15=(1:Int)) then
 (zAG (List.length v3.1:Int) p1).bind fun v17=>(zAG (List.length v3.1:Int) v17).bind fun v18=>(zAF v3.1 v18).bind fun v19=>(zAG (v19.length:Int) p2).bind fun v20=>(zAF v3.1 v18).bind fun v21=>(zAI v21 v20 (0:Int)).bind fun v22=>(zAI v3.1 v18 v22).bind fun v23=>some ((Proto.mk v23 v3.2.1 v3.2.2.1 v3.2.2.2.1 v3.2.2.2.2.1 v3.2.2.2.2.2.1 (Pool.mk v3.2.2.2.2.2.2),(0:Int)))
 else
 (zcL (Proto.Pool p0)).bind fun v18=>if decide (v18=(0:Int)) then
 some ((Proto.mk v3.1 v3.2.1 v3.2.2.1 v3.2.2.2.1 v3.2.2.2.2.1 v3.2.2.2.2.2.1 (Pool.mk v3.2.2.2.2.2.2),(6:Int)))
 else
 (zAG (List.length v3.2.2.1:Int) p1).bind fun v22=>(zAI v3.2.2.1 v22 (Wait.mk (w64 (p2 + (1:Int))) false true false false false (0:Int) (0:Int) (0:Int))).bind fun v23=>((zAG (v23.length:Int) p1).bind fun v24=>(zAF v23 v24).bind fun v25=>let v30:Msg:=Msg.mk (1:Int) (w64 (p1 + (1:Int))) (0:Int) (w64 ((Wait.Line v25) - (1:Int))) (w64 (p1 + (1:Int))) (0:Int) false (0:Int) (0:Int)
 (if Wait.Back v25 then
 (zAG (List.length v3.2.1:Int) p1).bind fun v32=>(zAG (List.length v3.2.1:Int) v32).bind fun v33=>(zAF v3.2.1 v33).bind fun v35=>(zAG (v35.length:Int) (Msg.Line v30)).bind fun v36=>(zAF v3.2.1 v33).bind fun v37=>(zAF v37 v36).bind fun v38=>some ((Msg.setVal (Msg.setFor (Msg.setKind v30 (8:Int)) (0:Int)) v38))
 else
 some ((bif Wait.Write v25 then Msg.setKind v30 (2:Int) else v30)):Option Msg).bind fun v32=>((zae (Pool.mk v3.2.2.2.2.2.2) v32).bind fun v34=>some (v34.1):Option Pool).bind fun v33=>some (v33):Option Pool).bind fun v24=>some ((Proto.mk v3.1 v3.2.1 v23 v3.2.2.2.1 v3.2.2.2.2.1 v3.2.2.2.2.2.1 v24,(0:Int)))
def zgh:FnT:=⟨[zab,.int .i64,.int .i64],[zab,.int .i64],fun x=>zfZ x.1 x.2.1 x.2.2⟩
def zgk:TA :=
 .sub0 [.sl (.sl (.int .i64)),.sl (.sl (.int .u32)),.sl zbX,.sl (.int .u32),.sl zan,.sl (.int .i64),.sl (.sl (.int .u8))] (.prim (.fld 0) [.v 0]<|.sub0 [.sl (.sl (.int .i64))] (.prim .len [.v 3]<|.sub0 [.sl (.sl (.int .i64))] (.loop [.int .i64,.sl (.sl (.int .i64))] [.c (.int .i64 0),.c .nil] (.prim (.bin .lss) [.v 5,.v 4]<|.ite (.v 7) (.prim .get [.v 3,.v 5]<|.prim (.clone 8) [.v 8]<|.mkL (.sl (.int .i64)) [.v 9]<|.prim (.app 24) [.v 6,.v 10]<|.prim (.bin .add) [.v 5,.c (.int .i64 1)]<|.jmp 0 true [.v 12,.v 11]) (.jmp 1 false [.v 6]))) 1<|.jmp 0 false [.v 5]) 1<|.prim (.fld 1) [.v 0]<|.sub0 [.sl (.sl (.int .u32))] (.prim .len [.v 5]<|.sub0 [.sl (.sl (.int .u32))] (.loop [.int .i64,.sl (.sl (.int .u32))] [.c (.int .i64 0),.c .nil] (.prim (.bin .lss) [.v 7,.v 6]<|.ite (.v 9) (.prim .get [.v 5,.v 7]<|.prim (.clone 4) [.v 10]<|.mkL (.sl (.int .u32)) [.v 11]<|.prim (.app 24) [.v 8,.v 12]<|.prim (.bin .add) [.v 7,.c (.int .i64 1)]<|.jmp 0 true [.v 14,.v 13]) (.jmp 1 false [.v 8]))) 1<|.jmp 0 false [.v 7]) 1<|.prim (.fld 2) [.v 0]<|.prim (.clone 40) [.v 7]<|.prim (.fld 3) [.v 0]<|.prim (.clone 4) [.v 9]<|.prim (.fld 5) [.v 0]<|.prim (.clone 8) [.v 11]<|.prim (.fld 0) [.v 0]<|.prim (.fld 1) [.v 0]<|.prim (.fld 2) [.v 0]<|.prim (.fld 3) [.v 0]<|.prim (.fld 4) [.v 0]<|.prim (.fld 5) [.v 0]<|.prim (.fld 6) [.v 0]<|.prim .len [.v 17]<|.sub0 [.sl zan] (.loop [.int .i64,.sl zan] [.c (.int .i64 0),.c .nil] (.prim (.bin .lss) [.v 21,.v 20]<|.ite (.v 23) (.prim .get [.v 17,.v 21]<|.prim (.fld 0) [.v 24]<|.prim (.fld 1) [.v 24]<|.prim (.clone 1) [.v 26]<|.mkS zbl [.v 25,.v 27]<|.mkL zan [.v 28]<|.prim (.app 32) [.v 22,.v 29]<|.prim (.bin .add) [.v 21,.c (.int .i64 1)]<|.jmp 0 true [.v 31,.v 30]) (.jmp 1 false [.v 22]))) 1<|.prim (.fld 0) [.v 19]<|.sub0 [.sl (.sl (.int .u8))] (.prim .len [.v 22]<|.sub0 [.sl (.sl (.int .u8))] (.loop [.int .i64,.sl (.sl (.int .u8))] [.c (.int .i64 0),.c .nil] (.prim (.bin .lss) [.v 24,.v 23]<|.ite (.v 26) (.prim .get [.v 22,.v 24]<|.prim (.clone 1) [.v 27]<|.mkL (.sl (.int .u8)) [.v 28]<|.prim (.app 24) [.v 25,.v 29]<|.prim (.bin .add) [.v 24,.c (.int .i64 1)]<|.jmp 0 true [.v 31,.v 30]) (.jmp 1 false [.v 25]))) 1<|.jmp 0 false [.v 24]) 1<|.jmp 0 false [.v 4,.v 6,.v 8,.v 10,.v 21,.v 12,.v 23]) 7<|.call 39 zbb [.v 0,.v 1,.v 2] 1<|.prim (.un .not) [.v 10]<|.ite (.v 11) (.mkS zb6 [.v 9]<|.mkS za7 [.v 3,.v 4,.v 5,.v 6,.v 7,.v 8,.v 12]<|.jmp 0 false [.v 13,.c (.int .i64 1)]) (.sub0 [.bool] (.prim (.fld 2) [.v 0]<|.prim .get [.v 12,.v 1]<|.prim (.fld 0) [.v 13]<|.prim (.bin .gtr) [.v 14,.c (.int .i64 0)]<|.ite (.v 15) (.jmp 0 false [.c (.bool true)]) (.prim (.fld 0) [.v 0]<|.prim .get [.v 16,.v 1]<|.prim .get [.v 17,.v 2]<|.prim (.bin .eql) [.v 18,.c (.int .i64 0)]<|.jmp 0 false [.v 19])) 1<|.ite (.v 12) (.mkS zb6 [.v 9]<|.mkS za7 [.v 3,.v 4,.v 5,.v 6,.v 7,.v 8,.v 13]<|.jmp 0 false [.v 14,.c (.int .i64 8)]) (.prim (.fld 0) [.v 0]<|.prim .get [.v 13,.v 1]<|.prim .get [.v 14,.v 2]<|.prim (.bin .eql) [.v 15,.c (.int .i64 1)]<|.ite (.v 16) (.prim .idx [.v 3,.v 1]<|.prim .idx [.v 3,.v 17]<|.prim .get [.v 3,.v 18]<|.prim .idx [.v 19,.v 2]<|.prim .get [.v 3,.v 18]<|.prim .set [.v 21,.v 20,.c (.int .i64 0)]<|.prim .set [.v 3,.v 18,.v 22]<|.mkS zb6 [.v 9]<|.mkS za7 [.v 23,.v 4,.v 5,.v 6,.v 7,.v 8,.v 24]<|.jmp 0 false [.v 25,.c (.int .i64 0)]) (.prim (.fld 6) [.v 0]<|.call 28 zbF [.v 17] 1<|.prim (.bin .eql) [.v 18,.c (.int .i64 0)]<|.ite (.v 19) (.mkS zb6 [.v 9]<|.mkS za7 [.v 3,.v 4,.v 5,.v 6,.v 7,.v 8,.v 20]<|.jmp 0 false [.v 21,.c (.int .i64 6)]) (.prim (.bin .add) [.v 2,.c (.int .i64 1)]<|.mkS zps [.v 20,.c (.bool false),.c (.bool true),.c (.bool false),.c (.bool false),.c (.bool false),.c (.int .i64 0),.c (.int .i64 0),.c (.int .u32 0)]<|.prim .idx [.v 5,.v 1]<|.prim .set [.v 5,.v 22,.v 21]<|.sub0 [zaJ] (.prim .idx [.v 23,.v 1]<|.prim .get [.v 23,.v 24]<|.prim (.bin .add) [.v 1,.c (.int .i64 1)]<|.prim (.fld 0) [.v 25]<|.prim (.bin .sub) [.v 27,.c (.int .i64 1)]<|.prim (.bin .add) [.v 1,.c (.int .i64 1)]<|.mkS zcy [.c (.int .i64 1),.v 26,.c (.int .i64 0),.v 28,.v 29,.c (.int .i64 0),.c (.bool false),.c (.int .u32 0),.c (.int .u32 0)]<|.prim (.fld 2) [.v 25]<|.sub0 [zAR] (.ite (.v 31) (.prim .idx [.v 4,.v 1]<|.prim .idx [.v 4,.v 32]<|.prim (.fld 3) [.v 30]<|.prim .get [.v 4,.v 33]<|.prim .idx [.v 35,.v 34]<|.prim .get [.v 4,.v 33]<|.prim .get [.v 37,.v 36]<|.prim (.setf 0) [.v 30,.c (.int .i64 8)]<|.prim (.setf 4) [.v 39,.c (.int .i64 0)]<|.prim (.setf 8) [.v 40,.v 38]<|.jmp 0 false [.v 41]) (.prim (.fld 1) [.v 25]<|.subp [zAR] (.ite (.v 32) (.prim (.setf 0) [.v 30,.c (.int .i64 2)]<|.jmp 0 false [.v 33]) (.jmp 0 false [.v 30])) 1<|.jmp 0 false [.v 33])) 1<|.sub0 [zaJ] (.mkS zb6 [.v 9]<|.call 96 zah [.v 33,.v 32] 2<|.jmp 0 false [.v 34]) 1<|.jmp 0 false [.v 33]) 1<|.mkS za7 [.v 3,.v 4,.v 23,.v 6,.v 7,.v 8,.v 24]<|.jmp 0 false [.v 25,.c (.int .i64 0)]))))
theorem zjJ:zad cx 12 12=some zgk.erase:=by kernel_rfl
theorem zrq:zAH cx 12 noC 12 zgh:=zaA (t:=zgk) zjJ (fun _=>rfl) (zau [(39,zbb),(28,zbF),(96,zah)] (by kernel_rfl) (.cons zgq (.cons zfR (.cons zaR .nil)))) (fun x=>by kernel_rfl)
def zkf (p0:Proto) (p1:Int) (p2:Int):Option (Proto×Int) :=
 (zet p0 p1 p2).bind fun v3=>if !v3 then
 some (p0,1)
 else
 ((zAF (Proto.Wait p0) p1).bind fun v6=>if !decide ((Wait.Line v6)=(0:Int)) then
 some (true)
 else
 (zAF (Proto.State p0) p1).bind fun v10=>(zAF v10 p2).bind fun v11=>some ((decide (v11=(0:Int)))):Option Bool).bind fun v5=>if v5 then
 some (p0,8)
 else
 (zAF (Proto.State p0) p1).bind fun v7=>(zAF v7 p2).bind fun v8=>if decide (v8=(1:Int)) then
 (zbO p0 p1 p2 (0:Int)).bind fun v10=>some (v10,0)
 else
 if decide ((64:Int)≤(List.length (Pool.Frames (Proto.Pool p0)):Int)) then
 some (p0,6)
 else
 (zc6 p0 p1 (Wait.mk (w64 (p2 + (1:Int))) false true false false false (0:Int) (0:Int) (0:Int))).bind fun v16=>(zdq v16 p1).bind fun v17=>some (v17,0)
def ziV:FnT:=⟨[zab,.int .i64,.int .i64],[zab,.int .i64],fun x=>zkf x.1 x.2.1 x.2.2⟩
def ziw:TA :=
 .call 42 zbB [.v 0,.v 1,.v 2] 1<|.prim (.un .not) [.v 3]<|.ite (.v 4) (.jmp 0 false [.v 0,.c (.int .i64 1)]) (.sub0 [.bool] (.prim (.fld 2) [.v 0]<|.prim .get [.v 5,.v 1]<|.prim (.fld 0) [.v 6]<|.prim (.bin .neq) [.v 7,.c (.int .i64 0)]<|.ite (.v 8) (.jmp 0 false [.c (.bool true)]) (.prim (.fld 0) [.v 0]<|.prim .get [.v 9,.v 1]<|.prim .get [.v 10,.v 2]<|.prim (.bin .eql) [.v 11,.c (.int .i64 0)]<|.jmp 0 false [.v 12])) 1<|.ite (.v 5) (.jmp 0 false [.v 0,.c (.int .i64 8)]) (.prim (.fld 0) [.v 0]<|.prim .get [.v 6,.v 1]<|.prim .get [.v 7,.v 2]<|.prim (.bin .eql) [.v 8,.c (.int .i64 1)]<|.ite (.v 9) (.call 45 zaM [.v 0,.v 1,.v 2,.c (.int .i64 0)] 1<|.jmp 0 false [.v 10,.c (.int .i64 0)]) (.prim (.fld 6) [.v 0]<|.prim (.fld 0) [.v 10]<|.prim .len [.v 11]<|.prim (.bin .geq) [.v 12,.c (.int .i64 64)]<|.ite (.v 13) (.jmp 0 false [.v 0,.c (.int .i64 6)]) (.prim (.bin .add) [.v 2,.c (.int .i64 1)]<|.mkS zps [.v 14,.c (.bool false),.c (.bool true),.c (.bool false),.c (.bool false),.c (.bool false),.c (.int .i64 0),.c (.int .i64 0),.c (.int .u32 0)]<|.call 44 zaU [.v 0,.v 1,.v 15] 1<|.call 43 zcs [.v 16,.v 1] 1<|.jmp 0 false [.v 17,.c (.int .i64 0)]))))
theorem zoD:zad cx 12 13=some ziw.erase:=by kernel_rfl
theorem zur:zAH cx 12 noC 13 ziV:=zaA (t:=ziw) zoD (fun _=>rfl) (zau [(42,zbB),(45,zaM),(44,zaU),(43,zcs)] (by kernel_rfl) (.cons zf6 (.cons zcu (.cons zc0 (.cons zjn .nil))))) (fun x=>by kernel_rfl)
def zfw (p0:Proto) (p1:Msg):Option Proto :=
 (zAF (Proto.Busy p0) (Msg.Line p1)).bind fun v4=>let v5:Bool:=decide (v4=(0:Int))
 let v7:Bool:=decide ((Msg.Kind p1)=(1:Int))
 if bif v7 then v7 else decide ((Msg.Kind p1)=(2:Int)) then
 if !decide ((Msg.For p1)=(Msg.From p1)) then
 some p0
 else
 if v5 then
 (zgA p0 p1).bind fun v12=>some v12
 else
 (zaZ p0 (Msg.mk (10:Int) (0:Int) (Msg.From p1) (Msg.Line p1) (0:Int) (0:Int) false (0:Int) (0:Int))).bind fun v15=>some v15
 else
 if decide ((Msg.Kind p1)=(8:Int)) then
 if !v5 then
 (zaZ p0 (Msg.mk (10:Int) (0:Int) (Msg.From p1) (Msg.Line p1) (0:Int) (0:Int) false (0:Int) (0:Int))).bind fun v14=>some v14
 else
 (zAF (Proto.Dir p0) (Msg.Line p1)).bind fun v13=>(zmn v13 (w64 ((Msg.From p1) - (1:Int)))).bind fun v16=>(if decide (v16.2=(0:Int)) then
 (zoa p0 (Msg.Line p1) v16.1).bind fun v20=>(zmz v20 (Msg.Line p1) (Msg.Val p1)).bind fun v23=>some v23
 else
 some (p0):Option Proto).bind fun v19=>(zaZ v19 (Msg.mk (9:Int) (0:Int) (Msg.From p1) (Msg.Line p1) (0:Int) (0:Int) false (0:Int) (0:Int))).bind fun v23=>some v23
 else
 zaO (if decide ((Msg.Kind p1)=(11:Int)) then
 (zAF (Proto.Busy p0) (Msg.Line p1)).bind fun v13=>if decide (v13=(Msg.From p1)) then
 (zjM p0 (Msg.Line p1) (0:Int)).bind fun v17=>some (Sum.inr (v17))
 else
 some (Sum.inl ())
 else
 some (Sum.inl ()):Option (Unit⊕Proto)) fun v11=>some p0
def zgO:FnT:=⟨[zab,zAR],[zab],fun x=>zfw x.1 x.2⟩
def zhf:TA :=
 .prim (.fld 5) [.v 0]<|.prim (.fld 3) [.v 1]<|.prim .get [.v 2,.v 3]<|.prim (.bin .eql) [.v 4,.c (.int .i64 0)]<|.prim (.fld 0) [.v 1]<|.prim (.bin .eql) [.v 6,.c (.int .i64 1)]<|.subp [.bool] (.ite (.v 7) (.jmp 0 false [.v 7]) (.prim (.bin .eql) [.v 6,.c (.int .i64 2)]<|.jmp 0 false [.v 8])) 1<|.ite (.v 8) (.prim (.fld 4) [.v 1]<|.prim (.fld 1) [.v 1]<|.prim (.bin .neq) [.v 9,.v 10]<|.ite (.v 11) (.jmp 0 false [.v 0]) (.ite (.v 5) (.call 75 zgb [.v 0,.v 1] 1<|.jmp 0 false [.v 12]) (.prim (.fld 1) [.v 1]<|.prim (.fld 3) [.v 1]<|.mkS zcy [.c (.int .i64 10),.c (.int .i64 0),.v 12,.v 13,.c (.int .i64 0),.c (.int .i64 0),.c (.bool false),.c (.int .u32 0),.c (.int .u32 0)]<|.call 76 zam [.v 0,.v 14] 1<|.jmp 0 false [.v 15]))) (.prim (.bin .eql) [.v 6,.c (.int .i64 8)]<|.ite (.v 9) (.prim (.un .not) [.v 5]<|.ite (.v 10) (.prim (.fld 1) [.v 1]<|.prim (.fld 3) [.v 1]<|.mkS zcy [.c (.int .i64 10),.c (.int .i64 0),.v 11,.v 12,.c (.int .i64 0),.c (.int .i64 0),.c (.bool false),.c (.int .u32 0),.c (.int .u32 0)]<|.call 76 zam [.v 0,.v 13] 1<|.jmp 0 false [.v 14]) (.prim (.fld 4) [.v 0]<|.prim (.fld 3) [.v 1]<|.prim .get [.v 11,.v 12]<|.prim (.fld 1) [.v 1]<|.prim (.bin .sub) [.v 14,.c (.int .i64 1)]<|.call 77 zlv [.v 13,.v 15] 2<|.prim (.bin .eql) [.v 17,.c (.int .i64 0)]<|.sub0 [zab] (.ite (.v 18) (.prim (.fld 3) [.v 1]<|.call 79 zhA [.v 0,.v 19,.v 16] 1<|.prim (.fld 3) [.v 1]<|.prim (.fld 8) [.v 1]<|.call 78 zlb [.v 20,.v 21,.v 22] 1<|.jmp 0 false [.v 23]) (.jmp 0 false [.v 0])) 1<|.prim (.fld 1) [.v 1]<|.prim (.fld 3) [.v 1]<|.mkS zcy [.c (.int .i64 9),.c (.int .i64 0),.v 20,.v 21,.c (.int .i64 0),.c (.int .i64 0),.c (.bool false),.c (.int .u32 0),.c (.int .u32 0)]<|.call 76 zam [.v 19,.v 22] 1<|.jmp 0 false [.v 23])) (.prim (.bin .eql) [.v 6,.c (.int .i64 11)]<|.sub1 [] (.ite (.v 10) (.prim (.fld 5) [.v 0]<|.prim (.fld 3) [.v 1]<|.prim .get [.v 11,.v 12]<|.prim (.fld 1) [.v 1]<|.prim (.bin .eql) [.v 13,.v 14]<|.ite (.v 15) (.prim (.fld 3) [.v 1]<|.call 80 zfj [.v 0,.v 16,.c (.int .i64 0)] 1<|.jmp 1 false [.v 17]) (.jmp 0 false [])) (.jmp 0 false [])) 0<|.jmp 0 false [.v 0]))
theorem zlM:zad cx 12 33=some zhf.erase:=by kernel_rfl
theorem ztl:zAH cx 12 noC 33 zgO:=zaA (t:=zhf) zlM (fun _=>rfl) (zau [(75,zgb),(76,zam),(76,zam),(77,zlv),(79,zhA),(78,zlb),(76,zam),(80,zfj)] (by kernel_rfl) (.cons zq3 (.cons za3 (.cons za3 (.cons zwx (.cons zr2 (.cons zvP (.cons za3 (.cons zpP .nil))))))))) (fun x=>by kernel_rfl)
def ze8 (p0:Proto) (p1:Int) (p2:Msg):Option Proto :=
 (zAF (Proto.Wait p0) p1).bind fun v4=>(zAF (Proto.State p0) p1).bind fun v6=>(zAF v6 (Msg.Line p2)).bind fun v8=>let v12:Bool:=decide ((Wait.Line v4)=(w64 ((Msg.Line p2) + (1:Int))))
 zaO (if decide ((Msg.Kind p2)=(3:Int)) then
 if v12&&((!(Wait.Back v4))&&(!(Wait.Came v4))) then
 (zc6 p0 p1 (Wait.mk (Wait.Line v4) (Wait.Write v4) false true (Msg.Own p2) (decide ((Msg.Num p2)=(1:Int))) (Msg.Acks p2) (Wait.Got v4) (Msg.Val p2))).bind fun v25=>(zev v25 p1).bind fun v26=>some (Sum.inr (v26))
 else
 some (Sum.inl ())
 else
 zaO (if decide ((Msg.Kind p2)=(5:Int)) then
 if v12&&((Wait.Write v4)&&(decide ((Wait.Got v4)<(255:Int)))) then
 (zc6 p0 p1 (Wait.setGot v4 (w64 ((Wait.Got v4) + (1:Int))))).bind fun v20=>(zev v20 p1).bind fun v21=>some (Sum.inr (Sum.inr (v21)))
 else
 some (Sum.inl ())
 else
 if decide ((Msg.Kind p2)=(4:Int)) then
 (if decide (v8=(1:Int)) then
 (zbO p0 p1 (Msg.Line p2) (0:Int)).bind fun v19=>some v19
 else
 some (p0):Option Proto).bind fun v18=>(zaZ v18 (Msg.mk (5:Int) (w64 (p1 + (1:Int))) (Msg.For p2) (Msg.Line p2) (0:Int) (0:Int) false (0:Int) (0:Int))).bind fun v23=>some (Sum.inr (Sum.inr (v23)))
 else
 zaO (if decide ((Msg.Kind p2)=(6:Int)) then
 if decide ((1:Int)<v8) then
 (zAF (Proto.Val p0) p1).bind fun v24=>(zAF v24 (Msg.Line p2)).bind fun v26=>(zaZ p0 (Msg.mk (3:Int) (w64 (p1 + (1:Int))) (Msg.For p2) (Msg.Line p2) (0:Int) (Msg.Acks p2) false (0:Int) v26)).bind fun v28=>(zbO v28 p1 (Msg.Line p2) (4:Int)).bind fun v30=>some (Sum.inr (Sum.inr (Sum.inr (v30))))
 else
 some (Sum.inl ())
 else
 zaO (if decide ((Msg.Kind p2)=(7:Int)) then
 if decide ((1:Int)<v8) then
 (zAF (Proto.Val p0) p1).bind fun v25=>(zAF v25 (Msg.Line p2)).bind fun v27=>(zaZ p0 (Msg.mk (3:Int) (w64 (p1 + (1:Int))) (Msg.For p2) (Msg.Line p2) (0:Int) (Msg.Acks p2) true (0:Int) v27)).bind fun v29=>(zbO v29 p1 (Msg.Line p2) (0:Int)).bind fun v31=>some (Sum.inr (Sum.inr (Sum.inr (Sum.inr (v31)))))
 else
 some (Sum.inl ())
 else
 zaO (if decide ((Msg.Kind p2)=(10:Int)) then
 if v12&&((!(Wait.Came v4))&&((Wait.Back v4)&&(decide (v8<(2:Int))))) then
 (zc6 p0 p1 (Wait.mk (0:Int) false false false false false (0:Int) (0:Int) (0:Int))).bind fun v21=>some (Sum.inr (Sum.inr (Sum.inr (Sum.inr (Sum.inr (v21))))))
 else
 if v12&&(!(Wait.Came v4)) then
 (zdq p0 p1).bind fun v22=>some (Sum.inr (Sum.inr (Sum.inr (Sum.inr (Sum.inr (v22))))))
 else
 some (Sum.inl ())
 else
 zaO (if decide ((Msg.Kind p2)=(9:Int)) then
 if v12&&(Wait.Back v4) then
 (zbO p0 p1 (Msg.Line p2) (0:Int)).bind fun v23=>(zc6 v23 p1 (Wait.mk (0:Int) false false false false false (0:Int) (0:Int) (0:Int))).bind fun v24=>some (Sum.inr (Sum.inr (Sum.inr (Sum.inr (Sum.inr (Sum.inr (v24)))))))
 else
 some (Sum.inl ())
 else
 some (Sum.inl ()):Option (Unit⊕Unit⊕Unit⊕Unit⊕Unit⊕Unit⊕Proto)) fun v21=>some (Sum.inl ()):Option (Unit⊕Unit⊕Unit⊕Unit⊕Unit⊕Proto)) fun v20=>some (Sum.inl ()):Option (Unit⊕Unit⊕Unit⊕Unit⊕Proto)) fun v19=>some (Sum.inl ()):Option (Unit⊕Unit⊕Unit⊕Proto)) fun v18=>some (Sum.inl ()):Option (Unit⊕Unit⊕Proto)) fun v16=>some (Sum.inl ()):Option (Unit⊕Proto)) fun v15=>some p0
def zgZ:FnT:=⟨[zab,.int .i64,zAR],[zab],fun x=>ze8 x.1 x.2.1 x.2.2⟩
def zht:TA :=
 .prim (.fld 2) [.v 0]<|.prim .get [.v 3,.v 1]<|.prim (.fld 0) [.v 0]<|.prim .get [.v 5,.v 1]<|.prim (.fld 3) [.v 2]<|.prim .get [.v 6,.v 7]<|.prim (.fld 0) [.v 4]<|.prim (.fld 3) [.v 2]<|.prim (.bin .add) [.v 10,.c (.int .i64 1)]<|.prim (.bin .eql) [.v 9,.v 11]<|.prim (.fld 0) [.v 2]<|.prim (.bin .eql) [.v 13,.c (.int .i64 3)]<|.sub1 [] (.ite (.v 14) (.subp [.bool] (.ite (.v 12) (.prim (.fld 2) [.v 4]<|.prim (.un .not) [.v 15]<|.ite (.v 16) (.prim (.fld 3) [.v 4]<|.prim (.un .not) [.v 17]<|.jmp 0 false [.v 18]) (.jmp 0 false [.c (.bool false)])) (.jmp 0 false [.c (.bool false)])) 1<|.ite (.v 15) (.prim (.fld 0) [.v 4]<|.prim (.fld 1) [.v 4]<|.prim (.fld 6) [.v 2]<|.prim (.fld 7) [.v 2]<|.prim (.bin .eql) [.v 19,.c (.int .u32 1)]<|.prim (.fld 5) [.v 2]<|.prim (.fld 7) [.v 4]<|.prim (.fld 8) [.v 2]<|.mkS zps [.v 16,.v 17,.c (.bool false),.c (.bool true),.v 18,.v 20,.v 21,.v 22,.v 23]<|.call 44 zaU [.v 0,.v 1,.v 24] 1<|.call 81 zfi [.v 25,.v 1] 1<|.jmp 1 false [.v 26]) (.jmp 0 false [])) (.prim (.bin .eql) [.v 13,.c (.int .i64 5)]<|.sub1 [] (.ite (.v 15) (.subp [.bool] (.ite (.v 12) (.prim (.fld 1) [.v 4]<|.ite (.v 16) (.prim (.fld 7) [.v 4]<|.prim (.bin .lss) [.v 17,.c (.int .i64 255)]<|.jmp 0 false [.v 18]) (.jmp 0 false [.c (.bool false)])) (.jmp 0 false [.c (.bool false)])) 1<|.ite (.v 16) (.prim (.fld 7) [.v 4]<|.prim (.bin .add) [.v 17,.c (.int .i64 1)]<|.prim (.setf 7) [.v 4,.v 18]<|.call 44 zaU [.v 0,.v 1,.v 19] 1<|.call 81 zfi [.v 20,.v 1] 1<|.jmp 2 false [.v 21]) (.jmp 0 false [])) (.prim (.bin .eql) [.v 13,.c (.int .i64 4)]<|.ite (.v 16) (.prim (.bin .eql) [.v 8,.c (.int .i64 1)]<|.sub0 [zab] (.ite (.v 17) (.prim (.fld 3) [.v 2]<|.call 45 zaM [.v 0,.v 1,.v 18,.c (.int .i64 0)] 1<|.jmp 0 false [.v 19]) (.jmp 0 false [.v 0])) 1<|.prim (.bin .add) [.v 1,.c (.int .i64 1)]<|.prim (.fld 4) [.v 2]<|.prim (.fld 3) [.v 2]<|.mkS zcy [.c (.int .i64 5),.v 19,.v 20,.v 21,.c (.int .i64 0),.c (.int .i64 0),.c (.bool false),.c (.int .u32 0),.c (.int .u32 0)]<|.call 76 zam [.v 18,.v 22] 1<|.jmp 2 false [.v 23]) (.prim (.bin .eql) [.v 13,.c (.int .i64 6)]<|.sub1 [] (.ite (.v 17) (.prim (.bin .gtr) [.v 8,.c (.int .i64 1)]<|.ite (.v 18) (.prim (.bin .add) [.v 1,.c (.int .i64 1)]<|.prim (.fld 4) [.v 2]<|.prim (.fld 3) [.v 2]<|.prim (.fld 5) [.v 2]<|.prim (.fld 1) [.v 0]<|.prim .get [.v 23,.v 1]<|.prim (.fld 3) [.v 2]<|.prim .get [.v 24,.v 25]<|.mkS zcy [.c (.int .i64 3),.v 19,.v 20,.v 21,.c (.int .i64 0),.v 22,.c (.bool false),.c (.int .u32 0),.v 26]<|.call 76 zam [.v 0,.v 27] 1<|.prim (.fld 3) [.v 2]<|.call 45 zaM [.v 28,.v 1,.v 29,.c (.int .i64 4)] 1<|.jmp 3 false [.v 30]) (.jmp 0 false [])) (.prim (.bin .eql) [.v 13,.c (.int .i64 7)]<|.sub1 [] (.ite (.v 18) (.prim (.bin .gtr) [.v 8,.c (.int .i64 1)]<|.ite (.v 19) (.prim (.bin .add) [.v 1,.c (.int .i64 1)]<|.prim (.fld 4) [.v 2]<|.prim (.fld 3) [.v 2]<|.prim (.fld 5) [.v 2]<|.prim (.fld 1) [.v 0]<|.prim .get [.v 24,.v 1]<|.prim (.fld 3) [.v 2]<|.prim .get [.v 25,.v 26]<|.mkS zcy [.c (.int .i64 3),.v 20,.v 21,.v 22,.c (.int .i64 0),.v 23,.c (.bool true),.c (.int .u32 0),.v 27]<|.call 76 zam [.v 0,.v 28] 1<|.prim (.fld 3) [.v 2]<|.call 45 zaM [.v 29,.v 1,.v 30,.c (.int .i64 0)] 1<|.jmp 4 false [.v 31]) (.jmp 0 false [])) (.prim (.bin .eql) [.v 13,.c (.int .i64 10)]<|.sub1 [] (.ite (.v 19) (.subp [.bool] (.ite (.v 12) (.prim (.fld 3) [.v 4]<|.prim (.un .not) [.v 20]<|.ite (.v 21) (.prim (.fld 2) [.v 4]<|.ite (.v 22) (.prim (.bin .lss) [.v 8,.c (.int .i64 2)]<|.jmp 0 false [.v 23]) (.jmp 0 false [.c (.bool false)])) (.jmp 0 false [.c (.bool false)])) (.jmp 0 false [.c (.bool false)])) 1<|.ite (.v 20) (.call 44 zaU [.v 0,.v 1,.c (.agg [(.int .i64 0),(.bool false),(.bool false),(.bool false),(.bool false),(.bool false),(.int .i64 0),(.int .i64 0),(.int .u32 0)])] 1<|.jmp 5 false [.v 21]) (.subp [.bool] (.ite (.v 12) (.prim (.fld 3) [.v 4]<|.prim (.un .not) [.v 21]<|.jmp 0 false [.v 22]) (.jmp 0 false [.c (.bool false)])) 1<|.ite (.v 21) (.call 43 zcs [.v 0,.v 1] 1<|.jmp 5 false [.v 22]) (.jmp 0 false []))) (.prim (.bin .eql) [.v 13,.c (.int .i64 9)]<|.sub1 [] (.ite (.v 20) (.subp [.bool] (.ite (.v 12) (.prim (.fld 2) [.v 4]<|.jmp 0 false [.v 21]) (.jmp 0 false [.c (.bool false)])) 1<|.ite (.v 21) (.prim (.fld 3) [.v 2]<|.call 45 zaM [.v 0,.v 1,.v 22,.c (.int .i64 0)] 1<|.call 44 zaU [.v 23,.v 1,.c (.agg [(.int .i64 0),(.bool false),(.bool false),(.bool false),(.bool false),(.bool false),(.int .i64 0),(.int .i64 0),(.int .u32 0)])] 1<|.jmp 6 false [.v 24]) (.jmp 0 false [])) (.jmp 0 false [])) 0<|.jmp 0 false [])) 0<|.jmp 0 false [])) 0<|.jmp 0 false [])) 0<|.jmp 0 false []))) 0<|.jmp 0 false [])) 0<|.jmp 0 false [.v 0]
theorem zlX:zad cx 12 34=some zht.erase:=by kernel_rfl
theorem zsP:zAH cx 12 noC 34 zgZ:=zaA (t:=zht) zlX (fun _=>rfl) (zau [(44,zaU),(81,zfi),(44,zaU),(81,zfi),(45,zaM),(76,zam),(76,zam),(45,zaM),(76,zam),(45,zaM),(44,zaU),(43,zcs),(45,zaM),(44,zaU)] (by kernel_rfl) (.cons zc0 (.cons zp8 (.cons zc0 (.cons zp8 (.cons zcu (.cons za3 (.cons za3 (.cons zcu (.cons za3 (.cons zcu (.cons zc0 (.cons zjn (.cons zcu (.cons zc0 .nil))))))))))))))) (fun x=>by kernel_rfl)
def zcr (p0:Proto) (p1:Int):Option (Proto×Int) :=
 (ze4 p0).bind fun v2=>if !v2 then
 some (p0,1)
 else
 (zfM (Proto.Pool p0) p1).bind fun v5=>if decide (v5.2.2=(7:Int)) then
 some (p0,7)
 else
 let v10:Int:=(List.length (Proto.Wait p0):Int)
 if decide ((64:Int)<(w64 ((w64 ((List.length (Pool.Frames v5.1):Int) + v10)) + (1:Int)))) then
 some (p0,6)
 else
 let v16:Proto:=Proto.setPool p0 v5.1
 if !decide (v5.2.2=(0:Int)) then
 some ((v16,v5.2.2))
 else
 if (decide ((List.length (Proto.Home v16):Int)≤(Msg.Line v5.2.1)))||((decide (v10<(Msg.From v5.2.1)))||((decide (v10<(Msg.To v5.2.1)))||((decide (v10<(Msg.For v5.2.1)))||((decide ((Msg.To v5.2.1)=(0:Int)))&&(decide ((Msg.From v5.2.1)=(0:Int))))))) then
 some (v16,0)
 else
 if decide ((Msg.To v5.2.1)=(0:Int)) then
 (zfw v16 v5.2.1).bind fun v21=>some (v21,0)
 else
 (ze8 v16 (w64 ((Msg.To v5.2.1) - (1:Int))) v5.2.1).bind fun v23=>some (v23,0)
def zf2:FnT:=⟨[zab,.int .i64],[zab,.int .i64],fun x=>zcr x.1 x.2⟩
def zfO:TA :=
 .call 20 zeb [.v 0] 1<|.prim (.un .not) [.v 2]<|.ite (.v 3) (.jmp 0 false [.v 0,.c (.int .i64 1)]) (.prim (.fld 6) [.v 0]<|.call 32 zlh [.v 4,.v 1] 3<|.prim (.bin .eql) [.v 7,.c (.int .i64 7)]<|.ite (.v 8) (.jmp 0 false [.v 0,.c (.int .i64 7)]) (.prim (.fld 2) [.v 0]<|.prim .len [.v 9]<|.prim (.fld 0) [.v 5]<|.prim .len [.v 11]<|.prim (.bin .add) [.v 12,.v 10]<|.prim (.bin .add) [.v 13,.c (.int .i64 1)]<|.prim (.bin .gtr) [.v 14,.c (.int .i64 64)]<|.ite (.v 15) (.jmp 0 false [.v 0,.c (.int .i64 6)]) (.prim (.setf 6) [.v 0,.v 5]<|.prim (.bin .neq) [.v 7,.c (.int .i64 0)]<|.ite (.v 17) (.jmp 0 false [.v 16,.v 7]) (.subp [.bool] (.prim (.fld 3) [.v 6]<|.prim (.fld 3) [.v 16]<|.prim .len [.v 19]<|.prim (.bin .geq) [.v 18,.v 20]<|.ite (.v 21) (.jmp 0 false [.c (.bool true)]) (.prim (.fld 1) [.v 6]<|.prim (.bin .gtr) [.v 22,.v 10]<|.ite (.v 23) (.jmp 0 false [.c (.bool true)]) (.prim (.fld 2) [.v 6]<|.prim (.bin .gtr) [.v 24,.v 10]<|.ite (.v 25) (.jmp 0 false [.c (.bool true)]) (.prim (.fld 4) [.v 6]<|.prim (.bin .gtr) [.v 26,.v 10]<|.ite (.v 27) (.jmp 0 false [.c (.bool true)]) (.prim (.fld 2) [.v 6]<|.prim (.bin .eql) [.v 28,.c (.int .i64 0)]<|.ite (.v 29) (.prim (.fld 1) [.v 6]<|.prim (.bin .eql) [.v 30,.c (.int .i64 0)]<|.jmp 0 false [.v 31]) (.jmp 0 false [.c (.bool false)])))))) 1<|.ite (.v 18) (.jmp 0 false [.v 16,.c (.int .i64 0)]) (.prim (.fld 2) [.v 6]<|.prim (.bin .eql) [.v 19,.c (.int .i64 0)]<|.ite (.v 20) (.call 33 zgO [.v 16,.v 6] 1<|.jmp 0 false [.v 21,.c (.int .i64 0)]) (.prim (.fld 2) [.v 6]<|.prim (.bin .sub) [.v 21,.c (.int .i64 1)]<|.call 34 zgZ [.v 16,.v 22,.v 6] 1<|.jmp 0 false [.v 23,.c (.int .i64 0)]))))))
theorem zkj:zad cx 12 8=some zfO.erase:=by kernel_rfl
theorem zrg:zAH cx 12 noC 8 zf2:=zaA (t:=zfO) zkj (fun _=>rfl) (zau [(20,zeb),(32,zlh),(33,zgO),(34,zgZ)] (by kernel_rfl) (.cons znc (.cons zwk (.cons ztl (.cons zsP .nil))))) (fun x=>by kernel_rfl)
def zqh (p0:Proto) (p1:l10_Act):Option (Proto×Int) :=
 (zAX (w64 (l10_Act.N p1)) (List.length (Proto.Wait p0):Int)).bind fun v6=>(zAX (w64 (l10_Act.Line p1)) (List.length (Proto.Home p0):Int)).bind fun v11=>(zAX (l10_Act.Kind p1) (8:Int)).bind fun v13=>let v14:Bool:=decide (v13=(0:Int))
 if bif v14 then v14 else decide (v13=(1:Int)) then
 (zhI p0 v6 v11 (l10_Act.Write p1)).bind fun v17=>some ((v17.1,v17.2))
 else
 if decide (v13=(2:Int)) then
 (zfZ p0 v6 v11).bind fun v17=>some ((v17.1,v17.2))
 else
 if decide (v13=(3:Int)) then
 (zka p0 v6 v11 (l10_Act.Val p1)).bind fun v19=>some ((v19.1,v19.2))
 else
 (if decide ((0:Int)<(List.length (Pool.Frames (Proto.Pool p0)):Int)) then
 (zAX (w64 (l10_Act.At p1)) (List.length (Pool.Frames (Proto.Pool p0)):Int)).bind fun v27=>some v27
 else
 some ((0:Int)):Option Int).bind fun v22=>(zcE p0 v22).bind fun v23=>some ((v23.1,v23.2))
def zqX:FnT:=⟨[zab,zhW],[zab,.int .i64],fun x=>zqh x.1 x.2⟩
def zq1:TA :=
 .prim (.fld 1) [.v 1]<|.prim (.conv .i64) [.v 2]<|.prim (.fld 2) [.v 0]<|.prim .len [.v 4]<|.prim (.bin .rem) [.v 3,.v 5]<|.prim (.fld 2) [.v 1]<|.prim (.conv .i64) [.v 7]<|.prim (.fld 3) [.v 0]<|.prim .len [.v 9]<|.prim (.bin .rem) [.v 8,.v 10]<|.prim (.fld 0) [.v 1]<|.prim (.bin .rem) [.v 12,.c (.int .u8 8)]<|.prim (.bin .eql) [.v 13,.c (.int .u8 0)]<|.subp [.bool] (.ite (.v 14) (.jmp 0 false [.v 14]) (.prim (.bin .eql) [.v 13,.c (.int .u8 1)]<|.jmp 0 false [.v 15])) 1<|.ite (.v 15) (.prim (.fld 4) [.v 1]<|.call 10 zgL [.v 0,.v 6,.v 11,.v 16] 2<|.jmp 0 false [.v 17,.v 18]) (.prim (.bin .eql) [.v 13,.c (.int .u8 2)]<|.ite (.v 16) (.call 12 zgh [.v 0,.v 6,.v 11] 2<|.jmp 0 false [.v 17,.v 18]) (.prim (.bin .eql) [.v 13,.c (.int .u8 3)]<|.ite (.v 17) (.prim (.fld 5) [.v 1]<|.call 14 zjt [.v 0,.v 6,.v 11,.v 18] 2<|.jmp 0 false [.v 19,.v 20]) (.prim (.fld 6) [.v 0]<|.prim (.fld 0) [.v 18]<|.prim .len [.v 19]<|.prim (.bin .gtr) [.v 20,.c (.int .i64 0)]<|.sub0 [.int .i64] (.ite (.v 21) (.prim (.fld 3) [.v 1]<|.prim (.conv .i64) [.v 22]<|.prim (.fld 6) [.v 0]<|.prim (.fld 0) [.v 24]<|.prim .len [.v 25]<|.prim (.bin .rem) [.v 23,.v 26]<|.jmp 0 false [.v 27]) (.jmp 0 false [.c (.int .i64 0)])) 1<|.call 7 zef [.v 0,.v 22] 2<|.jmp 0 false [.v 23,.v 24])))
theorem zvs:zad cx 12 23=some zq1.erase:=by kernel_rfl
theorem zyi:zAH cx 12 noC 23 zqX:=zaA (t:=zq1) zvs (fun _=>rfl) (zau [(10,zgL),(12,zgh),(14,zjt),(7,zef)] (by kernel_rfl) (.cons zr9 (.cons zrq (.cons ztU (.cons znF .nil))))) (fun x=>by kernel_rfl)
def zjD (p0:Proto) (p1:l10_Act):Option (Proto×Int) :=
 (zAX (w64 (l10_Act.N p1)) (List.length (Proto.Wait p0):Int)).bind fun v6=>(zAX (w64 (l10_Act.Line p1)) (List.length (Proto.Home p0):Int)).bind fun v11=>(zAX (l10_Act.Kind p1) (8:Int)).bind fun v13=>let v14:Bool:=decide (v13=(0:Int))
 if bif v14 then v14 else decide (v13=(1:Int)) then
 (zmp p0 v6 v11 (l10_Act.Write p1)).bind fun v17=>some ((v17.1,v17.2))
 else
 if decide (v13=(2:Int)) then
 (zkf p0 v6 v11).bind fun v17=>some ((v17.1,v17.2))
 else
 if decide (v13=(3:Int)) then
 (zq4 p0 v6 v11 (l10_Act.Val p1)).bind fun v19=>some ((v19.1,v19.2))
 else
 (if decide ((0:Int)<(List.length (Pool.Frames (Proto.Pool p0)):Int)) then
 (zAX (w64 (l10_Act.At p1)) (List.length (Pool.Frames (Proto.Pool p0)):Int)).bind fun v27=>some v27
 else
 some ((0:Int)):Option Int).bind fun v22=>(zcr p0 v22).bind fun v23=>some ((v23.1,v23.2))
def zlE:FnT:=⟨[zab,zhW],[zab,.int .i64],fun x=>zjD x.1 x.2⟩
def zk8:TA :=
 .prim (.fld 1) [.v 1]<|.prim (.conv .i64) [.v 2]<|.prim (.fld 2) [.v 0]<|.prim .len [.v 4]<|.prim (.bin .rem) [.v 3,.v 5]<|.prim (.fld 2) [.v 1]<|.prim (.conv .i64) [.v 7]<|.prim (.fld 3) [.v 0]<|.prim .len [.v 9]<|.prim (.bin .rem) [.v 8,.v 10]<|.prim (.fld 0) [.v 1]<|.prim (.bin .rem) [.v 12,.c (.int .u8 8)]<|.prim (.bin .eql) [.v 13,.c (.int .u8 0)]<|.subp [.bool] (.ite (.v 14) (.jmp 0 false [.v 14]) (.prim (.bin .eql) [.v 13,.c (.int .u8 1)]<|.jmp 0 false [.v 15])) 1<|.ite (.v 15) (.prim (.fld 4) [.v 1]<|.call 11 zk6 [.v 0,.v 6,.v 11,.v 16] 2<|.jmp 0 false [.v 17,.v 18]) (.prim (.bin .eql) [.v 13,.c (.int .u8 2)]<|.ite (.v 16) (.call 13 ziV [.v 0,.v 6,.v 11] 2<|.jmp 0 false [.v 17,.v 18]) (.prim (.bin .eql) [.v 13,.c (.int .u8 3)]<|.ite (.v 17) (.prim (.fld 5) [.v 1]<|.call 15 znH [.v 0,.v 6,.v 11,.v 18] 2<|.jmp 0 false [.v 19,.v 20]) (.prim (.fld 6) [.v 0]<|.prim (.fld 0) [.v 18]<|.prim .len [.v 19]<|.prim (.bin .gtr) [.v 20,.c (.int .i64 0)]<|.sub0 [.int .i64] (.ite (.v 21) (.prim (.fld 3) [.v 1]<|.prim (.conv .i64) [.v 22]<|.prim (.fld 6) [.v 0]<|.prim (.fld 0) [.v 24]<|.prim .len [.v 25]<|.prim (.bin .rem) [.v 23,.v 26]<|.jmp 0 false [.v 27]) (.jmp 0 false [.c (.int .i64 0)])) 1<|.call 8 zf2 [.v 0,.v 22] 2<|.jmp 0 false [.v 23,.v 24])))
theorem zqb:zad cx 12 24=some zk8.erase:=by kernel_rfl
theorem zvL:zAH cx 12 noC 24 zlE:=zaA (t:=zk8) zqb (fun _=>rfl) (zau [(11,zk6),(13,ziV),(15,znH),(8,zf2)] (by kernel_rfl) (.cons zv6 (.cons zur (.cons zxN (.cons zrg .nil))))) (fun x=>by kernel_rfl)
end Go.Proofs.YtdfohlonacbelaaGreat
