/- More functions of this cut as functions of plain typed data. Printed by a program of this claim's prover; each is checked here to be what the executor makes of the code. -/
import Derived.Test.YtdfohlonacbelaaGreatD102
set_option linter.unusedVariables false
set_option maxRecDepth 100000
noncomputable section
namespace Go.Proofs.YtdfohlonacbelaaGreat
open Go.SX
def zid (x22:List (List Int)) (x23:Int) (s:(Int×(List (List Int)))):Option ((Int×(List (List Int)))⊕(List (List Int))) :=
 if decide (s.1<x23) then
 (getO x22 s.1).bind fun v27=>(zaD 1 v27).bind fun v28=>(appO 24 s.2 ([v28]:List (List Int))).bind fun v30=>some (Sum.inl (w64 (s.1 + (1:Int)),v30))
 else
 some (Sum.inr (s.2))
def zif (x17:List Entry) (x20:Int) (s:(Int×(List Entry))):Option ((Int×(List Entry))⊕(List Entry)) :=
 if decide (s.1<x20) then
 (getO x17 s.1).bind fun v24=>(zaD 1 (Entry.Share v24)).bind fun v27=>(appO 32 s.2 ([Entry.mk (Entry.Owner v24) v27]:List Entry)).bind fun v30=>some (Sum.inl (w64 (s.1 + (1:Int)),v30))
 else
 some (Sum.inr (s.2))
def zij (x5:List (List Int)) (x6:Int) (s:(Int×(List (List Int)))):Option ((Int×(List (List Int)))⊕(List (List Int))) :=
 if decide (s.1<x6) then
 (getO x5 s.1).bind fun v10=>(zaD 4 v10).bind fun v11=>(appO 24 s.2 ([v11]:List (List Int))).bind fun v13=>some (Sum.inl (w64 (s.1 + (1:Int)),v13))
 else
 some (Sum.inr (s.2))
def zib (x3:List (List Int)) (x4:Int) (s:(Int×(List (List Int)))):Option ((Int×(List (List Int)))⊕(List (List Int))) :=
 if decide (s.1<x4) then
 (getO x3 s.1).bind fun v8=>(zaD 8 v8).bind fun v9=>(appO 24 s.2 ([v9]:List (List Int))).bind fun v11=>some (Sum.inl (w64 (s.1 + (1:Int)),v11))
 else
 some (Sum.inr (s.2))
def zga (p0:Proto) (p1:Int) (p2:Int):Option (Proto×Int) :=
 ((let v4:Int:=(List.length (Proto.State p0):Int)
 (zai (zib (Proto.State p0) v4) ((0:Int),([]:List (List Int))):Option (List (List Int))).bind fun v5=>some (v5):Option (List (List Int))).bind fun v4=>(let v6:Int:=(List.length (Proto.Val p0):Int)
 (zai (zij (Proto.Val p0) v6) ((0:Int),([]:List (List Int))):Option (List (List Int))).bind fun v7=>some (v7):Option (List (List Int))).bind fun v6=>(zaD 40 (Proto.Wait p0)).bind fun v8=>(zaD 4 (Proto.Home p0)).bind fun v10=>(zaD 8 (Proto.Busy p0)).bind fun v12=>let v20:Int:=(List.length (Proto.Dir p0):Int)
 (zai (zif (Proto.Dir p0) v20) ((0:Int),([]:List Entry)):Option (List Entry)).bind fun v21=>let v22:List (List Int):=Pool.Frames (Proto.Pool p0)
 (let v23:Int:=(List.length v22:Int)
 (zai (zid v22 v23) ((0:Int),([]:List (List Int))):Option (List (List Int))).bind fun v24=>some (v24):Option (List (List Int))).bind fun v23=>some ((v4,v6,v8,v10,v21,v12,v23)):Option ((List (List Int))×(List (List Int))×(List Wait)×(List Int)×(List Entry)×(List Int)×(List (List Int)))).bind fun v3=>(zbT p0 p1 p2).bind fun v10=>if !v10 then
 some ((Proto.mk v3.1 v3.2.1 v3.2.2.1 v3.2.2.2.1 v3.2.2.2.2.1 v3.2.2.2.2.2.1 (Pool.mk v3.2.2.2.2.2.2),(1:Int)))
 else
 ((getO (Proto.Wait p0) p1).bind fun v13=>if decide ((0:Int)<(Wait.Line v13)) then
 some (true)
 else
 (getO (Proto.State p0) p1).bind fun v17=>(getO v17 p2).bind fun v18=>some ((decide (v18=(0:Int)))):Option Bool).bind fun v12=>if v12 then
 some ((Proto.mk v3.1 v3.2.1 v3.2.2.1 v3.2.2.2.1 v3.2.2.2.2.1 v3.2.2.2.2.2.1 (Pool.mk v3.2.2.2.2.2.2),(8:Int)))
 else
 (getO (Proto.State p0) p1).bind fun v14=>(getO v14 p2).bind fun v15=>if decide (v15=(1:Int)) then
 (idxO (List.length v3.1:Int) p1).bind fun v17=>(idxO (List.length v3.1:Int) v17).bind fun v18=>(getO v3.1 v18).bind fun v19=>(idxO (List.length v19:Int) p2).bind fun v20=>(getO v3.1 v18).bind fun v21=>(setO v21 v20 (0:Int)).bind fun v22=>(setO v3.1 v18 v22).bind fun v23=>some ((Proto.mk v23 v3.2.1 v3.2.2.1 v3.2.2.2.1 v3.2.2.2.2.1 v3.2.2.2.2.2.1 (Pool.mk v3.2.2.2.2.2.2),(0:Int)))
 else
 (zcN (Proto.Pool p0)).bind fun v18=>if decide (v18=(0:Int)) then
 some ((Proto.mk v3.1 v3.2.1 v3.2.2.1 v3.2.2.2.1 v3.2.2.2.2.1 v3.2.2.2.2.2.1 (Pool.mk v3.2.2.2.2.2.2),(6:Int)))
 else
 (idxO (List.length v3.2.2.1:Int) p1).bind fun v22=>(setO v3.2.2.1 v22 (Wait.mk (w64 (p2 + (1:Int))) false true false false false (0:Int) (0:Int) (0:Int))).bind fun v23=>((idxO (List.length v23:Int) p1).bind fun v24=>(getO v23 v24).bind fun v25=>let v30:Msg:=Msg.mk (1:Int) (w64 (p1 + (1:Int))) (0:Int) (w64 ((Wait.Line v25) - (1:Int))) (w64 (p1 + (1:Int))) (0:Int) false (0:Int) (0:Int)
 (if Wait.Back v25 then
 (idxO (List.length v3.2.1:Int) p1).bind fun v32=>(idxO (List.length v3.2.1:Int) v32).bind fun v33=>(getO v3.2.1 v33).bind fun v35=>(idxO (List.length v35:Int) (Msg.Line v30)).bind fun v36=>(getO v3.2.1 v33).bind fun v37=>(getO v37 v36).bind fun v38=>some ((Msg.setVal (Msg.setFor (Msg.setKind v30 (8:Int)) (0:Int)) v38))
 else
 some ((bif Wait.Write v25 then Msg.setKind v30 (2:Int) else v30)):Option Msg).bind fun v32=>((zak (Pool.mk v3.2.2.2.2.2.2) v32).bind fun v34=>some (v34.1):Option Pool).bind fun v33=>some (v33):Option Pool).bind fun v24=>some ((Proto.mk v3.1 v3.2.1 v23 v3.2.2.2.1 v3.2.2.2.2.1 v3.2.2.2.2.2.1 v24,(0:Int)))
def zf2:FnT:=⟨[zac,.int .i64,.int .i64],[zac,.int .i64],fun x=>zga x.1 x.2.1 x.2.2⟩
def zgm:TA :=
 .sub0 [.sl (.sl (.int .i64)),.sl (.sl (.int .u32)),.sl zcg,.sl (.int .u32),.sl zas,.sl (.int .i64),.sl (.sl (.int .u8))] (.prim (.fld 0) [.v 0]<|.sub0 [.sl (.sl (.int .i64))] (.prim .len [.v 3]<|.sub0 [.sl (.sl (.int .i64))] (.loop [.int .i64,.sl (.sl (.int .i64))] [.c (.int .i64 0),.c .nil] (.prim (.bin .lss) [.v 5,.v 4]<|.ite (.v 7) (.prim .get [.v 3,.v 5]<|.prim (.clone 8) [.v 8]<|.mkL (.sl (.int .i64)) [.v 9]<|.prim (.app 24) [.v 6,.v 10]<|.prim (.bin .add) [.v 5,.c (.int .i64 1)]<|.jmp 0 true [.v 12,.v 11]) (.jmp 1 false [.v 6]))) 1<|.jmp 0 false [.v 5]) 1<|.prim (.fld 1) [.v 0]<|.sub0 [.sl (.sl (.int .u32))] (.prim .len [.v 5]<|.sub0 [.sl (.sl (.int .u32))] (.loop [.int .i64,.sl (.sl (.int .u32))] [.c (.int .i64 0),.c .nil] (.prim (.bin .lss) [.v 7,.v 6]<|.ite (.v 9) (.prim .get [.v 5,.v 7]<|.prim (.clone 4) [.v 10]<|.mkL (.sl (.int .u32)) [.v 11]<|.prim (.app 24) [.v 8,.v 12]<|.prim (.bin .add) [.v 7,.c (.int .i64 1)]<|.jmp 0 true [.v 14,.v 13]) (.jmp 1 false [.v 8]))) 1<|.jmp 0 false [.v 7]) 1<|.prim (.fld 2) [.v 0]<|.prim (.clone 40) [.v 7]<|.prim (.fld 3) [.v 0]<|.prim (.clone 4) [.v 9]<|.prim (.fld 5) [.v 0]<|.prim (.clone 8) [.v 11]<|.prim (.fld 0) [.v 0]<|.prim (.fld 1) [.v 0]<|.prim (.fld 2) [.v 0]<|.prim (.fld 3) [.v 0]<|.prim (.fld 4) [.v 0]<|.prim (.fld 5) [.v 0]<|.prim (.fld 6) [.v 0]<|.prim .len [.v 17]<|.sub0 [.sl zas] (.loop [.int .i64,.sl zas] [.c (.int .i64 0),.c .nil] (.prim (.bin .lss) [.v 21,.v 20]<|.ite (.v 23) (.prim .get [.v 17,.v 21]<|.prim (.fld 0) [.v 24]<|.prim (.fld 1) [.v 24]<|.prim (.clone 1) [.v 26]<|.mkS zbm [.v 25,.v 27]<|.mkL zas [.v 28]<|.prim (.app 32) [.v 22,.v 29]<|.prim (.bin .add) [.v 21,.c (.int .i64 1)]<|.jmp 0 true [.v 31,.v 30]) (.jmp 1 false [.v 22]))) 1<|.prim (.fld 0) [.v 19]<|.sub0 [.sl (.sl (.int .u8))] (.prim .len [.v 22]<|.sub0 [.sl (.sl (.int .u8))] (.loop [.int .i64,.sl (.sl (.int .u8))] [.c (.int .i64 0),.c .nil] (.prim (.bin .lss) [.v 24,.v 23]<|.ite (.v 26) (.prim .get [.v 22,.v 24]<|.prim (.clone 1) [.v 27]<|.mkL (.sl (.int .u8)) [.v 28]<|.prim (.app 24) [.v 25,.v 29]<|.prim (.bin .add) [.v 24,.c (.int .i64 1)]<|.jmp 0 true [.v 31,.v 30]) (.jmp 1 false [.v 25]))) 1<|.jmp 0 false [.v 24]) 1<|.jmp 0 false [.v 4,.v 6,.v 8,.v 10,.v 21,.v 12,.v 23]) 7<|.call 39 zaQ [.v 0,.v 1,.v 2] 1<|.prim (.un .not) [.v 10]<|.ite (.v 11) (.mkS zb7 [.v 9]<|.mkS za8 [.v 3,.v 4,.v 5,.v 6,.v 7,.v 8,.v 12]<|.jmp 0 false [.v 13,.c (.int .i64 1)]) (.sub0 [.bool] (.prim (.fld 2) [.v 0]<|.prim .get [.v 12,.v 1]<|.prim (.fld 0) [.v 13]<|.prim (.bin .gtr) [.v 14,.c (.int .i64 0)]<|.ite (.v 15) (.jmp 0 false [.c (.bool true)]) (.prim (.fld 0) [.v 0]<|.prim .get [.v 16,.v 1]<|.prim .get [.v 17,.v 2]<|.prim (.bin .eql) [.v 18,.c (.int .i64 0)]<|.jmp 0 false [.v 19])) 1<|.ite (.v 12) (.mkS zb7 [.v 9]<|.mkS za8 [.v 3,.v 4,.v 5,.v 6,.v 7,.v 8,.v 13]<|.jmp 0 false [.v 14,.c (.int .i64 8)]) (.prim (.fld 0) [.v 0]<|.prim .get [.v 13,.v 1]<|.prim .get [.v 14,.v 2]<|.prim (.bin .eql) [.v 15,.c (.int .i64 1)]<|.ite (.v 16) (.prim .idx [.v 3,.v 1]<|.prim .idx [.v 3,.v 17]<|.prim .get [.v 3,.v 18]<|.prim .idx [.v 19,.v 2]<|.prim .get [.v 3,.v 18]<|.prim .set [.v 21,.v 20,.c (.int .i64 0)]<|.prim .set [.v 3,.v 18,.v 22]<|.mkS zb7 [.v 9]<|.mkS za8 [.v 23,.v 4,.v 5,.v 6,.v 7,.v 8,.v 24]<|.jmp 0 false [.v 25,.c (.int .i64 0)]) (.prim (.fld 6) [.v 0]<|.call 28 zby [.v 17] 1<|.prim (.bin .eql) [.v 18,.c (.int .i64 0)]<|.ite (.v 19) (.mkS zb7 [.v 9]<|.mkS za8 [.v 3,.v 4,.v 5,.v 6,.v 7,.v 8,.v 20]<|.jmp 0 false [.v 21,.c (.int .i64 6)]) (.prim (.bin .add) [.v 2,.c (.int .i64 1)]<|.mkS zpG [.v 20,.c (.bool false),.c (.bool true),.c (.bool false),.c (.bool false),.c (.bool false),.c (.int .i64 0),.c (.int .i64 0),.c (.int .u32 0)]<|.prim .idx [.v 5,.v 1]<|.prim .set [.v 5,.v 22,.v 21]<|.sub0 [zaI] (.prim .idx [.v 23,.v 1]<|.prim .get [.v 23,.v 24]<|.prim (.bin .add) [.v 1,.c (.int .i64 1)]<|.prim (.fld 0) [.v 25]<|.prim (.bin .sub) [.v 27,.c (.int .i64 1)]<|.prim (.bin .add) [.v 1,.c (.int .i64 1)]<|.mkS zcv [.c (.int .i64 1),.v 26,.c (.int .i64 0),.v 28,.v 29,.c (.int .i64 0),.c (.bool false),.c (.int .u32 0),.c (.int .u32 0)]<|.prim (.fld 2) [.v 25]<|.sub0 [tMsg] (.ite (.v 31) (.prim .idx [.v 4,.v 1]<|.prim .idx [.v 4,.v 32]<|.prim (.fld 3) [.v 30]<|.prim .get [.v 4,.v 33]<|.prim .idx [.v 35,.v 34]<|.prim .get [.v 4,.v 33]<|.prim .get [.v 37,.v 36]<|.prim (.setf 0) [.v 30,.c (.int .i64 8)]<|.prim (.setf 4) [.v 39,.c (.int .i64 0)]<|.prim (.setf 8) [.v 40,.v 38]<|.jmp 0 false [.v 41]) (.prim (.fld 1) [.v 25]<|.subp [tMsg] (.ite (.v 32) (.prim (.setf 0) [.v 30,.c (.int .i64 2)]<|.jmp 0 false [.v 33]) (.jmp 0 false [.v 30])) 1<|.jmp 0 false [.v 33])) 1<|.sub0 [zaI] (.mkS zb7 [.v 9]<|.call 96 zae [.v 33,.v 32] 2<|.jmp 0 false [.v 34]) 1<|.jmp 0 false [.v 33]) 1<|.mkS za8 [.v 3,.v 4,.v 23,.v 6,.v 7,.v 8,.v 24]<|.jmp 0 false [.v 25,.c (.int .i64 0)]))))
theorem zj4:zad cx 12 12=some zgm.erase:=by kernel_rfl
theorem zqj:FnOk cx 12 noC 12 zf2:=zaB (t:=zgm) zj4 (fun _=>rfl) (zaw [(39,zaQ),(28,zby),(96,zae)] (by kernel_rfl) (.cons zcJ (.cons zgl (.cons zaO .nil)))) (fun x=>by kernel_rfl)
def zjK (p0:Proto) (p1:Int) (p2:Int):Option (Proto×Int) :=
 (zdZ p0 p1 p2).bind fun v3=>if !v3 then
 some ((p0,(1:Int)))
 else
 ((getO (Proto.Wait p0) p1).bind fun v6=>if !decide ((Wait.Line v6)=(0:Int)) then
 some (true)
 else
 (getO (Proto.State p0) p1).bind fun v10=>(getO v10 p2).bind fun v11=>some ((decide (v11=(0:Int)))):Option Bool).bind fun v5=>if v5 then
 some ((p0,(8:Int)))
 else
 (getO (Proto.State p0) p1).bind fun v7=>(getO v7 p2).bind fun v8=>if decide (v8=(1:Int)) then
 (zbV p0 p1 p2 (0:Int)).bind fun v10=>some ((v10,(0:Int)))
 else
 if decide ((64:Int)≤(List.length (Pool.Frames (Proto.Pool p0)):Int)) then
 some ((p0,(6:Int)))
 else
 (zc7 p0 p1 (Wait.mk (w64 (p2 + (1:Int))) false true false false false (0:Int) (0:Int) (0:Int))).bind fun v16=>(zdi v16 p1).bind fun v17=>some ((v17,(0:Int)))
def zim:FnT:=⟨[zac,.int .i64,.int .i64],[zac,.int .i64],fun x=>zjK x.1 x.2.1 x.2.2⟩
def zio:TA :=
 .call 42 zbC [.v 0,.v 1,.v 2] 1<|.prim (.un .not) [.v 3]<|.ite (.v 4) (.jmp 0 false [.v 0,.c (.int .i64 1)]) (.sub0 [.bool] (.prim (.fld 2) [.v 0]<|.prim .get [.v 5,.v 1]<|.prim (.fld 0) [.v 6]<|.prim (.bin .neq) [.v 7,.c (.int .i64 0)]<|.ite (.v 8) (.jmp 0 false [.c (.bool true)]) (.prim (.fld 0) [.v 0]<|.prim .get [.v 9,.v 1]<|.prim .get [.v 10,.v 2]<|.prim (.bin .eql) [.v 11,.c (.int .i64 0)]<|.jmp 0 false [.v 12])) 1<|.ite (.v 5) (.jmp 0 false [.v 0,.c (.int .i64 8)]) (.prim (.fld 0) [.v 0]<|.prim .get [.v 6,.v 1]<|.prim .get [.v 7,.v 2]<|.prim (.bin .eql) [.v 8,.c (.int .i64 1)]<|.ite (.v 9) (.call 45 zaM [.v 0,.v 1,.v 2,.c (.int .i64 0)] 1<|.jmp 0 false [.v 10,.c (.int .i64 0)]) (.prim (.fld 6) [.v 0]<|.prim (.fld 0) [.v 10]<|.prim .len [.v 11]<|.prim (.bin .geq) [.v 12,.c (.int .i64 64)]<|.ite (.v 13) (.jmp 0 false [.v 0,.c (.int .i64 6)]) (.prim (.bin .add) [.v 2,.c (.int .i64 1)]<|.mkS zpG [.v 14,.c (.bool false),.c (.bool true),.c (.bool false),.c (.bool false),.c (.bool false),.c (.int .i64 0),.c (.int .i64 0),.c (.int .u32 0)]<|.call 44 zaS [.v 0,.v 1,.v 15] 1<|.call 43 zcl [.v 16,.v 1] 1<|.jmp 0 false [.v 17,.c (.int .i64 0)]))))
theorem znw:zad cx 12 13=some zio.erase:=by kernel_rfl
theorem ztO:FnOk cx 12 noC 13 zim:=zaB (t:=zio) znw (fun _=>rfl) (zaw [(42,zbC),(45,zaM),(44,zaS),(43,zcl)] (by kernel_rfl) (.cons zgp (.cons zcz (.cons zcQ (.cons zjf .nil))))) (fun x=>by kernel_rfl)
def zfH (p0:Proto) (p1:Msg):Option Proto :=
 (getO (Proto.Busy p0) (Msg.Line p1)).bind fun v4=>let v5:Bool:=decide (v4=(0:Int))
 let v7:Bool:=decide ((Msg.Kind p1)=(1:Int))
 if bif v7 then v7 else decide ((Msg.Kind p1)=(2:Int)) then
 if !decide ((Msg.For p1)=(Msg.From p1)) then
 some (p0)
 else
 if v5 then
 (zf1 p0 p1).bind fun v12=>some (v12)
 else
 (zaT p0 (Msg.mk (10:Int) (0:Int) (Msg.From p1) (Msg.Line p1) (0:Int) (0:Int) false (0:Int) (0:Int))).bind fun v15=>some (v15)
 else
 if decide ((Msg.Kind p1)=(8:Int)) then
 if !v5 then
 (zaT p0 (Msg.mk (10:Int) (0:Int) (Msg.From p1) (Msg.Line p1) (0:Int) (0:Int) false (0:Int) (0:Int))).bind fun v14=>some (v14)
 else
 (getO (Proto.Dir p0) (Msg.Line p1)).bind fun v13=>(zmz v13 (w64 ((Msg.From p1) - (1:Int)))).bind fun v16=>(if decide (v16.2=(0:Int)) then
 (znQ p0 (Msg.Line p1) v16.1).bind fun v20=>(zmo v20 (Msg.Line p1) (Msg.Val p1)).bind fun v23=>some (v23)
 else
 some (p0):Option Proto).bind fun v19=>(zaT v19 (Msg.mk (9:Int) (0:Int) (Msg.From p1) (Msg.Line p1) (0:Int) (0:Int) false (0:Int) (0:Int))).bind fun v23=>some (v23)
 else
 zaG (if decide ((Msg.Kind p1)=(11:Int)) then
 (getO (Proto.Busy p0) (Msg.Line p1)).bind fun v13=>if decide (v13=(Msg.From p1)) then
 (zkf p0 (Msg.Line p1) (0:Int)).bind fun v17=>some (Sum.inr (v17))
 else
 some (Sum.inl ())
 else
 some (Sum.inl ()):Option (Unit⊕Proto)) fun v11=>some (p0)
def zhu:FnT:=⟨[zac,tMsg],[zac],fun x=>zfH x.1 x.2⟩
def zhE:TA :=
 .prim (.fld 5) [.v 0]<|.prim (.fld 3) [.v 1]<|.prim .get [.v 2,.v 3]<|.prim (.bin .eql) [.v 4,.c (.int .i64 0)]<|.prim (.fld 0) [.v 1]<|.prim (.bin .eql) [.v 6,.c (.int .i64 1)]<|.subp [.bool] (.ite (.v 7) (.jmp 0 false [.v 7]) (.prim (.bin .eql) [.v 6,.c (.int .i64 2)]<|.jmp 0 false [.v 8])) 1<|.ite (.v 8) (.prim (.fld 4) [.v 1]<|.prim (.fld 1) [.v 1]<|.prim (.bin .neq) [.v 9,.v 10]<|.ite (.v 11) (.jmp 0 false [.v 0]) (.ite (.v 5) (.call 75 zgb [.v 0,.v 1] 1<|.jmp 0 false [.v 12]) (.prim (.fld 1) [.v 1]<|.prim (.fld 3) [.v 1]<|.mkS zcv [.c (.int .i64 10),.c (.int .i64 0),.v 12,.v 13,.c (.int .i64 0),.c (.int .i64 0),.c (.bool false),.c (.int .u32 0),.c (.int .u32 0)]<|.call 76 zal [.v 0,.v 14] 1<|.jmp 0 false [.v 15]))) (.prim (.bin .eql) [.v 6,.c (.int .i64 8)]<|.ite (.v 9) (.prim (.un .not) [.v 5]<|.ite (.v 10) (.prim (.fld 1) [.v 1]<|.prim (.fld 3) [.v 1]<|.mkS zcv [.c (.int .i64 10),.c (.int .i64 0),.v 11,.v 12,.c (.int .i64 0),.c (.int .i64 0),.c (.bool false),.c (.int .u32 0),.c (.int .u32 0)]<|.call 76 zal [.v 0,.v 13] 1<|.jmp 0 false [.v 14]) (.prim (.fld 4) [.v 0]<|.prim (.fld 3) [.v 1]<|.prim .get [.v 11,.v 12]<|.prim (.fld 1) [.v 1]<|.prim (.bin .sub) [.v 14,.c (.int .i64 1)]<|.call 77 zk2 [.v 13,.v 15] 2<|.prim (.bin .eql) [.v 17,.c (.int .i64 0)]<|.sub0 [zac] (.ite (.v 18) (.prim (.fld 3) [.v 1]<|.call 79 zg3 [.v 0,.v 19,.v 16] 1<|.prim (.fld 3) [.v 1]<|.prim (.fld 8) [.v 1]<|.call 78 zlx [.v 20,.v 21,.v 22] 1<|.jmp 0 false [.v 23]) (.jmp 0 false [.v 0])) 1<|.prim (.fld 1) [.v 1]<|.prim (.fld 3) [.v 1]<|.mkS zcv [.c (.int .i64 9),.c (.int .i64 0),.v 20,.v 21,.c (.int .i64 0),.c (.int .i64 0),.c (.bool false),.c (.int .u32 0),.c (.int .u32 0)]<|.call 76 zal [.v 19,.v 22] 1<|.jmp 0 false [.v 23])) (.prim (.bin .eql) [.v 6,.c (.int .i64 11)]<|.sub1 [] (.ite (.v 10) (.prim (.fld 5) [.v 0]<|.prim (.fld 3) [.v 1]<|.prim .get [.v 11,.v 12]<|.prim (.fld 1) [.v 1]<|.prim (.bin .eql) [.v 13,.v 14]<|.ite (.v 15) (.prim (.fld 3) [.v 1]<|.call 80 zfg [.v 0,.v 16,.c (.int .i64 0)] 1<|.jmp 1 false [.v 17]) (.jmp 0 false [])) (.jmp 0 false [])) 0<|.jmp 0 false [.v 0]))
theorem zlS:zad cx 12 33=some zhE.erase:=by kernel_rfl
theorem zrE:FnOk cx 12 noC 33 zhu:=zaB (t:=zhE) zlS (fun _=>rfl) (zaw [(75,zgb),(76,zal),(76,zal),(77,zk2),(79,zg3),(78,zlx),(76,zal),(80,zfg)] (by kernel_rfl) (.cons zqU (.cons za2 (.cons za2 (.cons zvS (.cons zrl (.cons zvK (.cons za2 (.cons zpP .nil))))))))) (fun x=>by kernel_rfl)
end Go.Proofs.YtdfohlonacbelaaGreat
