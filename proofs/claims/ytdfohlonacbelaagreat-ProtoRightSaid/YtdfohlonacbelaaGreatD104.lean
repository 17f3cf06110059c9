/- More functions of this cut as functions of plain typed data. Printed by a program of this claim's prover; each is checked here to be what the executor makes of the code. -/
import Derived.Test.YtdfohlonacbelaaGreatD10w
set_option linter.unusedVariables false
set_option maxRecDepth 100000
noncomputable section
namespace Go.Proofs.YtdfohlonacbelaaGreat
open Go.SX
def zfm (p0:Proto) (p1:Int) (p2:Msg):Option Proto :=
 (getO (Proto.Wait p0) p1).bind fun v4=>(getO (Proto.State p0) p1).bind fun v6=>(getO v6 (Msg.Line p2)).bind fun v8=>let v12:Bool:=decide ((Wait.Line v4)=(w64 ((Msg.Line p2) + (1:Int))))
 zaG (if decide ((Msg.Kind p2)=(3:Int)) then
 if v12&&((!(Wait.Back v4))&&(!(Wait.Came v4))) then
 (zc7 p0 p1 (Wait.mk (Wait.Line v4) (Wait.Write v4) false true (Msg.Own p2) (decide ((Msg.Num p2)=(1:Int))) (Msg.Acks p2) (Wait.Got v4) (Msg.Val p2))).bind fun v25=>(zeF v25 p1).bind fun v26=>some (Sum.inr (v26))
 else
 some (Sum.inl ())
 else
 zaG (if decide ((Msg.Kind p2)=(5:Int)) then
 if v12&&((Wait.Write v4)&&(decide ((Wait.Got v4)<(255:Int)))) then
 (zc7 p0 p1 (Wait.setGot v4 (w64 ((Wait.Got v4) + (1:Int))))).bind fun v20=>(zeF v20 p1).bind fun v21=>some (Sum.inr (Sum.inr (v21)))
 else
 some (Sum.inl ())
 else
 if decide ((Msg.Kind p2)=(4:Int)) then
 (if decide (v8=(1:Int)) then
 (zbV p0 p1 (Msg.Line p2) (0:Int)).bind fun v19=>some (v19)
 else
 some (p0):Option Proto).bind fun v18=>(zaT v18 (Msg.mk (5:Int) (w64 (p1 + (1:Int))) (Msg.For p2) (Msg.Line p2) (0:Int) (0:Int) false (0:Int) (0:Int))).bind fun v23=>some (Sum.inr (Sum.inr (v23)))
 else
 zaG (if decide ((Msg.Kind p2)=(6:Int)) then
 if decide ((1:Int)<v8) then
 (getO (Proto.Val p0) p1).bind fun v24=>(getO v24 (Msg.Line p2)).bind fun v26=>(zaT p0 (Msg.mk (3:Int) (w64 (p1 + (1:Int))) (Msg.For p2) (Msg.Line p2) (0:Int) (Msg.Acks p2) false (0:Int) v26)).bind fun v28=>(zbV v28 p1 (Msg.Line p2) (4:Int)).bind fun v30=>some (Sum.inr (Sum.inr (Sum.inr (v30))))
 else
 some (Sum.inl ())
 else
 zaG (if decide ((Msg.Kind p2)=(7:Int)) then
 if decide ((1:Int)<v8) then
 (getO (Proto.Val p0) p1).bind fun v25=>(getO v25 (Msg.Line p2)).bind fun v27=>(zaT p0 (Msg.mk (3:Int) (w64 (p1 + (1:Int))) (Msg.For p2) (Msg.Line p2) (0:Int) (Msg.Acks p2) true (0:Int) v27)).bind fun v29=>(zbV v29 p1 (Msg.Line p2) (0:Int)).bind fun v31=>some (Sum.inr (Sum.inr (Sum.inr (Sum.inr (v31)))))
 else
 some (Sum.inl ())
 else
 zaG (if decide ((Msg.Kind p2)=(10:Int)) then
 if v12&&((!(Wait.Came v4))&&((Wait.Back v4)&&(decide (v8<(2:Int))))) then
 (zc7 p0 p1 (Wait.mk (0:Int) false false false false false (0:Int) (0:Int) (0:Int))).bind fun v21=>some (Sum.inr (Sum.inr (Sum.inr (Sum.inr (Sum.inr (v21))))))
 else
 if v12&&(!(Wait.Came v4)) then
 (zdi p0 p1).bind fun v22=>some (Sum.inr (Sum.inr (Sum.inr (Sum.inr (Sum.inr (v22))))))
 else
 some (Sum.inl ())
 else
 zaG (if decide ((Msg.Kind p2)=(9:Int)) then
 if v12&&(Wait.Back v4) then
 (zbV p0 p1 (Msg.Line p2) (0:Int)).bind fun v23=>(zc7 v23 p1 (Wait.mk (0:Int) false false false false false (0:Int) (0:Int) (0:Int))).bind fun v24=>some (Sum.inr (Sum.inr (Sum.inr (Sum.inr (Sum.inr (Sum.inr (v24)))))))
 else
 some (Sum.inl ())
 else
 some (Sum.inl ()):Option (Unit⊕Unit⊕Unit⊕Unit⊕Unit⊕Unit⊕Proto)) fun v21=>some (Sum.inl ()):Option (Unit⊕Unit⊕Unit⊕Unit⊕Unit⊕Proto)) fun v20=>some (Sum.inl ()):Option (Unit⊕Unit⊕Unit⊕Unit⊕Proto)) fun v19=>some (Sum.inl ()):Option (Unit⊕Unit⊕Unit⊕Proto)) fun v18=>some (Sum.inl ()):Option (Unit⊕Unit⊕Proto)) fun v16=>some (Sum.inl ()):Option (Unit⊕Proto)) fun v15=>some (p0)
def zhh:FnT:=⟨[zac,.int .i64,tMsg],[zac],fun x=>zfm x.1 x.2.1 x.2.2⟩
def zmb:TA :=
 .prim (.fld 2) [.v 0]<|.prim .get [.v 3,.v 1]<|.prim (.fld 0) [.v 0]<|.prim .get [.v 5,.v 1]<|.prim (.fld 3) [.v 2]<|.prim .get [.v 6,.v 7]<|.prim (.fld 0) [.v 4]<|.prim (.fld 3) [.v 2]<|.prim (.bin .add) [.v 10,.c (.int .i64 1)]<|.prim (.bin .eql) [.v 9,.v 11]<|.prim (.fld 0) [.v 2]<|.prim (.bin .eql) [.v 13,.c (.int .i64 3)]<|.sub1 [] (.ite (.v 14) (.subp [.bool] (.ite (.v 12) (.prim (.fld 2) [.v 4]<|.prim (.un .not) [.v 15]<|.ite (.v 16) (.prim (.fld 3) [.v 4]<|.prim (.un .not) [.v 17]<|.jmp 0 false [.v 18]) (.jmp 0 false [.c (.bool false)])) (.jmp 0 false [.c (.bool false)])) 1<|.ite (.v 15) (.prim (.fld 0) [.v 4]<|.prim (.fld 1) [.v 4]<|.prim (.fld 6) [.v 2]<|.prim (.fld 7) [.v 2]<|.prim (.bin .eql) [.v 19,.c (.int .u32 1)]<|.prim (.fld 5) [.v 2]<|.prim (.fld 7) [.v 4]<|.prim (.fld 8) [.v 2]<|.mkS zpG [.v 16,.v 17,.c (.bool false),.c (.bool true),.v 18,.v 20,.v 21,.v 22,.v 23]<|.call 44 zaS [.v 0,.v 1,.v 24] 1<|.call 81 zfl [.v 25,.v 1] 1<|.jmp 1 false [.v 26]) (.jmp 0 false [])) (.prim (.bin .eql) [.v 13,.c (.int .i64 5)]<|.sub1 [] (.ite (.v 15) (.subp [.bool] (.ite (.v 12) (.prim (.fld 1) [.v 4]<|.ite (.v 16) (.prim (.fld 7) [.v 4]<|.prim (.bin .lss) [.v 17,.c (.int .i64 255)]<|.jmp 0 false [.v 18]) (.jmp 0 false [.c (.bool false)])) (.jmp 0 false [.c (.bool false)])) 1<|.ite (.v 16) (.prim (.fld 7) [.v 4]<|.prim (.bin .add) [.v 17,.c (.int .i64 1)]<|.prim (.setf 7) [.v 4,.v 18]<|.call 44 zaS [.v 0,.v 1,.v 19] 1<|.call 81 zfl [.v 20,.v 1] 1<|.jmp 2 false [.v 21]) (.jmp 0 false [])) (.prim (.bin .eql) [.v 13,.c (.int .i64 4)]<|.ite (.v 16) (.prim (.bin .eql) [.v 8,.c (.int .i64 1)]<|.sub0 [zac] (.ite (.v 17) (.prim (.fld 3) [.v 2]<|.call 45 zaM [.v 0,.v 1,.v 18,.c (.int .i64 0)] 1<|.jmp 0 false [.v 19]) (.jmp 0 false [.v 0])) 1<|.prim (.bin .add) [.v 1,.c (.int .i64 1)]<|.prim (.fld 4) [.v 2]<|.prim (.fld 3) [.v 2]<|.mkS zcv [.c (.int .i64 5),.v 19,.v 20,.v 21,.c (.int .i64 0),.c (.int .i64 0),.c (.bool false),.c (.int .u32 0),.c (.int .u32 0)]<|.call 76 zal [.v 18,.v 22] 1<|.jmp 2 false [.v 23]) (.prim (.bin .eql) [.v 13,.c (.int .i64 6)]<|.sub1 [] (.ite (.v 17) (.prim (.bin .gtr) [.v 8,.c (.int .i64 1)]<|.ite (.v 18) (.prim (.bin .add) [.v 1,.c (.int .i64 1)]<|.prim (.fld 4) [.v 2]<|.prim (.fld 3) [.v 2]<|.prim (.fld 5) [.v 2]<|.prim (.fld 1) [.v 0]<|.prim .get [.v 23,.v 1]<|.prim (.fld 3) [.v 2]<|.prim .get [.v 24,.v 25]<|.mkS zcv [.c (.int .i64 3),.v 19,.v 20,.v 21,.c (.int .i64 0),.v 22,.c (.bool false),.c (.int .u32 0),.v 26]<|.call 76 zal [.v 0,.v 27] 1<|.prim (.fld 3) [.v 2]<|.call 45 zaM [.v 28,.v 1,.v 29,.c (.int .i64 4)] 1<|.jmp 3 false [.v 30]) (.jmp 0 false [])) (.prim (.bin .eql) [.v 13,.c (.int .i64 7)]<|.sub1 [] (.ite (.v 18) (.prim (.bin .gtr) [.v 8,.c (.int .i64 1)]<|.ite (.v 19) (.prim (.bin .add) [.v 1,.c (.int .i64 1)]<|.prim (.fld 4) [.v 2]<|.prim (.fld 3) [.v 2]<|.prim (.fld 5) [.v 2]<|.prim (.fld 1) [.v 0]<|.prim .get [.v 24,.v 1]<|.prim (.fld 3) [.v 2]<|.prim .get [.v 25,.v 26]<|.mkS zcv [.c (.int .i64 3),.v 20,.v 21,.v 22,.c (.int .i64 0),.v 23,.c (.bool true),.c (.int .u32 0),.v 27]<|.call 76 zal [.v 0,.v 28] 1<|.prim (.fld 3) [.v 2]<|.call 45 zaM [.v 29,.v 1,.v 30,.c (.int .i64 0)] 1<|.jmp 4 false [.v 31]) (.jmp 0 false [])) (.prim (.bin .eql) [.v 13,.c (.int .i64 10)]<|.sub1 [] (.ite (.v 19) (.subp [.bool] (.ite (.v 12) (.prim (.fld 3) [.v 4]<|.prim (.un .not) [.v 20]<|.ite (.v 21) (.prim (.fld 2) [.v 4]<|.ite (.v 22) (.prim (.bin .lss) [.v 8,.c (.int .i64 2)]<|.jmp 0 false [.v 23]) (.jmp 0 false [.c (.bool false)])) (.jmp 0 false [.c (.bool false)])) (.jmp 0 false [.c (.bool false)])) 1<|.ite (.v 20) (.call 44 zaS [.v 0,.v 1,.c (.agg [(.int .i64 0),(.bool false),(.bool false),(.bool false),(.bool false),(.bool false),(.int .i64 0),(.int .i64 0),(.int .u32 0)])] 1<|.jmp 5 false [.v 21]) (.subp [.bool] (.ite (.v 12) (.prim (.fld 3) [.v 4]<|.prim (.un .not) [.v 21]<|.jmp 0 false [.v 22]) (.jmp 0 false [.c (.bool false)])) 1<|.ite (.v 21) (.call 43 zcl [.v 0,.v 1] 1<|.jmp 5 false [.v 22]) (.jmp 0 false []))) (.prim (.bin .eql) [.v 13,.c (.int .i64 9)]<|.sub1 [] (.ite (.v 20) (.subp [.bool] (.ite (.v 12) (.prim (.fld 2) [.v 4]<|.jmp 0 false [.v 21]) (.jmp 0 false [.c (.bool false)])) 1<|.ite (.v 21) (.prim (.fld 3) [.v 2]<|.call 45 zaM [.v 0,.v 1,.v 22,.c (.int .i64 0)] 1<|.call 44 zaS [.v 23,.v 1,.c (.agg [(.int .i64 0),(.bool false),(.bool false),(.bool false),(.bool false),(.bool false),(.int .i64 0),(.int .i64 0),(.int .u32 0)])] 1<|.jmp 6 false [.v 24]) (.jmp 0 false [])) (.jmp 0 false [])) 0<|.jmp 0 false [])) 0<|.jmp 0 false [])) 0<|.jmp 0 false [])) 0<|.jmp 0 false []))) 0<|.jmp 0 false [])) 0<|.jmp 0 false [.v 0]
theorem zsz:zad cx 12 34=some zmb.erase:=by kernel_rfl
theorem zrD:FnOk cx 12 noC 34 zhh:=zaB (t:=zmb) zsz (fun _=>rfl) (zaw [(44,zaS),(81,zfl),(44,zaS),(81,zfl),(45,zaM),(76,zal),(76,zal),(45,zaM),(76,zal),(45,zaM),(44,zaS),(43,zcl),(45,zaM),(44,zaS)] (by kernel_rfl) (.cons zcQ (.cons zpc (.cons zcQ (.cons zpc (.cons zcz (.cons za2 (.cons za2 (.cons zcz (.cons za2 (.cons zcz (.cons zcQ (.cons zjf (.cons zcz (.cons zcQ .nil))))))))))))))) (fun x=>by kernel_rfl)
def zcq (p0:Proto) (p1:Int):Option (Proto×Int) :=
 (zek p0).bind fun v2=>if !v2 then
 some ((p0,(1:Int)))
 else
 (zf4 (Proto.Pool p0) p1).bind fun v5=>if decide (v5.2.2=(7:Int)) then
 some ((p0,(7:Int)))
 else
 let v10:Int:=(List.length (Proto.Wait p0):Int)
 if decide ((64:Int)<(w64 ((w64 ((List.length (Pool.Frames v5.1):Int) + v10)) + (1:Int)))) then
 some ((p0,(6:Int)))
 else
 let v16:Proto:=Proto.setPool p0 v5.1
 if !decide (v5.2.2=(0:Int)) then
 some ((v16,v5.2.2))
 else
 if (decide ((List.length (Proto.Home v16):Int)≤(Msg.Line v5.2.1)))||((decide (v10<(Msg.From v5.2.1)))||((decide (v10<(Msg.To v5.2.1)))||((decide (v10<(Msg.For v5.2.1)))||((decide ((Msg.To v5.2.1)=(0:Int)))&&(decide ((Msg.From v5.2.1)=(0:Int))))))) then
 some ((v16,(0:Int)))
 else
 if decide ((Msg.To v5.2.1)=(0:Int)) then
 (zfH v16 v5.2.1).bind fun v21=>some ((v21,(0:Int)))
 else
 (zfm v16 (w64 ((Msg.To v5.2.1) - (1:Int))) v5.2.1).bind fun v23=>some ((v23,(0:Int)))
def zgh:FnT:=⟨[zac,.int .i64],[zac,.int .i64],fun x=>zcq x.1 x.2⟩
def zj0:TA :=
 .call 20 zcx [.v 0] 1<|.prim (.un .not) [.v 2]<|.ite (.v 3) (.jmp 0 false [.v 0,.c (.int .i64 1)]) (.prim (.fld 6) [.v 0]<|.call 32 zk8 [.v 4,.v 1] 3<|.prim (.bin .eql) [.v 7,.c (.int .i64 7)]<|.ite (.v 8) (.jmp 0 false [.v 0,.c (.int .i64 7)]) (.prim (.fld 2) [.v 0]<|.prim .len [.v 9]<|.prim (.fld 0) [.v 5]<|.prim .len [.v 11]<|.prim (.bin .add) [.v 12,.v 10]<|.prim (.bin .add) [.v 13,.c (.int .i64 1)]<|.prim (.bin .gtr) [.v 14,.c (.int .i64 64)]<|.ite (.v 15) (.jmp 0 false [.v 0,.c (.int .i64 6)]) (.prim (.setf 6) [.v 0,.v 5]<|.prim (.bin .neq) [.v 7,.c (.int .i64 0)]<|.ite (.v 17) (.jmp 0 false [.v 16,.v 7]) (.subp [.bool] (.prim (.fld 3) [.v 6]<|.prim (.fld 3) [.v 16]<|.prim .len [.v 19]<|.prim (.bin .geq) [.v 18,.v 20]<|.ite (.v 21) (.jmp 0 false [.c (.bool true)]) (.prim (.fld 1) [.v 6]<|.prim (.bin .gtr) [.v 22,.v 10]<|.ite (.v 23) (.jmp 0 false [.c (.bool true)]) (.prim (.fld 2) [.v 6]<|.prim (.bin .gtr) [.v 24,.v 10]<|.ite (.v 25) (.jmp 0 false [.c (.bool true)]) (.prim (.fld 4) [.v 6]<|.prim (.bin .gtr) [.v 26,.v 10]<|.ite (.v 27) (.jmp 0 false [.c (.bool true)]) (.prim (.fld 2) [.v 6]<|.prim (.bin .eql) [.v 28,.c (.int .i64 0)]<|.ite (.v 29) (.prim (.fld 1) [.v 6]<|.prim (.bin .eql) [.v 30,.c (.int .i64 0)]<|.jmp 0 false [.v 31]) (.jmp 0 false [.c (.bool false)])))))) 1<|.ite (.v 18) (.jmp 0 false [.v 16,.c (.int .i64 0)]) (.prim (.fld 2) [.v 6]<|.prim (.bin .eql) [.v 19,.c (.int .i64 0)]<|.ite (.v 20) (.call 33 zhu [.v 16,.v 6] 1<|.jmp 0 false [.v 21,.c (.int .i64 0)]) (.prim (.fld 2) [.v 6]<|.prim (.bin .sub) [.v 21,.c (.int .i64 1)]<|.call 34 zhh [.v 16,.v 22,.v 6] 1<|.jmp 0 false [.v 23,.c (.int .i64 0)]))))))
theorem zqe:zad cx 12 8=some zj0.erase:=by kernel_rfl
theorem zqK:FnOk cx 12 noC 8 zgh:=zaB (t:=zj0) zqe (fun _=>rfl) (zaw [(20,zcx),(32,zk8),(33,zhu),(34,zhh)] (by kernel_rfl) (.cons ziJ (.cons zv4 (.cons zrE (.cons zrD .nil))))) (fun x=>by kernel_rfl)
def ze0 (p0:Proto) (p1:Int) (p2:Int) (p3:Bool) (p4:Int) (p5:Int):Option Bool :=
 if !zmR then
 some (false)
 else
 (zka p0).bind fun v8=>if !v8 then
 some (true)
 else
 (zcO p0 p5).bind fun v10=>(zcq p0 p5).bind fun v12=>((zfY v10.1 v12.1).bind fun v14=>if !v14 then
 some (true)
 else
 some ((!decide (v10.2=v12.2))):Option Bool).bind fun v14=>if v14 then
 some (false)
 else
 (zhH p0 p1 p2 p3).bind fun v15=>(zmr p0 p1 p2 p3).bind fun v17=>((zfY v15.1 v17.1).bind fun v19=>if !v19 then
 some (true)
 else
 some ((!decide (v15.2=v17.2))):Option Bool).bind fun v19=>if v19 then
 some (false)
 else
 (zga p0 p1 p2).bind fun v20=>(zjK p0 p1 p2).bind fun v22=>((zfY v20.1 v22.1).bind fun v24=>if !v24 then
 some (true)
 else
 some ((!decide (v20.2=v22.2))):Option Bool).bind fun v24=>if v24 then
 some (false)
 else
 (zjV p0 p1 p2 p4).bind fun v25=>(zqN p0 p1 p2 p4).bind fun v27=>(zfy p0 p1 p2).bind fun v29=>(zdy p0 p1 p2 false).bind fun v31=>(if v31 then
 if !decide (v29.2=(0:Int)) then
 some (true)
 else
 (getO (Proto.Val p0) p1).bind fun v34=>(getO v34 p2).bind fun v35=>if !decide (v29.1=v35) then
 some (true)
 else
 if !v31 then
 if !decide (v29.1=(0:Int)) then
 some (true)
 else
 if !decide (v29.2=(1:Int)) then
 some ((!decide (v29.2=(8:Int))))
 else
 some (false)
 else
 some (false)
 else
 if !v31 then
 if !decide (v29.1=(0:Int)) then
 some (true)
 else
 if !decide (v29.2=(1:Int)) then
 some ((!decide (v29.2=(8:Int))))
 else
 some (false)
 else
 some (false):Option Bool).bind fun v32=>if v32 then
 some (false)
 else
 ((zfY v25.1 v27.1).bind fun v33=>if v33 then
 if decide (v25.2=v27.2) then
 (zjJ p0 p1 p2 p3).bind fun v35=>(zdy p0 p1 p2 p3).bind fun v36=>if decide (v35=v36) then
 (zcs p0).bind fun v38=>(zek p0).bind fun v39=>some ((decide (v38=v39)))
 else
 some (false)
 else
 some (false)
 else
 some (false):Option Bool).bind fun v33=>some (v33)
def zcj:FnT:=⟨[zac,.int .i64,.int .i64,.bool,.int .u32,.int .i64],[.bool],fun x=>ze0 x.1 x.2.1 x.2.2.1 x.2.2.2.1 x.2.2.2.2.1 x.2.2.2.2.2⟩
def zgF:TA :=
 .callp 5 ziX [] 1<|.prim (.un .not) [.v 6]<|.ite (.v 7) (.jmp 0 false [.c (.bool false)]) (.call 6 ziT [.v 0] 1<|.prim (.un .not) [.v 8]<|.ite (.v 9) (.jmp 0 false [.c (.bool true)]) (.call 7 zep [.v 0,.v 5] 2<|.call 8 zgh [.v 0,.v 5] 2<|.sub0 [.bool] (.call 9 zbX [.v 10,.v 12] 1<|.prim (.un .not) [.v 14]<|.ite (.v 15) (.jmp 0 false [.c (.bool true)]) (.prim (.bin .neq) [.v 11,.v 13]<|.jmp 0 false [.v 16])) 1<|.ite (.v 14) (.jmp 0 false [.c (.bool false)]) (.call 10 zhs [.v 0,.v 1,.v 2,.v 3] 2<|.call 11 zlF [.v 0,.v 1,.v 2,.v 3] 2<|.sub0 [.bool] (.call 9 zbX [.v 15,.v 17] 1<|.prim (.un .not) [.v 19]<|.ite (.v 20) (.jmp 0 false [.c (.bool true)]) (.prim (.bin .neq) [.v 16,.v 18]<|.jmp 0 false [.v 21])) 1<|.ite (.v 19) (.jmp 0 false [.c (.bool false)]) (.call 12 zf2 [.v 0,.v 1,.v 2] 2<|.call 13 zim [.v 0,.v 1,.v 2] 2<|.sub0 [.bool] (.call 9 zbX [.v 20,.v 22] 1<|.prim (.un .not) [.v 24]<|.ite (.v 25) (.jmp 0 false [.c (.bool true)]) (.prim (.bin .neq) [.v 21,.v 23]<|.jmp 0 false [.v 26])) 1<|.ite (.v 24) (.jmp 0 false [.c (.bool false)]) (.call 14 zi9 [.v 0,.v 1,.v 2,.v 4] 2<|.call 15 znv [.v 0,.v 1,.v 2,.v 4] 2<|.call 16 ziO [.v 0,.v 1,.v 2] 2<|.call 17 zcI [.v 0,.v 1,.v 2,.c (.bool false)] 1<|.sub0 [.bool] (.ite (.v 31) (.prim (.bin .neq) [.v 30,.c (.int .i64 0)]<|.ite (.v 32) (.jmp 0 false [.c (.bool true)]) (.prim (.fld 1) [.v 0]<|.prim .get [.v 33,.v 1]<|.prim .get [.v 34,.v 2]<|.prim (.bin .neq) [.v 29,.v 35]<|.ite (.v 36) (.jmp 0 false [.c (.bool true)]) (.prim (.un .not) [.v 31]<|.ite (.v 37) (.prim (.bin .neq) [.v 29,.c (.int .u32 0)]<|.ite (.v 38) (.jmp 0 false [.c (.bool true)]) (.prim (.bin .neq) [.v 30,.c (.int .i64 1)]<|.ite (.v 39) (.prim (.bin .neq) [.v 30,.c (.int .i64 8)]<|.jmp 0 false [.v 40]) (.jmp 0 false [.c (.bool false)]))) (.jmp 0 false [.c (.bool false)])))) (.prim (.un .not) [.v 31]<|.ite (.v 32) (.prim (.bin .neq) [.v 29,.c (.int .u32 0)]<|.ite (.v 33) (.jmp 0 false [.c (.bool true)]) (.prim (.bin .neq) [.v 30,.c (.int .i64 1)]<|.ite (.v 34) (.prim (.bin .neq) [.v 30,.c (.int .i64 8)]<|.jmp 0 false [.v 35]) (.jmp 0 false [.c (.bool false)]))) (.jmp 0 false [.c (.bool false)]))) 1<|.ite (.v 32) (.jmp 0 false [.c (.bool false)]) (.sub0 [.bool] (.call 9 zbX [.v 25,.v 27] 1<|.ite (.v 33) (.prim (.bin .eql) [.v 26,.v 28]<|.ite (.v 34) (.call 18 ziC [.v 0,.v 1,.v 2,.v 3] 1<|.call 17 zcI [.v 0,.v 1,.v 2,.v 3] 1<|.prim (.bin .eql) [.v 35,.v 36]<|.ite (.v 37) (.call 19 zbw [.v 0] 1<|.call 20 zcx [.v 0] 1<|.prim (.bin .eql) [.v 38,.v 39]<|.jmp 0 false [.v 40]) (.jmp 0 false [.c (.bool false)])) (.jmp 0 false [.c (.bool false)])) (.jmp 0 false [.c (.bool false)])) 1<|.jmp 0 false [.v 33]))))))
theorem zme:zad cx 12 3=some zgF.erase:=by kernel_rfl
theorem zmc:FnOk cx 12 noC 3 zcj:=zaB (t:=zgF) zme (fun _=>rfl) (zaw [(5,ziX.fn),(6,ziT),(7,zep),(8,zgh),(9,zbX),(10,zhs),(11,zlF),(9,zbX),(12,zf2),(13,zim),(9,zbX),(14,zi9),(15,znv),(16,ziO),(17,zcI),(9,zbX),(18,ziC),(17,zcI),(19,zbw),(20,zcx)] (by kernel_rfl) (.cons ztF (.cons zt6 (.cons znF (.cons zqK (.cons zh2 (.cons zsP (.cons zvC (.cons zh2 (.cons zqj (.cons ztO (.cons zh2 (.cons zt4 (.cons zwv (.cons zti (.cons zjE (.cons zh2 (.cons zts (.cons zjE (.cons zgu (.cons ziJ .nil))))))))))))))))))))) (fun x=>by kernel_rfl)
end Go.Proofs.YtdfohlonacbelaaGreat
