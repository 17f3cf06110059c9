/- More functions of this cut as functions of plain typed data. Printed by a program of this claim's prover; each is checked here to be what the executor makes of the code. -/
import Derived.Test.YtlgjbfdojbmmgaaD32w
set_option linter.unusedVariables false
set_option maxRecDepth 100000
noncomputable section
namespace Go.Proofs.Ytlgjbfdojbmmgaa
open Go.SX
def zaV (x2:List l10_Act) (s:(Int×Proto)):Option ((Int×Proto)⊕Proto) :=
 if (decide (s.1<(List.length x2:Int)))&&(decide (s.1<(100:Int))) then
 (getO x2 s.1).bind fun v20=>(zrh s.2 v20).bind fun v21=>some (Sum.inl (w64 (s.1 + (1:Int)),v21.1))
 else
 some (Sum.inr (s.2))
def zep (p0:Int) (p1:Int) (p2:List l10_Act) (p3:Int) (p4:Int) (p5:Bool):Option Bool :=
 if !zk8 then
 some (false)
 else
 (remO p0 (4:Int)).bind fun v8=>(remO p1 (4:Int)).bind fun v11=>(zif (w64 ((w64 v8) + (1:Int))) (w64 ((w64 v11) + (1:Int)))).bind fun v14=>if !decide (v14.2=(0:Int)) then
 some (false)
 else
 (zal (zaV p2) ((0:Int),v14.1):Option Proto).bind fun v17=>(zgv v17).bind fun v18=>if !v18.2 then
 some (false)
 else
 (remO (w64 p3) (List.length (Proto.Wait v18.1):Int)).bind fun v24=>(remO (w64 p4) (List.length (Proto.Home v18.1):Int)).bind fun v28=>(zdQ v18.1 v24 v28 p5).bind fun v29=>if v29 then
 some (true)
 else
 (zbM v18.1 v24 v28 p5).bind fun v30=>(zgv v30.1).bind fun v32=>(if decide (v30.2=(0:Int)) then
 if v32.2 then
 (zdQ v32.1 v24 v28 p5).bind fun v35=>some (v35)
 else
 some (false)
 else
 some (false):Option Bool).bind fun v34=>some (v34)
def zbZ:FnT:=⟨[.int .u8,.int .u8,.sl zgx,.int .u8,.int .u8,.bool],[.bool],fun x=>zep x.1 x.2.1 x.2.2.1 x.2.2.2.1 x.2.2.2.2.1 x.2.2.2.2.2⟩
def zfF:TA :=
 .callp 39 zhv [] 1<|.prim (.un .not) [.v 6]<|.ite (.v 7) (.jmp 0 false [.c (.bool false)]) (.prim (.bin .rem) [.v 0,.c (.int .u8 4)]<|.prim (.conv .i64) [.v 8]<|.prim (.bin .add) [.v 9,.c (.int .i64 1)]<|.prim (.bin .rem) [.v 1,.c (.int .u8 4)]<|.prim (.conv .i64) [.v 11]<|.prim (.bin .add) [.v 12,.c (.int .i64 1)]<|.call 40 zhO [.v 10,.v 13] 2<|.prim (.bin .neq) [.v 15,.c (.int .i64 0)]<|.ite (.v 16) (.jmp 0 false [.c (.bool false)]) (.sub0 [za1] (.loop [.int .i64,za1] [.c (.int .i64 0),.v 14] (.subp [.bool] (.prim .len [.v 2]<|.prim (.bin .lss) [.v 17,.v 19]<|.ite (.v 20) (.prim (.bin .lss) [.v 17,.c (.int .i64 100)]<|.jmp 0 false [.v 21]) (.jmp 0 false [.c (.bool false)])) 1<|.ite (.v 19) (.prim .get [.v 2,.v 17]<|.call 41 znw [.v 18,.v 20] 2<|.prim (.bin .add) [.v 17,.c (.int .i64 1)]<|.jmp 0 true [.v 23,.v 21]) (.jmp 1 false [.v 18]))) 1<|.call 44 zey [.v 17] 2<|.prim (.un .not) [.v 19]<|.ite (.v 20) (.jmp 0 false [.c (.bool false)]) (.prim (.conv .i64) [.v 3]<|.prim (.fld 2) [.v 18]<|.prim .len [.v 22]<|.prim (.bin .rem) [.v 21,.v 23]<|.prim (.conv .i64) [.v 4]<|.prim (.fld 3) [.v 18]<|.prim .len [.v 26]<|.prim (.bin .rem) [.v 25,.v 27]<|.call 42 zdV [.v 18,.v 24,.v 28,.v 5] 1<|.ite (.v 29) (.jmp 0 false [.c (.bool true)]) (.call 45 zc3 [.v 18,.v 24,.v 28,.v 5] 2<|.call 44 zey [.v 30] 2<|.sub0 [.bool] (.prim (.bin .eql) [.v 31,.c (.int .i64 0)]<|.ite (.v 34) (.ite (.v 33) (.call 42 zdV [.v 32,.v 24,.v 28,.v 5] 1<|.jmp 0 false [.v 35]) (.jmp 0 false [.c (.bool false)])) (.jmp 0 false [.c (.bool false)])) 1<|.jmp 0 false [.v 34]))))
theorem zj6:zao cx 12 7=some zfF.erase:=by kernel_rfl
theorem zj4:FnOk cx 12 noC 7 zbZ:=zbv (t:=zfF) zj6 (fun _=>rfl) (za2 [(39,zhv.fn),(40,zhO),(41,znw),(44,zey),(42,zdV),(45,zc3),(44,zey),(42,zdV)] (by kernel_rfl) (.cons zqf (.cons zqq (.cons zuV (.cons zna (.cons zl4 (.cons zjW (.cons zna (.cons zl4 .nil))))))))) (fun x=>by kernel_rfl)
end Go.Proofs.Ytlgjbfdojbmmgaa
