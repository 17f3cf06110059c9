import Derived.Test.YtdfohlonacbelaaGreatD11w
set_option linter.unusedVariables false
set_option maxRecDepth 100000
noncomputable section
namespace Go.Proofs.YtdfohlonacbelaaGreat
open Go.SX
def zaN (x2:List l10_Act) (x6:Int) (s:(Int×Proto×Proto)):Option ((Int×Proto×Proto)⊕Unit⊕Bool) :=
 if (decide (s.1<(x2.length:Int)))&&((decide (s.1<(100:Int)))&&(decide (x6=(0:Int)))) then
 (zAF x2 s.1).bind fun v14=>(zqh s.2.1 v14).bind fun v15=>(zAF x2 s.1).bind fun v17=>(zjD s.2.2 v17).bind fun v18=>(if !decide (v15.2=v18.2) then
 some (true)
 else
 (zj4 v15.1 v18.1).bind fun v21=>if !v21 then
 some (true)
 else
 (zcl v15.1).bind fun v23=>some ((!v23)):Option Bool).bind fun v20=>if v20 then
 some (Sum.inr (Sum.inr (false)))
 else
 some (Sum.inl (w64 (s.1 + (1:Int)),v15.1,v18.1))
 else
 some (Sum.inr (Sum.inl ()))
def zeX (p0:Int) (p1:Int) (p2:List l10_Act):Option Bool :=
 if !zn4 then
 some (false)
 else
 (zhg p0 p1).bind fun v5=>(znB p0 p1).bind fun v7=>(if !decide (v5.2=v7.2) then
 some (true)
 else
 (zj4 v5.1 v7.1).bind fun v10=>some ((!v10)):Option Bool).bind fun v9=>if v9 then
 some (false)
 else
 zaO (zaf (zaN p2 v5.2) ((0:Int),v5.1,v7.1):Option (Unit⊕Bool)) fun v10=>some (true)
def zch:FnT:=⟨[.int .i64,.int .i64,.sl zhW],[.bool],fun x=>zeX x.1 x.2.1 x.2.2⟩
def zgC:TA :=
 .callp 5 ziB [] 1<|.prim (.un .not) [.v 3]<|.ite (.v 4) (.jmp 0 false [.c (.bool false)]) (.call 21 zi4 [.v 0,.v 1] 2<|.call 22 zoi [.v 0,.v 1] 2<|.sub0 [.bool] (.prim (.bin .neq) [.v 6,.v 8]<|.ite (.v 9) (.jmp 0 false [.c (.bool true)]) (.call 9 zfz [.v 5,.v 7] 1<|.prim (.un .not) [.v 10]<|.jmp 0 false [.v 11])) 1<|.ite (.v 9) (.jmp 0 false [.c (.bool false)]) (.sub1 [] (.loop [.int .i64,zab,zab] [.c (.int .i64 0),.v 5,.v 7] (.subp [.bool] (.prim .len [.v 2]<|.prim (.bin .lss) [.v 10,.v 13]<|.ite (.v 14) (.prim (.bin .lss) [.v 10,.c (.int .i64 100)]<|.ite (.v 15) (.prim (.bin .eql) [.v 6,.c (.int .i64 0)]<|.jmp 0 false [.v 16]) (.jmp 0 false [.c (.bool false)])) (.jmp 0 false [.c (.bool false)])) 1<|.ite (.v 13) (.prim .get [.v 2,.v 10]<|.call 23 zqX [.v 11,.v 14] 2<|.prim .get [.v 2,.v 10]<|.call 24 zlE [.v 12,.v 17] 2<|.sub0 [.bool] (.prim (.bin .neq) [.v 16,.v 19]<|.ite (.v 20) (.jmp 0 false [.c (.bool true)]) (.call 9 zfz [.v 15,.v 18] 1<|.prim (.un .not) [.v 21]<|.ite (.v 22) (.jmp 0 false [.c (.bool true)]) (.call 19 zby [.v 15] 1<|.prim (.un .not) [.v 23]<|.jmp 0 false [.v 24]))) 1<|.ite (.v 20) (.jmp 2 false [.c (.bool false)]) (.prim (.bin .add) [.v 10,.c (.int .i64 1)]<|.jmp 0 true [.v 21,.v 15,.v 18])) (.jmp 1 false []))) 0<|.jmp 0 false [.c (.bool true)]))
theorem zmf:zad cx 12 4=some zgC.erase:=by kernel_rfl
theorem zme:zAH cx 12 noC 4 zch:=zaA (t:=zgC) zmf (fun _=>rfl) (zau [(5,ziB.fn),(21,zi4),(22,zoi),(9,zfz),(23,zqX),(24,zlE),(9,zfz),(19,zby)] (by kernel_rfl) (.cons zt5 (.cons zuy (.cons zxw (.cons zp7 (.cons zyi (.cons zvL (.cons zp7 (.cons zfS .nil))))))))) (fun x=>by kernel_rfl)
end Go.Proofs.YtdfohlonacbelaaGreat
