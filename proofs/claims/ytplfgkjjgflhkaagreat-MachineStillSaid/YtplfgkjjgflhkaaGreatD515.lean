/- More functions of this cut as functions of plain typed data. Printed by a program of this claim's prover; each is checked here to be what the executor makes of the code. -/
import Derived.Test.YtplfgkjjgflhkaaGreatD51w
set_option linter.unusedVariables false
set_option maxRecDepth 100000
noncomputable section
namespace Go.Proofs.YtplfgkjjgflhkaaGreat
open Go.SX
def zcA (x0:List (List Ins)) (x4:List Event) (s:(Int×Machine)):Option ((Int×Machine)⊕Unit⊕Bool) :=
 if decide (s.1<(x4.length:Int)) then
 (getO x4 s.1).bind fun v24=>(zhI x0 s.2 v24).bind fun v25=>let v29:Machine:=bif !decide (v25.2.2=(0:Int)) then s.2 else v25.1
 zbm (if (!(zeN v25.2.1))&&(!(zc6 v25.2.1)) then
 ((zpk (zaw v29) (zaw s.2)).bind fun v33=>if !v33 then
 some (true)
 else
 (ziw (zaz v29)).bind fun v36=>(ziw (zaz s.2)).bind fun v38=>(zsr v36 v38).bind fun v39=>some ((!v39)):Option Bool).bind fun v31=>if v31 then
 some (Sum.inr (Sum.inr (Sum.inr (false))))
 else
 ((zpy (zah s.2)).bind fun v33=>if v33 then
 (zpy (zah v29)).bind fun v35=>if v35 then
 (zcO v29).bind fun v36=>(zcO s.2).bind fun v37=>(zoi v36 v37).bind fun v38=>some ((!v38))
 else
 some (false)
 else
 some (false):Option Bool).bind fun v32=>if v32 then
 some (Sum.inr (Sum.inr (Sum.inr (false))))
 else
 some (Sum.inl ())
 else
 some (Sum.inl ()):Option (Unit⊕(Int×Machine)⊕Unit⊕Bool)) fun v31=>(if zc6 v25.2.1 then
 (getO x4 s.1).bind fun v32=>if !decide ((zaO v32)=(1:Int)) then
 some (true)
 else
 if zeN v25.2.1 then
 (getO x4 s.1).bind fun v36=>if !decide ((zaO v36)=(2:Int)) then
 (getO x4 s.1).bind fun v39=>if !decide ((zaO v39)=(4:Int)) then
 (getO x4 s.1).bind fun v42=>some ((!decide ((zaO v42)=(9:Int))))
 else
 some (false)
 else
 some (false)
 else
 some (false)
 else
 if zeN v25.2.1 then
 (getO x4 s.1).bind fun v33=>if !decide ((zaO v33)=(2:Int)) then
 (getO x4 s.1).bind fun v36=>if !decide ((zaO v36)=(4:Int)) then
 (getO x4 s.1).bind fun v39=>some ((!decide ((zaO v39)=(9:Int))))
 else
 some (false)
 else
 some (false)
 else
 some (false):Option Bool).bind fun v31=>if v31 then
 some (Sum.inr (Sum.inr (false)))
 else
 some (Sum.inl (w64 (s.1 + (1:Int)),v29))
 else
 some (Sum.inr (Sum.inl ()))
def zgj (p0:List (List Ins)) (p1 p2 p3:Int) (p4:List Event):Option Bool :=
 if !zvc then
 some (false)
 else
 ((zpl p0).bind fun v7=>if !v7 then
 some (true)
 else
 some ((decide ((120:Int)<(p4.length:Int)))):Option Bool).bind fun v7=>if v7 then
 some (true)
 else
 (remO p1 (16:Int)).bind fun v8=>(remO p2 (8:Int)).bind fun v11=>(remO p3 (20:Int)).bind fun v14=>(zji p0 (w64 ((w64 v8) + (1:Int))) (w64 ((w64 v11) + (1:Int))) (w64 ((w64 v14) + (1:Int)))).bind fun v17=>if !decide (v17.2=(0:Int)) then
 some (true)
 else
 zbm (zaQ (zcA p0 p4) ((0:Int),v17.1):Option (Unit⊕Bool)) fun v20=>some (true)
def zeE:FnT:=⟨[.sl (.sl tIns),.int .u8,.int .u8,.int .u8,.sl zri],[.bool],fun x=>zgj x.1 x.2.1 x.2.2.1 x.2.2.2.1 x.2.2.2.2⟩
def znX:TA :=
 .callp 6 zuG [] 1<|qn 5<|qe 6 (qt 0 false) (.sub0 [.bool] (.call 13 ztl [.v 0] 1<|qn 7<|qe 8 (qt 0 true) (ql 4<|qk .gtr 9 120<|qj 0 10)) 1<|qe 7 (qt 0 true) (.prim (.bin .rem) [.v 1,.c (.int .u8 16)]<|.prim (.conv .i64) [.v 8]<|qk .add 9 1<|.prim (.bin .rem) [.v 2,.c (.int .u8 8)]<|.prim (.conv .i64) [.v 11]<|qk .add 12 1<|.prim (.bin .rem) [.v 3,.c (.int .u8 20)]<|.prim (.conv .i64) [.v 14]<|qk .add 15 1<|.call 10 zpz (qv [0,10,13,16]) 2<|qk .neq 18 0<|qe 19 (qt 0 true) (.sub1 [] (.loop [.int .i64,zcq] [(qz 0),.v 17] (ql 4<|qb .lss 20 22<|qe 23 (qg 4 20<|.call 11 zm2 (qv [0,21,24]) 3<|qk .neq 27 0<|.subp [zcq] (qe 28 (qj 0 21) (qj 0 25)) 1<|.subp [.bool] (qf 1 26<|qn 30<|qe 31 (qf 0 26<|qn 32<|qj 0 33) (qt 0 false)) 1<|.sub1 [] (qe 30 (.sub0 [.bool] (qf 0 29<|qf 0 21<|.call 14 zvl (qv [31,32]) 1<|qn 33<|qe 34 (qt 0 true) (qf 4 29<|.call 16 zlw [.v 35] 1<|qf 4 21<|.call 16 zlw [.v 37] 1<|.call 15 zwG (qv [36,38]) 1<|qn 39<|qj 0 40)) 1<|qe 31 (qt 3 false) (.sub0 [.bool] (qf 1 21<|.call 17 zpI [.v 32] 1<|qe 33 (qf 1 29<|.call 17 zpI [.v 34] 1<|qe 35 (.call 19 zgi [.v 29] 1<|.call 19 zgi [.v 21] 1<|.call 18 ztn (qv [36,37]) 1<|qn 38<|qj 0 39) (qt 0 false)) (qt 0 false)) 1<|qe 32 (qt 3 false) (qx 0))) (qx 0)) 0<|.sub0 [.bool] (qf 0 26<|qe 31 (qg 4 20<|qf 0 32<|qk .neq 33 1<|qe 34 (qt 0 true) (qf 1 26<|qe 35 (qg 4 20<|qf 0 36<|qk .neq 37 2<|qe 38 (qg 4 20<|qf 0 39<|qk .neq 40 4<|qe 41 (qg 4 20<|qf 0 42<|qk .neq 43 9<|qj 0 44) (qt 0 false)) (qt 0 false)) (qt 0 false))) (qf 1 26<|qe 32 (qg 4 20<|qf 0 33<|qk .neq 34 2<|qe 35 (qg 4 20<|qf 0 36<|qk .neq 37 4<|qe 38 (qg 4 20<|qf 0 39<|qk .neq 40 9<|qj 0 41) (qt 0 false)) (qt 0 false)) (qt 0 false))) 1<|qe 31 (qt 2 false) (qk .add 20 1<|.jmp 0 true (qv [32,29]))) (qx 1))) 0<|qt 0 true)))
theorem zol:zaM cx 12 4=some znX.erase:=by kernel_rfl
theorem zoM:FnOk cx 12 noC 4 zeE:=rf_ zol (.cons zBO (.cons zBu (.cons zxN (.cons zvx (.cons zAz (.cons zra (.cons zra (.cons zD4 (.cons zwh (.cons zwh (.cons zjH (.cons zjH (.cons zBV .nil)))))))))))))
end Go.Proofs.YtplfgkjjgflhkaaGreat
