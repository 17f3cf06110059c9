/- More functions of this cut as functions of plain typed data. Printed by a program of this claim's prover; each is checked here to be what the executor makes of the code. -/
import Derived.Test.YtlgjbfdojbmmgaaD34w
set_option linter.unusedVariables false
set_option maxRecDepth 100000
noncomputable section
namespace Go.Proofs.Ytlgjbfdojbmmgaa
open Go.SX
def za0 (s:(Int×Proto)):Option ((Int×Proto)⊕Proto) :=
 if (decide (s.1<(2000:Int)))&&(decide ((0:Int)<(List.length (Pool.Frames (Proto.Pool s.2)):Int))) then
 (zax s.2 (0:Int)).bind fun v18=>some (Sum.inl (w64 (s.1 + (1:Int)),v18.1))
 else
 some (Sum.inr (s.2))
def zaZ (x2:List l10_Act) (s:(Int×Proto)):Option ((Int×Proto)⊕Proto⊕Bool) :=
 if (decide (s.1<(x2.length:Int)))&&(decide (s.1<(120:Int))) then
 (zzG x2 s.1).bind fun v17=>(zAj (w64 (l10_Act.N v17)) (List.length (Proto.Wait s.2):Int)).bind fun v22=>(zAj (w64 (l10_Act.Line v17)) (List.length (Proto.Home s.2):Int)).bind fun v27=>(zAj (l10_Act.Kind v17) (8:Int)).bind fun v29=>let v30:Bool:=decide (v29=(0:Int))
 (if bif v30 then v30 else decide (v29=(1:Int)) then
 (zcM s.2 v22 v27 (l10_Act.Write v17)).bind fun v33=>some (v33.1)
 else
 (if decide (v29=(2:Int)) then
 (zca s.2 v22 v27).bind fun v33=>some (v33.1)
 else
 (if decide (v29=(3:Int)) then
 (ze2 s.2 v22 v27 (l10_Act.Val v17)).bind fun v35=>some (v35.1)
 else
 (if decide ((0:Int)<(List.length (Pool.Frames (Proto.Pool s.2)):Int)) then
 (zAj (w64 (l10_Act.At v17)) (List.length (Pool.Frames (Proto.Pool s.2)):Int)).bind fun v43=>(zax s.2 v43).bind fun v44=>some (v44.1)
 else
 some (s.2):Option Proto).bind fun v38=>some (v38):Option Proto).bind fun v34=>some (v34):Option Proto).bind fun v33=>some (v33):Option Proto).bind fun v32=>(zfa v32).bind fun v33=>if !v33 then
 some (Sum.inr (Sum.inr (false)))
 else
 some (Sum.inl (w64 (s.1 + (1:Int)),v32))
 else
 some (Sum.inr (Sum.inl s.2))
def zeu (p0:Int) (p1:Int) (p2:List l10_Act):Option Bool :=
 if !zlE then
 some (false)
 else
 (zAj p0 (4:Int)).bind fun v5=>(zAj p1 (4:Int)).bind fun v8=>(zjq (w64 ((w64 v5) + (1:Int))) (w64 ((w64 v8) + (1:Int)))).bind fun v11=>if !decide (v11.2=(0:Int)) then
 some (false)
 else
 zbv (zae (zaZ p2) ((0:Int),v11.1):Option (Proto⊕Bool)) fun v14=>(zae za0 ((0:Int),v14):Option Proto).bind fun v15=>((zcA v15).bind fun v16=>if v16 then
 (zfa v15).bind fun v17=>some (v17)
 else
 some (false):Option Bool).bind fun v16=>some (v16)
def zb5:FnT:=⟨[.int .u8,.int .u8,.sl zjo],[.bool],fun x=>zeu x.1 x.2.1 x.2.2⟩
def zf5:TA :=
 .callp 47 zhQ [] 1<|.prim (.un .not) [.v 3]<|.ite (.v 4) (.jmp 0 false [.c (.bool false)]) (.prim (.bin .rem) [.v 0,.c (.int .u8 4)]<|.prim (.conv .i64) [.v 5]<|.prim (.bin .add) [.v 6,.c (.int .i64 1)]<|.prim (.bin .rem) [.v 1,.c (.int .u8 4)]<|.prim (.conv .i64) [.v 8]<|.prim (.bin .add) [.v 9,.c (.int .i64 1)]<|.call 40 zhX [.v 7,.v 10] 2<|.prim (.bin .neq) [.v 12,.c (.int .i64 0)]<|.ite (.v 13) (.jmp 0 false [.c (.bool false)]) (.sub1 [zaD] (.loop [.int .i64,zaD] [.c (.int .i64 0),.v 11] (.subp [.bool] (.prim .len [.v 2]<|.prim (.bin .lss) [.v 14,.v 16]<|.ite (.v 17) (.prim (.bin .lss) [.v 14,.c (.int .i64 120)]<|.jmp 0 false [.v 18]) (.jmp 0 false [.c (.bool false)])) 1<|.ite (.v 16) (.prim .get [.v 2,.v 14]<|.prim (.fld 1) [.v 17]<|.prim (.conv .i64) [.v 18]<|.prim (.fld 2) [.v 15]<|.prim .len [.v 20]<|.prim (.bin .rem) [.v 19,.v 21]<|.prim (.fld 2) [.v 17]<|.prim (.conv .i64) [.v 23]<|.prim (.fld 3) [.v 15]<|.prim .len [.v 25]<|.prim (.bin .rem) [.v 24,.v 26]<|.prim (.fld 0) [.v 17]<|.prim (.bin .rem) [.v 28,.c (.int .u8 8)]<|.prim (.bin .eql) [.v 29,.c (.int .u8 0)]<|.subp [.bool] (.ite (.v 30) (.jmp 0 false [.v 30]) (.prim (.bin .eql) [.v 29,.c (.int .u8 1)]<|.jmp 0 false [.v 31])) 1<|.sub0 [zaD] (.ite (.v 31) (.prim (.fld 4) [.v 17]<|.call 45 zgZ [.v 15,.v 22,.v 27,.v 32] 2<|.jmp 0 false [.v 33]) (.prim (.bin .eql) [.v 29,.c (.int .u8 2)]<|.sub0 [zaD] (.ite (.v 32) (.call 46 zfr [.v 15,.v 22,.v 27] 2<|.jmp 0 false [.v 33]) (.prim (.bin .eql) [.v 29,.c (.int .u8 3)]<|.sub0 [zaD] (.ite (.v 33) (.prim (.fld 5) [.v 17]<|.call 48 zh4 [.v 15,.v 22,.v 27,.v 34] 2<|.jmp 0 false [.v 35]) (.prim (.fld 6) [.v 15]<|.prim (.fld 0) [.v 34]<|.prim .len [.v 35]<|.prim (.bin .gtr) [.v 36,.c (.int .i64 0)]<|.sub0 [zaD] (.ite (.v 37) (.prim (.fld 3) [.v 17]<|.prim (.conv .i64) [.v 38]<|.prim (.fld 6) [.v 15]<|.prim (.fld 0) [.v 40]<|.prim .len [.v 41]<|.prim (.bin .rem) [.v 39,.v 42]<|.call 49 zbG [.v 15,.v 43] 2<|.jmp 0 false [.v 44]) (.jmp 0 false [.v 15])) 1<|.jmp 0 false [.v 38])) 1<|.jmp 0 false [.v 34])) 1<|.jmp 0 false [.v 33])) 1<|.call 50 zd0 [.v 32] 1<|.prim (.un .not) [.v 33]<|.ite (.v 34) (.jmp 2 false [.c (.bool false)]) (.prim (.bin .add) [.v 14,.c (.int .i64 1)]<|.jmp 0 true [.v 35,.v 32])) (.jmp 1 false [.v 15]))) 1<|.sub0 [zaD] (.loop [.int .i64,zaD] [.c (.int .i64 0),.v 14] (.subp [.bool] (.prim (.bin .lss) [.v 15,.c (.int .i64 2000)]<|.ite (.v 17) (.prim (.fld 6) [.v 16]<|.prim (.fld 0) [.v 18]<|.prim .len [.v 19]<|.prim (.bin .gtr) [.v 20,.c (.int .i64 0)]<|.jmp 0 false [.v 21]) (.jmp 0 false [.c (.bool false)])) 1<|.ite (.v 17) (.call 49 zbG [.v 16,.c (.int .i64 0)] 2<|.prim (.bin .add) [.v 15,.c (.int .i64 1)]<|.jmp 0 true [.v 20,.v 18]) (.jmp 1 false [.v 16]))) 1<|.sub0 [.bool] (.call 51 zc5 [.v 15] 1<|.ite (.v 16) (.call 50 zd0 [.v 15] 1<|.jmp 0 false [.v 17]) (.jmp 0 false [.c (.bool false)])) 1<|.jmp 0 false [.v 16]))
theorem zkK:zaj cx 12 9=some zf5.erase:=by kernel_rfl
theorem zkL:zzK cx 12 noC 9 zb5:=zbb (t:=zf5) zkK (fun _=>rfl) (zaQ [(47,zhQ.fn),(40,zhX),(45,zgZ),(46,zfr),(48,zh4),(49,zbG),(50,zd0),(49,zbG),(51,zc5),(50,zd0)] (by kernel_rfl) (.cons zrf (.cons zrq (.cons zqk (.cons zob (.cons zrN (.cons zgk (.cons zlg (.cons zgk (.cons zkF (.cons zlg .nil))))))))))) (fun x=>by kernel_rfl)
end Go.Proofs.Ytlgjbfdojbmmgaa
