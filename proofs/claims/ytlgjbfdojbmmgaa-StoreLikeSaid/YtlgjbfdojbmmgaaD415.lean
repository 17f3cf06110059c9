/- More functions of this cut as functions of plain typed data. Printed by a program of this claim's prover; each is checked here to be what the executor makes of the code. -/
import Derived.Test.YtlgjbfdojbmmgaaD414
set_option linter.unusedVariables false
set_option maxRecDepth 100000
noncomputable section
namespace Go.Proofs.Ytlgjbfdojbmmgaa
open Go.SX
def zbb (x27:Vault) (x28:Log) (s:Int):Option (Int⊕Unit⊕(Int×Vault×Log)⊕Unit⊕Bool) :=
 if decide (s<(List.length (Vault.Lst x27):Int)) then
 (getO (Vault.Lst x27) s).bind fun v35=>(getO (Log.Lst x28) s).bind fun v37=>if !(@decide (v35=v37) (Ty.dec zbs _ _)) then
 some (Sum.inr (Sum.inr (Sum.inr (Sum.inr (false)))))
 else
 some (Sum.inl (w64 (s + (1:Int))))
 else
 some (Sum.inr (Sum.inl ()))
def zcK (x2:List l14_Do) (x7:Int) (s:(Int×Vault×Log)):Option ((Int×Vault×Log)⊕Unit⊕Bool) :=
 if (decide (s.1<(List.length x2:Int)))&&(decide (s.1<(60:Int))) then
 (getO x2 s.1).bind fun v20=>(remO (l14_Do.Kind v20) (5:Int)).bind fun v22=>let v23:Bool:=decide (v22=(0:Int))
 (if bif v23 then v23 else decide (v22=(1:Int)) then
 (remO (w64 (l14_Do.At v20)) x7).bind fun v27=>(zde s.2.1 v27 (l14_Do.Val v20)).bind fun v29=>(remO (w64 (l14_Do.At v20)) x7).bind fun v33=>(zee s.2.2 v33 (l14_Do.Val v20)).bind fun v35=>some ((v29.2,v35.2,v29.1,v35.1))
 else
 (if decide (v22=(2:Int)) then
 (zd9 s.2.1).bind fun v26=>(zfb s.2.2).bind fun v28=>some ((v26.2,v28.2,v26.1,v28.1))
 else
 (if decide (v22=(3:Int)) then
 (zdZ s.2.1 (w64 (l14_Do.To v20))).bind fun v29=>(zfj s.2.2 (w64 (l14_Do.To v20))).bind fun v33=>some ((v29.2,v33.2,v29.1,v33.1))
 else
 (zd6 s.2.1 (w64 (l14_Do.To v20))).bind fun v29=>(zeT s.2.2 (w64 (l14_Do.To v20))).bind fun v33=>some ((v29.2,v33.2,v29.1,v33.1)):Option (Int×Int×Vault×Log)).bind fun v27=>some ((v27.1,v27.2.1,v27.2.2.1,v27.2.2.2)):Option (Int×Int×Vault×Log)).bind fun v26=>some ((v26.1,v26.2.1,v26.2.2.1,v26.2.2.2)):Option (Int×Int×Vault×Log)).bind fun v25=>(if !decide (v25.1=v25.2.1) then
 some (true)
 else
 (zcm v25.2.2.1).bind fun v30=>(zdr v30 (Log.Mem v25.2.2.2)).bind fun v32=>if !v32 then
 some (true)
 else
 if !decide ((Vault.Span v25.2.2.1)=(Log.Span v25.2.2.2)) then
 some (true)
 else
 some ((!decide ((List.length (Vault.Lst v25.2.2.1):Int)=(List.length (Log.Lst v25.2.2.2):Int)))):Option Bool).bind fun v29=>if v29 then
 some (Sum.inr (Sum.inr (false)))
 else
 zb6 (zaA (zbb v25.2.2.1 v25.2.2.2) (0:Int):Option (Unit⊕(Int×Vault×Log)⊕Unit⊕Bool)) fun v30=>some (Sum.inl (w64 (s.1 + (1:Int)),v25.2.2.1,v25.2.2.2))
 else
 some (Sum.inr (Sum.inl ()))
def zeC (p0:Int) (p1:Int) (p2:List l14_Do):Option Bool :=
 if !zj9 then
 some (false)
 else
 (remO p0 (64:Int)).bind fun v5=>let v7:Int:=w64 ((w64 v5) + (1:Int))
 (remO p1 (8:Int)).bind fun v8=>(zhh v7 (w64 ((w64 v8) + (1:Int)))).bind fun v11=>(ziM v7).bind fun v13=>if (!decide (v11.2=(0:Int)))||(!decide (v13.2=(0:Int))) then
 some (false)
 else
 zb6 (zaA (zcK p2 v7) ((0:Int),v11.1,v13.1):Option (Unit⊕Bool)) fun v16=>some (true)
def zb1:FnT:=⟨[.int .u8,.int .u8,.sl zfg],[.bool],fun x=>zeC x.1 x.2.1 x.2.2⟩
def zeZ:TA :=
 .callp 10 zfY [] 1<|.prim (.un .not) [.v 3]<|.ite (.v 4) (.jmp 0 false [.c (.bool false)]) (.prim (.bin .rem) [.v 0,.c (.int .u8 64)]<|.prim (.conv .i64) [.v 5]<|.prim (.bin .add) [.v 6,.c (.int .i64 1)]<|.prim (.bin .rem) [.v 1,.c (.int .u8 8)]<|.prim (.conv .i64) [.v 8]<|.prim (.bin .add) [.v 9,.c (.int .i64 1)]<|.call 19 zgp [.v 7,.v 10] 2<|.call 34 zhH [.v 7] 2<|.subp [.bool] (.prim (.bin .neq) [.v 12,.c (.int .i64 0)]<|.ite (.v 15) (.jmp 0 false [.c (.bool true)]) (.prim (.bin .neq) [.v 14,.c (.int .i64 0)]<|.jmp 0 false [.v 16])) 1<|.ite (.v 15) (.jmp 0 false [.c (.bool false)]) (.sub1 [] (.loop [.int .i64,zay,tLog] [.c (.int .i64 0),.v 11,.v 13] (.subp [.bool] (.prim .len [.v 2]<|.prim (.bin .lss) [.v 16,.v 19]<|.ite (.v 20) (.prim (.bin .lss) [.v 16,.c (.int .i64 60)]<|.jmp 0 false [.v 21]) (.jmp 0 false [.c (.bool false)])) 1<|.ite (.v 19) (.prim .get [.v 2,.v 16]<|.prim (.fld 0) [.v 20]<|.prim (.bin .rem) [.v 21,.c (.int .u8 5)]<|.prim (.bin .eql) [.v 22,.c (.int .u8 0)]<|.subp [.bool] (.ite (.v 23) (.jmp 0 false [.v 23]) (.prim (.bin .eql) [.v 22,.c (.int .u8 1)]<|.jmp 0 false [.v 24])) 1<|.sub0 [.int .i64,.int .i64,zay,tLog] (.ite (.v 24) (.prim (.fld 1) [.v 20]<|.prim (.conv .i64) [.v 25]<|.prim (.bin .rem) [.v 26,.v 7]<|.prim (.fld 3) [.v 20]<|.call 12 zer [.v 17,.v 27,.v 28] 2<|.prim (.fld 1) [.v 20]<|.prim (.conv .i64) [.v 31]<|.prim (.bin .rem) [.v 32,.v 7]<|.prim (.fld 3) [.v 20]<|.call 35 zeO [.v 18,.v 33,.v 34] 2<|.jmp 0 false [.v 30,.v 36,.v 29,.v 35]) (.prim (.bin .eql) [.v 22,.c (.int .u8 2)]<|.sub0 [.int .i64,.int .i64,zay,tLog] (.ite (.v 25) (.call 28 zeN [.v 17] 2<|.call 36 zgc [.v 18] 2<|.jmp 0 false [.v 27,.v 29,.v 26,.v 28]) (.prim (.bin .eql) [.v 22,.c (.int .u8 3)]<|.sub0 [.int .i64,.int .i64,zay,tLog] (.ite (.v 26) (.prim (.fld 2) [.v 20]<|.prim (.conv .i64) [.v 27]<|.call 15 ze3 [.v 17,.v 28] 2<|.prim (.fld 2) [.v 20]<|.prim (.conv .i64) [.v 31]<|.call 37 zgk [.v 18,.v 32] 2<|.jmp 0 false [.v 30,.v 34,.v 29,.v 33]) (.prim (.fld 2) [.v 20]<|.prim (.conv .i64) [.v 27]<|.call 17 ze2 [.v 17,.v 28] 2<|.prim (.fld 2) [.v 20]<|.prim (.conv .i64) [.v 31]<|.call 38 zgd [.v 18,.v 32] 2<|.jmp 0 false [.v 30,.v 34,.v 29,.v 33])) 4<|.jmp 0 false [.v 27,.v 28,.v 29,.v 30])) 4<|.jmp 0 false [.v 26,.v 27,.v 28,.v 29])) 4<|.sub0 [.bool] (.prim (.bin .neq) [.v 25,.v 26]<|.ite (.v 29) (.jmp 0 false [.c (.bool true)]) (.call 26 zel [.v 27] 1<|.prim (.fld 0) [.v 28]<|.call 25 zgq [.v 30,.v 31] 1<|.prim (.un .not) [.v 32]<|.ite (.v 33) (.jmp 0 false [.c (.bool true)]) (.prim (.fld 2) [.v 27]<|.prim (.fld 1) [.v 28]<|.prim (.bin .neq) [.v 34,.v 35]<|.ite (.v 36) (.jmp 0 false [.c (.bool true)]) (.prim (.fld 3) [.v 27]<|.prim .len [.v 37]<|.prim (.fld 2) [.v 28]<|.prim .len [.v 39]<|.prim (.bin .neq) [.v 38,.v 40]<|.jmp 0 false [.v 41])))) 1<|.ite (.v 29) (.jmp 2 false [.c (.bool false)]) (.sub1 [] (.loop [.int .i64] [.c (.int .i64 0)] (.prim (.fld 3) [.v 27]<|.prim .len [.v 31]<|.prim (.bin .lss) [.v 30,.v 32]<|.ite (.v 33) (.prim (.fld 3) [.v 27]<|.prim .get [.v 34,.v 30]<|.prim (.fld 2) [.v 28]<|.prim .get [.v 36,.v 30]<|.prim .eqv [.v 35,.v 37]<|.prim (.un .not) [.v 38]<|.ite (.v 39) (.jmp 4 false [.c (.bool false)]) (.prim (.bin .add) [.v 30,.c (.int .i64 1)]<|.jmp 0 true [.v 40])) (.jmp 1 false []))) 0<|.prim (.bin .add) [.v 16,.c (.int .i64 1)]<|.jmp 0 true [.v 30,.v 27,.v 28])) (.jmp 1 false []))) 0<|.jmp 0 false [.c (.bool true)]))
theorem zjY:zaE cx 12 5=some zeZ.erase:=by kernel_rfl
theorem zkb:FnOk cx 12 noC 5 zb1:=zcf (t:=zeZ) zjY (fun _=>rfl) (zbX [(10,zfY.fn),(19,zgp),(34,zhH),(12,zer),(35,zeO),(28,zeN),(36,zgc),(15,ze3),(37,zgk),(17,ze2),(38,zgd),(26,zel),(25,zgq)] (by kernel_rfl) (.cons zoB (.cons zoC (.cons zq6 (.cons zmd (.cons zoi (.cons zof (.cons zph (.cons zom (.cons zpe (.cons zmV (.cons zpA (.cons zmg (.cons zox .nil)))))))))))))) (fun x=>by kernel_rfl)
end Go.Proofs.Ytlgjbfdojbmmgaa
