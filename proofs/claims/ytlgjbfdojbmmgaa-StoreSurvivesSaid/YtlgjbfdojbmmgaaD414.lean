/- More functions of this cut as functions of plain typed data. Printed by a program of this claim's prover; each is checked here to be what the executor makes of the code. -/
import Derived.Test.YtlgjbfdojbmmgaaD413
set_option linter.unusedVariables false
set_option maxRecDepth 100000
noncomputable section
namespace Go.Proofs.Ytlgjbfdojbmmgaa
open Go.SX
def zbG (x2:List l14_Do) (x7:Int) (s:(Int×Int×Vault×(List (List Int)))):Option ((Int×Int×Vault×(List (List Int)))⊕Unit⊕Bool) :=
 if (decide (s.2.1<(List.length x2:Int)))&&(decide (s.2.1<(60:Int))) then
 (getO x2 s.2.1).bind fun v21=>(remO (l14_Do.Kind v21) (6:Int)).bind fun v23=>let v24:Bool:=decide (v23=(0:Int))
 zbc (if bif v24 then v24 else decide (v23=(1:Int)) then
 (remO (w64 (l14_Do.At v21)) x7).bind fun v28=>(zbX s.2.2.1 v28 (l14_Do.Val v21)).bind fun v30=>some (Sum.inl (s.1,v30.2,s.2.2.2,v30.1))
 else
 zbc (if decide (v23=(2:Int)) then
 (zer s.2.2.1).bind fun v27=>(rngO (List.length s.2.2.2:Int) (0:Int) (w64 ((Vault.Span s.2.2.1) + (1:Int)))).bind fun v33=>(eqiO (w64 ((Vault.Span s.2.2.1) + (1:Int))) v33).bind fun v34=>(zaG v27.1).bind fun v35=>(subO s.2.2.2 (0:Int) v34).bind fun v37=>(appO 24 v37 ([v35]:List (List Int))).bind fun v38=>some (Sum.inl (s.1,v27.2,v38,v27.1))
 else
 zbc (if decide (v23=(3:Int)) then
 (remO (w64 (l14_Do.To v21)) (w64 ((w64 ((Vault.Span s.2.2.1) - s.1)) + (1:Int)))).bind fun v33=>let v34:Int:=w64 (s.1 + v33)
 (zcm s.2.2.1 v34).bind fun v35=>((zaG v35.1).bind fun v37=>(idxO (List.length s.2.2.2:Int) v34).bind fun v38=>(getO s.2.2.2 v38).bind fun v39=>(zcE v37 v39).bind fun v40=>if !v40 then
 some (true)
 else
 some ((!decide ((Vault.Span v35.1)=v34))):Option Bool).bind fun v37=>if v37 then
 some (Sum.inr (Sum.inr (Sum.inr (Sum.inr (Sum.inr (false))))))
 else
 some (Sum.inl (s.1,v35.2,v35.1))
 else
 zbc (if decide (v23=(4:Int)) then
 (remO (w64 (l14_Do.To v21)) (w64 ((w64 ((Vault.Span s.2.2.1) - s.1)) + (1:Int)))).bind fun v34=>let v35:Int:=w64 (s.1 + v34)
 (zep s.2.2.1 v35).bind fun v36=>(zaG v36.1).bind fun v38=>(zaG s.2.2.1).bind fun v39=>(zcE v38 v39).bind fun v40=>if !v40 then
 some (Sum.inr (Sum.inr (Sum.inr (Sum.inr (Sum.inr (Sum.inr (false)))))))
 else
 some (Sum.inl (v35,v36.2,v36.1))
 else
 (remO (w64 (l14_Do.At v21)) (List.length (Banks.Rows (Vault.Banks s.2.2.1)):Int)).bind fun v34=>(zen s.2.2.1 v34).bind fun v35=>(zbX v35.1 (0:Int) (1:Int)).bind fun v37=>(zcm v35.1 s.1).bind fun v39=>(zb3 v35.1).bind fun v41=>(if !decide (v35.2=(0:Int)) then
 some (true)
 else
 if !decide (v37.2=(8:Int)) then
 some (true)
 else
 if !decide (v39.2=(8:Int)) then
 some (true)
 else
 (zht v41.1 s.2.2.1).bind fun v46=>some ((!v46)):Option Bool).bind fun v43=>if v43 then
 some (Sum.inr (Sum.inr (Sum.inr (Sum.inr (Sum.inr (Sum.inr (false)))))))
 else
 some (Sum.inl (s.1,v41.2,v41.1)):Option ((Int×Int×Vault)⊕(Int×Int×Vault)⊕(Int×Int×(List (List Int))×Vault)⊕(Int×Int×(List (List Int))×Vault)⊕(Int×Int×Vault×(List (List Int)))⊕Unit⊕Bool)) fun v29=>some (Sum.inl (v29.1,v29.2.1,v29.2.2)):Option ((Int×Int×Vault)⊕(Int×Int×(List (List Int))×Vault)⊕(Int×Int×(List (List Int))×Vault)⊕(Int×Int×Vault×(List (List Int)))⊕Unit⊕Bool)) fun v28=>some (Sum.inl (v28.1,v28.2.1,s.2.2.2,v28.2.2)):Option ((Int×Int×(List (List Int))×Vault)⊕(Int×Int×(List (List Int))×Vault)⊕(Int×Int×Vault×(List (List Int)))⊕Unit⊕Bool)) fun v27=>some (Sum.inl (v27.1,v27.2.1,v27.2.2.1,v27.2.2.2)):Option ((Int×Int×(List (List Int))×Vault)⊕(Int×Int×Vault×(List (List Int)))⊕Unit⊕Bool)) fun v26=>(if !decide (v26.2.1=(0:Int)) then
 some (true)
 else
 (zaT v26.2.2.2).bind fun v31=>some ((!v31)):Option Bool).bind fun v30=>if v30 then
 some (Sum.inr (Sum.inr (false)))
 else
 some (Sum.inl (v26.1,w64 (s.2.1 + (1:Int)),v26.2.2.2,v26.2.2.1))
 else
 some (Sum.inr (Sum.inl ()))
def zcr (p0:Int) (p1:Int) (p2:List l14_Do):Option Bool :=
 if !zjM then
 some (false)
 else
 (remO p0 (16:Int)).bind fun v5=>let v7:Int:=w64 ((w64 v5) + (1:Int))
 (remO p1 (8:Int)).bind fun v8=>(zg9 v7 (w64 ((w64 v8) + (1:Int)))).bind fun v11=>if !decide (v11.2=(0:Int)) then
 some (false)
 else
 (zaG v11.1).bind fun v14=>zbc (zaz (zbG p2 v7) ((0:Int),(0:Int),v11.1,([v14]:List (List Int))):Option (Unit⊕Bool)) fun v16=>some (true)
def zbi:FnT:=⟨[.int .u8,.int .u8,.sl ze2],[.bool],fun x=>zcr x.1 x.2.1 x.2.2⟩
def zdm:TA :=
 .callp 10 zga [] 1<|.prim (.un .not) [.v 3]<|.ite (.v 4) (.jmp 0 false [.c (.bool false)]) (.prim (.bin .rem) [.v 0,.c (.int .u8 16)]<|.prim (.conv .i64) [.v 5]<|.prim (.bin .add) [.v 6,.c (.int .i64 1)]<|.prim (.bin .rem) [.v 1,.c (.int .u8 8)]<|.prim (.conv .i64) [.v 8]<|.prim (.bin .add) [.v 9,.c (.int .i64 1)]<|.call 19 zgt [.v 7,.v 10] 2<|.prim (.bin .neq) [.v 12,.c (.int .i64 0)]<|.ite (.v 13) (.jmp 0 false [.c (.bool false)]) (.call 26 zaC [.v 11] 1<|.mkL (.sl (.int .u32)) [.v 14]<|.sub1 [] (.loop [.int .i64,.int .i64,zas,.sl (.sl (.int .u32))] [.c (.int .i64 0),.c (.int .i64 0),.v 11,.v 15] (.subp [.bool] (.prim .len [.v 2]<|.prim (.bin .lss) [.v 17,.v 20]<|.ite (.v 21) (.prim (.bin .lss) [.v 17,.c (.int .i64 60)]<|.jmp 0 false [.v 22]) (.jmp 0 false [.c (.bool false)])) 1<|.ite (.v 20) (.prim .get [.v 2,.v 17]<|.prim (.fld 0) [.v 21]<|.prim (.bin .rem) [.v 22,.c (.int .u8 6)]<|.prim (.bin .eql) [.v 23,.c (.int .u8 0)]<|.subp [.bool] (.ite (.v 24) (.jmp 0 false [.v 24]) (.prim (.bin .eql) [.v 23,.c (.int .u8 1)]<|.jmp 0 false [.v 25])) 1<|.sub1 [.int .i64,.int .i64,.sl (.sl (.int .u32)),zas] (.ite (.v 25) (.prim (.fld 1) [.v 21]<|.prim (.conv .i64) [.v 26]<|.prim (.bin .rem) [.v 27,.v 7]<|.prim (.fld 3) [.v 21]<|.call 12 zb4 [.v 18,.v 28,.v 29] 2<|.jmp 0 false [.v 16,.v 31,.v 19,.v 30]) (.prim (.bin .eql) [.v 23,.c (.int .u8 2)]<|.sub1 [.int .i64,.int .i64,.sl (.sl (.int .u32)),zas] (.ite (.v 26) (.call 28 zfp [.v 18] 2<|.prim (.fld 2) [.v 18]<|.prim (.bin .add) [.v 29,.c (.int .i64 1)]<|.prim (.fld 2) [.v 18]<|.prim (.bin .add) [.v 31,.c (.int .i64 1)]<|.prim .rng [.v 19,.c (.int .i64 0),.v 30]<|.prim .eqi [.v 32,.v 33]<|.call 26 zaC [.v 27] 1<|.mkL (.sl (.int .u32)) [.v 35]<|.prim .sub [.v 19,.c (.int .i64 0),.v 34]<|.prim (.app 24) [.v 37,.v 36]<|.jmp 0 false [.v 16,.v 28,.v 38,.v 27]) (.prim (.bin .eql) [.v 23,.c (.int .u8 3)]<|.sub1 [.int .i64,.int .i64,zas] (.ite (.v 27) (.prim (.fld 2) [.v 21]<|.prim (.conv .i64) [.v 28]<|.prim (.fld 2) [.v 18]<|.prim (.bin .sub) [.v 30,.v 16]<|.prim (.bin .add) [.v 31,.c (.int .i64 1)]<|.prim (.bin .rem) [.v 29,.v 32]<|.prim (.bin .add) [.v 16,.v 33]<|.call 15 zcJ [.v 18,.v 34] 2<|.sub0 [.bool] (.call 26 zaC [.v 35] 1<|.prim .idx [.v 19,.v 34]<|.prim .get [.v 19,.v 38]<|.call 25 zdo [.v 37,.v 39] 1<|.prim (.un .not) [.v 40]<|.ite (.v 41) (.jmp 0 false [.c (.bool true)]) (.prim (.fld 2) [.v 35]<|.prim (.bin .neq) [.v 42,.v 34]<|.jmp 0 false [.v 43])) 1<|.ite (.v 37) (.jmp 5 false [.c (.bool false)]) (.jmp 0 false [.v 16,.v 36,.v 35])) (.prim (.bin .eql) [.v 23,.c (.int .u8 4)]<|.sub1 [.int .i64,.int .i64,zas] (.ite (.v 28) (.prim (.fld 2) [.v 21]<|.prim (.conv .i64) [.v 29]<|.prim (.fld 2) [.v 18]<|.prim (.bin .sub) [.v 31,.v 16]<|.prim (.bin .add) [.v 32,.c (.int .i64 1)]<|.prim (.bin .rem) [.v 30,.v 33]<|.prim (.bin .add) [.v 16,.v 34]<|.call 17 zfl [.v 18,.v 35] 2<|.call 26 zaC [.v 36] 1<|.call 26 zaC [.v 18] 1<|.call 25 zdo [.v 38,.v 39] 1<|.prim (.un .not) [.v 40]<|.ite (.v 41) (.jmp 6 false [.c (.bool false)]) (.jmp 0 false [.v 35,.v 37,.v 36])) (.prim (.fld 1) [.v 21]<|.prim (.conv .i64) [.v 29]<|.prim (.fld 0) [.v 18]<|.prim (.fld 0) [.v 31]<|.prim .len [.v 32]<|.prim (.bin .rem) [.v 30,.v 33]<|.call 29 zfk [.v 18,.v 34] 2<|.call 12 zb4 [.v 35,.c (.int .i64 0),.c (.int .u32 1)] 2<|.call 15 zcJ [.v 35,.v 16] 2<|.call 30 zdA [.v 35] 2<|.sub0 [.bool] (.prim (.bin .neq) [.v 36,.c (.int .i64 0)]<|.ite (.v 43) (.jmp 0 false [.c (.bool true)]) (.prim (.bin .neq) [.v 38,.c (.int .i64 8)]<|.ite (.v 44) (.jmp 0 false [.c (.bool true)]) (.prim (.bin .neq) [.v 40,.c (.int .i64 8)]<|.ite (.v 45) (.jmp 0 false [.c (.bool true)]) (.call 14 zh7 [.v 41,.v 18] 1<|.prim (.un .not) [.v 46]<|.jmp 0 false [.v 47])))) 1<|.ite (.v 43) (.jmp 6 false [.c (.bool false)]) (.jmp 0 false [.v 16,.v 42,.v 41]))) 3<|.jmp 0 false [.v 29,.v 30,.v 31])) 3<|.jmp 0 false [.v 28,.v 29,.v 19,.v 30])) 4<|.jmp 0 false [.v 27,.v 28,.v 29,.v 30])) 4<|.sub0 [.bool] (.prim (.bin .neq) [.v 27,.c (.int .i64 0)]<|.ite (.v 30) (.jmp 0 false [.c (.bool true)]) (.call 24 zal [.v 29] 1<|.prim (.un .not) [.v 31]<|.jmp 0 false [.v 32])) 1<|.ite (.v 30) (.jmp 2 false [.c (.bool false)]) (.prim (.bin .add) [.v 17,.c (.int .i64 1)]<|.jmp 0 true [.v 26,.v 31,.v 29,.v 28])) (.jmp 1 false []))) 0<|.jmp 0 false [.c (.bool true)]))
theorem zgp:zaH cx 12 4=some zdm.erase:=by kernel_rfl
theorem zgx:FnOk cx 12 noC 4 zbi:=zci (t:=zdm) zgp (fun _=>rfl) (zb7 [(10,zga.fn),(19,zgt),(26,zaC),(12,zb4),(28,zfp),(26,zaC),(15,zcJ),(26,zaC),(25,zdo),(17,zfl),(26,zaC),(26,zaC),(25,zdo),(29,zfk),(12,zb4),(15,zcJ),(30,zdA),(14,zh7),(24,zal)] (by kernel_rfl) (.cons zoU (.cons zpX (.cons zb8 (.cons zg7 (.cons zn7 (.cons zb8 (.cons zil (.cons zb8 (.cons zjQ (.cons zoz (.cons zb8 (.cons zb8 (.cons zjQ (.cons znt (.cons zg7 (.cons zil (.cons zjC (.cons zrt (.cons zbe .nil)))))))))))))))))))) (fun x=>by kernel_rfl)
end Go.Proofs.Ytlgjbfdojbmmgaa
