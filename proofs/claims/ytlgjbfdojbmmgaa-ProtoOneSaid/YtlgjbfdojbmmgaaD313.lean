/- More functions of this cut as functions of plain typed data. Printed by a program of this claim's prover; each is checked here to be what the executor makes of the code. -/
import Derived.Test.YtlgjbfdojbmmgaaD31w
set_option linter.unusedVariables false
set_option maxRecDepth 100000
noncomputable section
namespace Go.Proofs.Ytlgjbfdojbmmgaa
open Go.SX
def zbH (x22:Proto) (x25:List Int) (x26:Int) (s:(Int×Int×Int)):Option ((Int×Int×Int)⊕(Int×Int)⊕Int⊕Unit⊕(Int×Proto×(List Int))⊕Unit⊕Bool) :=
 if decide (s.2.2<(List.length (Proto.Wait x22):Int)) then
 (zdO x22 s.2.2 x26 true).bind fun v35=>(zdO x22 s.2.2 x26 false).bind fun v37=>zbP (if v37 then
 (zgo x22 s.2.2 x26).bind fun v39=>(if !decide (v39.2=(0:Int)) then
 some (true)
 else
 (idxO (List.length x25:Int) x26).bind fun v42=>(getO x25 v42).bind fun v43=>some ((!decide (v39.1=v43))):Option Bool).bind fun v41=>if v41 then
 some (Sum.inr (Sum.inr (Sum.inr (Sum.inr (Sum.inr (Sum.inr (Sum.inr (false))))))))
 else
 some (Sum.inl (w64 (s.1 + (1:Int))))
 else
 some (Sum.inl s.1):Option (Int⊕(Int×Int×Int)⊕(Int×Int)⊕Int⊕Unit⊕(Int×Proto×(List Int))⊕Unit⊕Bool)) fun v38=>some (Sum.inl (v38,bif v35 then w64 (s.2.1 + (1:Int)) else s.2.1,w64 (s.2.2 + (1:Int))))
 else
 some (Sum.inr (Sum.inl (s.1,s.2.1)))
def zbA (x22:Proto) (x25:List Int) (s:Int):Option (Int⊕Unit⊕(Int×Proto×(List Int))⊕Unit⊕Bool) :=
 if decide (s<(List.length x25:Int)) then
 zbP (zal (zbH x22 x25 s) ((0:Int),(0:Int),(0:Int)):Option ((Int×Int)⊕Int⊕Unit⊕(Int×Proto×(List Int))⊕Unit⊕Bool)) fun v29=>if (decide ((1:Int)<v29.2))||((decide (v29.2=(1:Int)))&&(decide ((1:Int)<v29.1))) then
 some (Sum.inr (Sum.inr (Sum.inr (Sum.inr (false)))))
 else
 some (Sum.inl (w64 (s + (1:Int))))
 else
 some (Sum.inr (Sum.inl ()))
def zaR (x2:List l10_Act) (s:(Int×Proto×(List Int))):Option ((Int×Proto×(List Int))⊕Unit⊕Bool) :=
 if (decide (s.1<(List.length x2:Int)))&&(decide (s.1<(150:Int))) then
 (getO x2 s.1).bind fun v21=>(zrQ s.2.1 v21).bind fun v22=>((getO x2 s.1).bind fun v24=>(remO (l10_Act.Kind v24) (8:Int)).bind fun v26=>if decide (v26=(3:Int)) then
 some ((decide (v22.2=(0:Int))))
 else
 some (false):Option Bool).bind fun v24=>(if v24 then
 (getO x2 s.1).bind fun v25=>(remO (w64 (l10_Act.Line v25)) (List.length s.2.2:Int)).bind fun v29=>(getO x2 s.1).bind fun v30=>(idxO (List.length s.2.2:Int) v29).bind fun v32=>(setO s.2.2 v32 (l10_Act.Val v30)).bind fun v33=>some (v33)
 else
 some (s.2.2):Option (List Int)).bind fun v25=>zbP (zal (zbA v22.1 v25) (0:Int):Option (Unit⊕(Int×Proto×(List Int))⊕Unit⊕Bool)) fun v26=>some (Sum.inl (w64 (s.1 + (1:Int)),v22.1,v25))
 else
 some (Sum.inr (Sum.inl ()))
def zgl (p0:Int) (p1:Int) (p2:List l10_Act):Option Bool :=
 if !zkH then
 some (false)
 else
 (remO p0 (4:Int)).bind fun v5=>(remO p1 (4:Int)).bind fun v8=>(ziO (w64 ((w64 v5) + (1:Int))) (w64 ((w64 v8) + (1:Int)))).bind fun v11=>if !decide (v11.2=(0:Int)) then
 some (false)
 else
 let v15:Int:=(List.length (Proto.Home v11.1):Int)
 (repO (0:Int) 4 v15 v15).bind fun v16=>zbP (zal (zaR p2) ((0:Int),v11.1,v16):Option (Unit⊕Bool)) fun v17=>some (true)
def zcP:FnT:=⟨[.int .u8,.int .u8,.sl zd2],[.bool],fun x=>zgl x.1 x.2.1 x.2.2⟩
def zg4:TA :=
 .callp 39 zhy [] 1<|.prim (.un .not) [.v 3]<|.ite (.v 4) (.jmp 0 false [.c (.bool false)]) (.prim (.bin .rem) [.v 0,.c (.int .u8 4)]<|.prim (.conv .i64) [.v 5]<|.prim (.bin .add) [.v 6,.c (.int .i64 1)]<|.prim (.bin .rem) [.v 1,.c (.int .u8 4)]<|.prim (.conv .i64) [.v 8]<|.prim (.bin .add) [.v 9,.c (.int .i64 1)]<|.call 40 zhD [.v 7,.v 10] 2<|.prim (.bin .neq) [.v 12,.c (.int .i64 0)]<|.ite (.v 13) (.jmp 0 false [.c (.bool false)]) (.prim (.fld 3) [.v 11]<|.prim .len [.v 14]<|.primH (.rep (.int .u32 0) 4) (.sl (.int .u32)) [.v 15,.v 15]<|.sub1 [] (.loop [.int .i64,zaD,.sl (.int .u32)] [.c (.int .i64 0),.v 11,.v 16] (.subp [.bool] (.prim .len [.v 2]<|.prim (.bin .lss) [.v 17,.v 20]<|.ite (.v 21) (.prim (.bin .lss) [.v 17,.c (.int .i64 150)]<|.jmp 0 false [.v 22]) (.jmp 0 false [.c (.bool false)])) 1<|.ite (.v 20) (.prim .get [.v 2,.v 17]<|.call 41 znT [.v 18,.v 21] 2<|.sub0 [.bool] (.prim .get [.v 2,.v 17]<|.prim (.fld 0) [.v 24]<|.prim (.bin .rem) [.v 25,.c (.int .u8 8)]<|.prim (.bin .eql) [.v 26,.c (.int .u8 3)]<|.ite (.v 27) (.prim (.bin .eql) [.v 23,.c (.int .i64 0)]<|.jmp 0 false [.v 28]) (.jmp 0 false [.c (.bool false)])) 1<|.sub0 [.sl (.int .u32)] (.ite (.v 24) (.prim .get [.v 2,.v 17]<|.prim (.fld 2) [.v 25]<|.prim (.conv .i64) [.v 26]<|.prim .len [.v 19]<|.prim (.bin .rem) [.v 27,.v 28]<|.prim .get [.v 2,.v 17]<|.prim (.fld 5) [.v 30]<|.prim .idx [.v 19,.v 29]<|.prim .set [.v 19,.v 32,.v 31]<|.jmp 0 false [.v 33]) (.jmp 0 false [.v 19])) 1<|.sub1 [] (.loop [.int .i64] [.c (.int .i64 0)] (.prim .len [.v 25]<|.prim (.bin .lss) [.v 26,.v 27]<|.ite (.v 28) (.sub1 [.int .i64,.int .i64] (.loop [.int .i64,.int .i64,.int .i64] [.c (.int .i64 0),.c (.int .i64 0),.c (.int .i64 0)] (.prim (.fld 2) [.v 22]<|.prim .len [.v 32]<|.prim (.bin .lss) [.v 31,.v 33]<|.ite (.v 34) (.call 42 zdU [.v 22,.v 31,.v 26,.c (.bool true)] 1<|.subp [.int .i64] (.ite (.v 35) (.prim (.bin .add) [.v 30,.c (.int .i64 1)]<|.jmp 0 false [.v 36]) (.jmp 0 false [.v 30])) 1<|.call 42 zdU [.v 22,.v 31,.v 26,.c (.bool false)] 1<|.sub1 [.int .i64] (.ite (.v 37) (.prim (.bin .add) [.v 29,.c (.int .i64 1)]<|.call 43 zhe [.v 22,.v 31,.v 26] 2<|.sub0 [.bool] (.prim (.bin .neq) [.v 40,.c (.int .i64 0)]<|.ite (.v 41) (.jmp 0 false [.c (.bool true)]) (.prim .idx [.v 25,.v 26]<|.prim .get [.v 25,.v 42]<|.prim (.bin .neq) [.v 39,.v 43]<|.jmp 0 false [.v 44])) 1<|.ite (.v 41) (.jmp 7 false [.c (.bool false)]) (.jmp 0 false [.v 38])) (.jmp 0 false [.v 29])) 1<|.prim (.bin .add) [.v 31,.c (.int .i64 1)]<|.jmp 0 true [.v 38,.v 36,.v 39]) (.jmp 1 false [.v 29,.v 30]))) 2<|.subp [.bool] (.prim (.bin .gtr) [.v 30,.c (.int .i64 1)]<|.ite (.v 31) (.jmp 0 false [.c (.bool true)]) (.prim (.bin .eql) [.v 30,.c (.int .i64 1)]<|.ite (.v 32) (.prim (.bin .gtr) [.v 29,.c (.int .i64 1)]<|.jmp 0 false [.v 33]) (.jmp 0 false [.c (.bool false)]))) 1<|.ite (.v 31) (.jmp 4 false [.c (.bool false)]) (.prim (.bin .add) [.v 26,.c (.int .i64 1)]<|.jmp 0 true [.v 32])) (.jmp 1 false []))) 0<|.prim (.bin .add) [.v 17,.c (.int .i64 1)]<|.jmp 0 true [.v 26,.v 22,.v 25]) (.jmp 1 false []))) 0<|.jmp 0 false [.c (.bool true)]))
theorem zl7:zao cx 12 6=some zg4.erase:=by kernel_rfl
theorem zmr:FnOk cx 12 noC 6 zcP:=zbq (t:=zg4) zl7 (fun _=>rfl) (za3 [(39,zhy.fn),(40,zhD),(41,znT),(42,zdU),(42,zdU),(43,zhe)] (by kernel_rfl) (.cons zqO (.cons zpK (.cons zuV (.cons zkB (.cons zkB (.cons zpN .nil))))))) (fun x=>by kernel_rfl)
end Go.Proofs.Ytlgjbfdojbmmgaa
