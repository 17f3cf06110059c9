/- More functions of this cut as functions of plain typed data. Printed by a program of this claim's prover; each is checked here to be what the executor makes of the code. -/
import Derived.Test.YtlgjbfdojbmmgaaD33w
set_option linter.unusedVariables false
set_option maxRecDepth 100000
noncomputable section
namespace Go.Proofs.Ytlgjbfdojbmmgaa
open Go.SX
def zaI (x26:Int) (s:(Int×Proto)):Option ((Int×Proto)⊕Proto⊕Bool) :=
 if decide (s.1<(List.length (Proto.State s.2):Int)) then
 (getO (Proto.State s.2) s.1).bind fun v33=>(getO v33 x26).bind fun v34=>zbD (if decide ((2:Int)≤v34) then
 (zbL s.2 s.1 x26).bind fun v36=>(zee v36.1).bind fun v38=>(if !decide (v36.2=(0:Int)) then
 some (true)
 else
 if !v38.2 then
 some (true)
 else
 (getO (Proto.State v38.1) s.1).bind fun v43=>(getO v43 x26).bind fun v44=>some ((!decide (v44=(0:Int)))):Option Bool).bind fun v40=>if v40 then
 some (Sum.inr (Sum.inr (Sum.inr (false))))
 else
 some (Sum.inl v38.1)
 else
 some (Sum.inl s.2):Option (Proto⊕(Int×Proto)⊕Proto⊕Bool)) fun v36=>some (Sum.inl (w64 (s.1 + (1:Int)),v36))
 else
 some (Sum.inr (Sum.inl s.2))
def za4 (x2:List l10_Act) (s:(Int×Proto×(List Int))):Option ((Int×Proto×(List Int))⊕(Proto×(List Int))) :=
 if (decide (s.1<(x2.length:Int)))&&(decide (s.1<(100:Int))) then
 (getO x2 s.1).bind fun v23=>(zrn s.2.1 v23).bind fun v24=>((getO x2 s.1).bind fun v26=>(remO (l10_Act.Kind v26) (8:Int)).bind fun v28=>if decide (v28=(3:Int)) then
 some ((decide (v24.2=(0:Int))))
 else
 some (false):Option Bool).bind fun v26=>(if v26 then
 (getO x2 s.1).bind fun v27=>(remO (w64 (l10_Act.Line v27)) (List.length s.2.2:Int)).bind fun v31=>(getO x2 s.1).bind fun v32=>(idxO (List.length s.2.2:Int) v31).bind fun v34=>(setO s.2.2 v34 (l10_Act.Val v32)).bind fun v35=>some (v35)
 else
 some (s.2.2):Option (List Int)).bind fun v27=>some (Sum.inl (w64 (s.1 + (1:Int)),v24.1,v27))
 else
 some (Sum.inr ((s.2.1,s.2.2)))
def zfo (p0:Int) (p1:Int) (p2:List l10_Act) (p3:Int) (p4:Int):Option Bool :=
 if !zlk then
 some (false)
 else
 (remO p0 (4:Int)).bind fun v7=>(remO p1 (4:Int)).bind fun v10=>(zik (w64 ((w64 v7) + (1:Int))) (w64 ((w64 v10) + (1:Int)))).bind fun v13=>if !decide (v13.2=(0:Int)) then
 some (false)
 else
 let v17:Int:=(List.length (Proto.Home v13.1):Int)
 (repO (0:Int) 4 v17 v17).bind fun v18=>(zaj (za4 p2) ((0:Int),v13.1,v18):Option (Proto×(List Int))).bind fun v19=>(zee v19.1).bind fun v21=>if !v21.2 then
 some (false)
 else
 (remO (w64 p3) (List.length v19.2:Int)).bind fun v26=>zbD (zaj (zaI v26) ((0:Int),v21.1):Option (Proto⊕Bool)) fun v27=>(remO (w64 p4) (List.length (Proto.Wait v27):Int)).bind fun v31=>(zbx v27 v31 v26 false).bind fun v32=>(zee v32.1).bind fun v34=>(zgu v34.1 v31 v26).bind fun v36=>(if v34.2 then
 (getO (Proto.Home v27) v26).bind fun v39=>(idxO (List.length v19.2:Int) v26).bind fun v40=>(getO v19.2 v40).bind fun v41=>if decide (v39=v41) then
 (getO (Proto.Dir v27) v26).bind fun v44=>if decide ((Entry.Owner v44)=(0:Int)) then
 if decide (v36.2=(0:Int)) then
 (idxO (List.length v19.2:Int) v26).bind fun v48=>(getO v19.2 v48).bind fun v49=>some ((decide (v36.1=v49)))
 else
 some (false)
 else
 some (false)
 else
 some (false)
 else
 some (false):Option Bool).bind fun v38=>some (v38)
def zck:FnT:=⟨[.int .u8,.int .u8,.sl zgO,.int .u8,.int .u8],[.bool],fun x=>zfo x.1 x.2.1 x.2.2.1 x.2.2.2.1 x.2.2.2.2⟩
def zfH:TA :=
 .callp 39 zh2 [] 1<|.prim (.un .not) [.v 5]<|.ite (.v 6) (.jmp 0 false [.c (.bool false)]) (.prim (.bin .rem) [.v 0,.c (.int .u8 4)]<|.prim (.conv .i64) [.v 7]<|.prim (.bin .add) [.v 8,.c (.int .i64 1)]<|.prim (.bin .rem) [.v 1,.c (.int .u8 4)]<|.prim (.conv .i64) [.v 10]<|.prim (.bin .add) [.v 11,.c (.int .i64 1)]<|.call 40 zha [.v 9,.v 12] 2<|.prim (.bin .neq) [.v 14,.c (.int .i64 0)]<|.ite (.v 15) (.jmp 0 false [.c (.bool false)]) (.prim (.fld 3) [.v 13]<|.prim .len [.v 16]<|.primH (.rep (.int .u32 0) 4) (.sl (.int .u32)) [.v 17,.v 17]<|.sub0 [zaK,.sl (.int .u32)] (.loop [.int .i64,zaK,.sl (.int .u32)] [.c (.int .i64 0),.v 13,.v 18] (.subp [.bool] (.prim .len [.v 2]<|.prim (.bin .lss) [.v 19,.v 22]<|.ite (.v 23) (.prim (.bin .lss) [.v 19,.c (.int .i64 100)]<|.jmp 0 false [.v 24]) (.jmp 0 false [.c (.bool false)])) 1<|.ite (.v 22) (.prim .get [.v 2,.v 19]<|.call 41 zoc [.v 20,.v 23] 2<|.sub0 [.bool] (.prim .get [.v 2,.v 19]<|.prim (.fld 0) [.v 26]<|.prim (.bin .rem) [.v 27,.c (.int .u8 8)]<|.prim (.bin .eql) [.v 28,.c (.int .u8 3)]<|.ite (.v 29) (.prim (.bin .eql) [.v 25,.c (.int .i64 0)]<|.jmp 0 false [.v 30]) (.jmp 0 false [.c (.bool false)])) 1<|.sub0 [.sl (.int .u32)] (.ite (.v 26) (.prim .get [.v 2,.v 19]<|.prim (.fld 2) [.v 27]<|.prim (.conv .i64) [.v 28]<|.prim .len [.v 21]<|.prim (.bin .rem) [.v 29,.v 30]<|.prim .get [.v 2,.v 19]<|.prim (.fld 5) [.v 32]<|.prim .idx [.v 21,.v 31]<|.prim .set [.v 21,.v 34,.v 33]<|.jmp 0 false [.v 35]) (.jmp 0 false [.v 21])) 1<|.prim (.bin .add) [.v 19,.c (.int .i64 1)]<|.jmp 0 true [.v 28,.v 24,.v 27]) (.jmp 1 false [.v 20,.v 21]))) 2<|.call 44 zcy [.v 19] 2<|.prim (.un .not) [.v 22]<|.ite (.v 23) (.jmp 0 false [.c (.bool false)]) (.prim (.conv .i64) [.v 3]<|.prim .len [.v 20]<|.prim (.bin .rem) [.v 24,.v 25]<|.sub1 [zaK] (.loop [.int .i64,zaK] [.c (.int .i64 0),.v 21] (.prim (.fld 0) [.v 28]<|.prim .len [.v 29]<|.prim (.bin .lss) [.v 27,.v 30]<|.ite (.v 31) (.prim (.fld 0) [.v 28]<|.prim .get [.v 32,.v 27]<|.prim .get [.v 33,.v 26]<|.prim (.bin .geq) [.v 34,.c (.int .i64 2)]<|.sub1 [zaK] (.ite (.v 35) (.call 46 zco [.v 28,.v 27,.v 26] 2<|.call 44 zcy [.v 36] 2<|.sub0 [.bool] (.prim (.bin .neq) [.v 37,.c (.int .i64 0)]<|.ite (.v 40) (.jmp 0 false [.c (.bool true)]) (.prim (.un .not) [.v 39]<|.ite (.v 41) (.jmp 0 false [.c (.bool true)]) (.prim (.fld 0) [.v 38]<|.prim .get [.v 42,.v 27]<|.prim .get [.v 43,.v 26]<|.prim (.bin .neq) [.v 44,.c (.int .i64 0)]<|.jmp 0 false [.v 45]))) 1<|.ite (.v 40) (.jmp 3 false [.c (.bool false)]) (.jmp 0 false [.v 38])) (.jmp 0 false [.v 28])) 1<|.prim (.bin .add) [.v 27,.c (.int .i64 1)]<|.jmp 0 true [.v 37,.v 36]) (.jmp 1 false [.v 28]))) 1<|.prim (.conv .i64) [.v 4]<|.prim (.fld 2) [.v 27]<|.prim .len [.v 29]<|.prim (.bin .rem) [.v 28,.v 30]<|.call 45 zc8 [.v 27,.v 31,.v 26,.c (.bool false)] 2<|.call 44 zcy [.v 32] 2<|.call 43 zhY [.v 34,.v 31,.v 26] 2<|.sub0 [.bool] (.ite (.v 35) (.prim (.fld 3) [.v 27]<|.prim .get [.v 38,.v 26]<|.prim .idx [.v 20,.v 26]<|.prim .get [.v 20,.v 40]<|.prim (.bin .eql) [.v 39,.v 41]<|.ite (.v 42) (.prim (.fld 4) [.v 27]<|.prim .get [.v 43,.v 26]<|.prim (.fld 0) [.v 44]<|.prim (.bin .eql) [.v 45,.c (.int .i64 0)]<|.ite (.v 46) (.prim (.bin .eql) [.v 37,.c (.int .i64 0)]<|.ite (.v 47) (.prim .idx [.v 20,.v 26]<|.prim .get [.v 20,.v 48]<|.prim (.bin .eql) [.v 36,.v 49]<|.jmp 0 false [.v 50]) (.jmp 0 false [.c (.bool false)])) (.jmp 0 false [.c (.bool false)])) (.jmp 0 false [.c (.bool false)])) (.jmp 0 false [.c (.bool false)])) 1<|.jmp 0 false [.v 38])))
theorem zlD:zao cx 12 8=some zfH.erase:=by kernel_rfl
theorem zkO:FnOk cx 12 noC 8 zck:=zbv (t:=zfH) zlD (fun _=>rfl) (za3 [(39,zh2.fn),(40,zha),(41,zoc),(44,zcy),(46,zco),(44,zcy),(45,zc8),(44,zcy),(43,zhY)] (by kernel_rfl) (.cons zp0 (.cons zp6 (.cons zvP (.cons zjd (.cons ziz (.cons zjd (.cons zjE (.cons zjd (.cons zqA .nil)))))))))) (fun x=>by kernel_rfl)
end Go.Proofs.Ytlgjbfdojbmmgaa
