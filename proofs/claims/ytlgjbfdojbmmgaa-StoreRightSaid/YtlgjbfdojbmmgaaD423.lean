/- More functions of this cut as functions of plain typed data. Printed by a program of this claim's prover; each is checked here to be what the executor makes of the code. -/
import Derived.Test.YtlgjbfdojbmmgaaD422
set_option linter.unusedVariables false
set_option maxRecDepth 100000
noncomputable section
namespace Go.Proofs.Ytlgjbfdojbmmgaa
open Go.SX
def zed (p0:Vault) (p1:Int) (p2:Int) (p3:Int) (p4:Int) (p5:Int) (p6:Int):Option Bool :=
 if !zkA then
 some (false)
 else
 (zic p0).bind fun v9=>if !v9 then
 some (true)
 else
 (ze4 p0 p1 p2).bind fun v11=>(zhN p0 p1 p2).bind fun v13=>((zcJ v11.1 v13.1).bind fun v15=>if !v15 then
 some (true)
 else
 some ((!decide (v11.2=v13.2))):Option Bool).bind fun v15=>if v15 then
 some (false)
 else
 (zgh p0 p3).bind fun v16=>(zkb p0 p3).bind fun v18=>((zcJ v16.1 v18.1).bind fun v20=>if !v20 then
 some (true)
 else
 some ((!decide (v16.2=v18.2))):Option Bool).bind fun v20=>if v20 then
 some (false)
 else
 (zgm p0 p3).bind fun v21=>(zkv p0 p3).bind fun v23=>((zcJ v21.1 v23.1).bind fun v25=>if !v25 then
 some (true)
 else
 some ((!decide (v21.2=v23.2))):Option Bool).bind fun v25=>if v25 then
 some (false)
 else
 (zhU p5 p6).bind fun v26=>(zoy p5 p6).bind fun v28=>((zcJ v26.1 v28.1).bind fun v30=>if !v30 then
 some (true)
 else
 some ((!decide (v26.2=v28.2))):Option Bool).bind fun v30=>if v30 then
 some (false)
 else
 (zex p0 p1).bind fun v31=>(zkn p0 p1).bind fun v33=>(zcc p0).bind fun v35=>(if !decide (v31.1=v33.1) then
 some (true)
 else
 if !decide (v31.2=v33.2) then
 some (true)
 else
 (za6 p0).bind fun v38=>if !decide (v38=v35) then
 some (true)
 else
 (zff p0).bind fun v40=>(zf6 p0).bind fun v41=>(zf2 v40 v41).bind fun v42=>some ((!v42)):Option Bool).bind fun v36=>if v36 then
 some (false)
 else
 (zgx p0).bind fun v37=>((zcJ v37.1 (bif v35&&(decide ((Vault.Span p0)<(1099511627776:Int))) then Vault.setSpan p0 (w64 ((Vault.Span p0) + (1:Int))) else p0)).bind fun v41=>if !v41 then
 some (true)
 else
 let v43:Bool:=decide (v37.2=(0:Int))
 if v35 then
 some ((!decide (v43=(decide ((Vault.Span p0)<(1099511627776:Int))))))
 else
 some ((!decide (v43=false))):Option Bool).bind fun v41=>if v41 then
 some (false)
 else
 (zgo p0 p4).bind fun v42=>(zc4 p0).bind fun v44=>if !v35 then
 (if decide (v42.2=(1:Int)) then
 if decide (v44.2=(1:Int)) then
 (zcJ v42.1 p0).bind fun v49=>if v49 then
 (zcJ v44.1 p0).bind fun v50=>some (v50)
 else
 some (false)
 else
 some (false)
 else
 some (false):Option Bool).bind fun v47=>some (v47)
 else
 (zj9 (Vault.Banks p0) p4).bind fun v48=>(zfe (Vault.Banks p0)).bind fun v51=>(if decide (v42.2=v48.2) then
 if decide (v44.2=v51.2) then
 (zfl (Vault.Banks v42.1) v48.1).bind fun v56=>if v56 then
 (zfl (Vault.Banks v44.1) v51.1).bind fun v58=>some (v58)
 else
 some (false)
 else
 some (false)
 else
 some (false):Option Bool).bind fun v53=>some (v53)
def zbX:FnT:=⟨[zaB,.int .i64,.int .u32,.int .i64,.int .i64,.int .i64,.int .i64],[.bool],fun x=>zed x.1 x.2.1 x.2.2.1 x.2.2.2.1 x.2.2.2.2.1 x.2.2.2.2.2.1 x.2.2.2.2.2.2⟩
def zfm:TA :=
 .callp 10 zgS [] 1<|.prim (.un .not) [.v 7]<|.ite (.v 8) (.jmp 0 false [.c (.bool false)]) (.call 11 zg7 [.v 0] 1<|.prim (.un .not) [.v 9]<|.ite (.v 10) (.jmp 0 false [.c (.bool true)]) (.call 12 zfb [.v 0,.v 1,.v 2] 2<|.call 13 zg5 [.v 0,.v 1,.v 2] 2<|.sub0 [.bool] (.call 14 zaK [.v 11,.v 13] 1<|.prim (.un .not) [.v 15]<|.ite (.v 16) (.jmp 0 false [.c (.bool true)]) (.prim (.bin .neq) [.v 12,.v 14]<|.jmp 0 false [.v 17])) 1<|.ite (.v 15) (.jmp 0 false [.c (.bool false)]) (.call 15 zfS [.v 0,.v 3] 2<|.call 16 zjh [.v 0,.v 3] 2<|.sub0 [.bool] (.call 14 zaK [.v 16,.v 18] 1<|.prim (.un .not) [.v 20]<|.ite (.v 21) (.jmp 0 false [.c (.bool true)]) (.prim (.bin .neq) [.v 17,.v 19]<|.jmp 0 false [.v 22])) 1<|.ite (.v 20) (.jmp 0 false [.c (.bool false)]) (.call 17 zfB [.v 0,.v 3] 2<|.call 18 zi2 [.v 0,.v 3] 2<|.sub0 [.bool] (.call 14 zaK [.v 21,.v 23] 1<|.prim (.un .not) [.v 25]<|.ite (.v 26) (.jmp 0 false [.c (.bool true)]) (.prim (.bin .neq) [.v 22,.v 24]<|.jmp 0 false [.v 27])) 1<|.ite (.v 25) (.jmp 0 false [.c (.bool false)]) (.call 19 zhp [.v 5,.v 6] 2<|.call 20 zlF [.v 5,.v 6] 2<|.sub0 [.bool] (.call 14 zaK [.v 26,.v 28] 1<|.prim (.un .not) [.v 30]<|.ite (.v 31) (.jmp 0 false [.c (.bool true)]) (.prim (.bin .neq) [.v 27,.v 29]<|.jmp 0 false [.v 32])) 1<|.ite (.v 30) (.jmp 0 false [.c (.bool false)]) (.call 21 zcV [.v 0,.v 1] 2<|.call 22 zi1 [.v 0,.v 1] 2<|.call 23 zaL [.v 0] 1<|.sub0 [.bool] (.prim (.bin .neq) [.v 31,.v 33]<|.ite (.v 36) (.jmp 0 false [.c (.bool true)]) (.prim (.bin .neq) [.v 32,.v 34]<|.ite (.v 37) (.jmp 0 false [.c (.bool true)]) (.call 24 zaq [.v 0] 1<|.prim (.bin .neq) [.v 38,.v 35]<|.ite (.v 39) (.jmp 0 false [.c (.bool true)]) (.call 26 zeW [.v 0] 1<|.call 27 zds [.v 0] 1<|.call 25 zhj [.v 40,.v 41] 1<|.prim (.un .not) [.v 42]<|.jmp 0 false [.v 43])))) 1<|.ite (.v 36) (.jmp 0 false [.c (.bool false)]) (.call 28 zft [.v 0] 2<|.subp [.bool] (.ite (.v 35) (.prim (.fld 2) [.v 0]<|.prim (.bin .lss) [.v 39,.c (.int .i64 1099511627776)]<|.jmp 0 false [.v 40]) (.jmp 0 false [.c (.bool false)])) 1<|.subp [zaB] (.ite (.v 39) (.prim (.fld 2) [.v 0]<|.prim (.bin .add) [.v 40,.c (.int .i64 1)]<|.prim (.setf 2) [.v 0,.v 41]<|.jmp 0 false [.v 42]) (.jmp 0 false [.v 0])) 1<|.sub0 [.bool] (.call 14 zaK [.v 37,.v 40] 1<|.prim (.un .not) [.v 41]<|.ite (.v 42) (.jmp 0 false [.c (.bool true)]) (.prim (.bin .eql) [.v 38,.c (.int .i64 0)]<|.ite (.v 35) (.prim (.fld 2) [.v 0]<|.prim (.bin .lss) [.v 44,.c (.int .i64 1099511627776)]<|.prim (.bin .neq) [.v 43,.v 45]<|.jmp 0 false [.v 46]) (.prim (.bin .neq) [.v 43,.c (.bool false)]<|.jmp 0 false [.v 44]))) 1<|.ite (.v 41) (.jmp 0 false [.c (.bool false)]) (.call 29 zfw [.v 0,.v 4] 2<|.call 30 zdQ [.v 0] 2<|.prim (.un .not) [.v 35]<|.ite (.v 46) (.sub0 [.bool] (.prim (.bin .eql) [.v 43,.c (.int .i64 1)]<|.ite (.v 47) (.prim (.bin .eql) [.v 45,.c (.int .i64 1)]<|.ite (.v 48) (.call 14 zaK [.v 42,.v 0] 1<|.ite (.v 49) (.call 14 zaK [.v 44,.v 0] 1<|.jmp 0 false [.v 50]) (.jmp 0 false [.c (.bool false)])) (.jmp 0 false [.c (.bool false)])) (.jmp 0 false [.c (.bool false)])) 1<|.jmp 0 false [.v 47]) (.prim (.fld 0) [.v 0]<|.call 31 ziC [.v 47,.v 4] 2<|.prim (.fld 0) [.v 0]<|.call 32 zeI [.v 50] 2<|.sub0 [.bool] (.prim (.bin .eql) [.v 43,.v 49]<|.ite (.v 53) (.prim (.bin .eql) [.v 45,.v 52]<|.ite (.v 54) (.prim (.fld 0) [.v 42]<|.call 33 zco [.v 55,.v 48] 1<|.ite (.v 56) (.prim (.fld 0) [.v 44]<|.call 33 zco [.v 57,.v 51] 1<|.jmp 0 false [.v 58]) (.jmp 0 false [.c (.bool false)])) (.jmp 0 false [.c (.bool false)])) (.jmp 0 false [.c (.bool false)])) 1<|.jmp 0 false [.v 53])))))))))
theorem zjY:zaj cx 12 3=some zfm.erase:=by kernel_rfl
theorem zj5:FnOk cx 12 noC 3 zbX:=zaQ (t:=zfm) zjY (fun _=>rfl) (zaN [(10,zgS.fn),(11,zg7),(12,zfb),(13,zg5),(14,zaK),(15,zfS),(16,zjh),(14,zaK),(17,zfB),(18,zi2),(14,zaK),(19,zhp),(20,zlF),(14,zaK),(21,zcV),(22,zi1),(23,zaL),(24,zaq),(26,zeW),(27,zds),(25,zhj),(28,zft),(14,zaK),(29,zfw),(30,zdQ),(14,zaK),(14,zaK),(31,ziC),(32,zeI),(33,zco),(33,zco)] (by kernel_rfl) (.cons zqU (.cons zq0 (.cons zoO (.cons zqQ (.cons zcr (.cons zpJ (.cons zt4 (.cons zcr (.cons zpX (.cons ztQ (.cons zcr (.cons zrD (.cons zvr (.cons zcr (.cons zjF (.cons zt8 (.cons zct (.cons zbn (.cons zoD (.cons zlg (.cons zrX (.cons zpZ (.cons zcr (.cons zpM (.cons zlX (.cons zcr (.cons zcr (.cons ztp (.cons znY (.cons zi4 (.cons zi4 .nil)))))))))))))))))))))))))))))))) (fun x=>by kernel_rfl)
end Go.Proofs.Ytlgjbfdojbmmgaa
