/- More functions of this cut as functions of plain typed data. Printed by a program of this claim's prover; each is checked here to be what the executor makes of the code. -/
import Derived.Test.YtlgjbfdojbmmgaaD411
set_option linter.unusedVariables false
set_option maxRecDepth 100000
noncomputable section
namespace Go.Proofs.Ytlgjbfdojbmmgaa
open Go.SX
def zdO (x0:Vault) (x3:Int) (s:(Int×(List Int))):Option ((Int×(List Int))⊕(List Int)) :=
 if decide (s.1<x3) then
 (za6 x0 s.1).bind fun v7=>(getO (Banks.Rows (Vault.Banks x0)) v7.1).bind fun v11=>(getO v11 v7.2).bind fun v12=>(appO 4 s.2 ([v12]:List Int)).bind fun v14=>some (Sum.inl (w64 (s.1 + (1:Int)),v14))
 else
 some (Sum.inr (s.2))
def zcm (p0:Vault):Option (List Int) :=
 (zbO p0).bind fun v1=>if !v1 then
 some (([]:List Int))
 else
 (zaA (zdO p0 (Vault.Words p0)) ((0:Int),([]:List Int)):Option (List Int)).bind fun v4=>some (v4)
def zel:FnT:=⟨[zay],[.sl (.int .u32)],fun x=>zcm x⟩
def zhf:TA :=
 .call 24 zaM [.v 0] 1<|.prim (.un .not) [.v 1]<|.ite (.v 2) (.jmp 0 false [.c .nil]) (.prim (.fld 1) [.v 0]<|.sub0 [.sl (.int .u32)] (.loop [.int .i64,.sl (.int .u32)] [.c (.int .i64 0),.c .nil] (.prim (.bin .lss) [.v 4,.v 3]<|.ite (.v 6) (.call 71 zaL [.v 0,.v 4] 2<|.prim (.fld 0) [.v 0]<|.prim (.fld 0) [.v 9]<|.prim .get [.v 10,.v 7]<|.prim .get [.v 11,.v 8]<|.mkL (.int .u32) [.v 12]<|.prim (.app 4) [.v 5,.v 13]<|.prim (.bin .add) [.v 4,.c (.int .i64 1)]<|.jmp 0 true [.v 15,.v 14]) (.jmp 1 false [.v 5]))) 1<|.jmp 0 false [.v 4])
theorem zlV:zaE cx 12 26=some zhf.erase:=by kernel_rfl
theorem zmg:FnOk cx 12 noC 26 zel:=zcf (t:=zhf) zlV (fun _=>rfl) (zbX [(24,zaM),(71,zaL)] (by kernel_rfl) (.cons zcS (.cons zcP .nil))) (fun x=>by kernel_rfl)
def zhi (x2:List (List Int)) (x3:Int) (s:(Int×(List (List Int)))):Option ((Int×(List (List Int)))⊕(List (List Int))) :=
 if decide (s.1<x3) then
 (getO x2 s.1).bind fun v7=>(zaD 4 v7).bind fun v8=>(appO 24 s.2 ([v8]:List (List Int))).bind fun v10=>some (Sum.inl (w64 (s.1 + (1:Int)),v10))
 else
 some (Sum.inr (s.2))
def zd9 (p0:Vault):Option (Vault×Int) :=
 (let v2:List (List Int):=Banks.Rows (Vault.Banks p0)
 let v3:Int:=(List.length v2:Int)
 (zaA (zhi v2 v3) ((0:Int),([]:List (List Int))):Option (List (List Int))).bind fun v4=>(zaD 4 (Banks.Par (Vault.Banks p0))).bind fun v7=>(zaD 24 (Vault.Lst p0)).bind fun v9=>some ((Banks.Lost (Vault.Banks p0),Vault.Words p0,Vault.Span p0,v4,v7,v9)):Option (Int×Int×Int×(List (List Int))×(List Int)×(List Undo))).bind fun v1=>((zbO p0).bind fun v7=>if !v7 then
 some (true)
 else
 some ((decide ((Vault.Span p0)=(1099511627776:Int)))):Option Bool).bind fun v7=>if v7 then
 some ((Vault.mk (Banks.mk v1.2.2.2.1 v1.2.2.2.2.1 v1.1) v1.2.1 v1.2.2.1 v1.2.2.2.2.2,(1:Int)))
 else
 some ((Vault.mk (Banks.mk v1.2.2.2.1 v1.2.2.2.2.1 v1.1) v1.2.1 (w64 (v1.2.2.1 + (1:Int))) v1.2.2.2.2.2,(0:Int)))
def zeN:FnT:=⟨[zay],[zay,.int .i64],fun x=>zd9 x⟩
def zik:TA :=
 .sub0 [.int .i64,.int .i64,.int .i64,.sl (.sl (.int .u32)),.sl (.int .u32),.sl zbs] (.prim (.fld 0) [.v 0]<|.prim (.fld 0) [.v 1]<|.prim .len [.v 2]<|.sub0 [.sl (.sl (.int .u32))] (.loop [.int .i64,.sl (.sl (.int .u32))] [.c (.int .i64 0),.c .nil] (.prim (.bin .lss) [.v 4,.v 3]<|.ite (.v 6) (.prim .get [.v 2,.v 4]<|.prim (.clone 4) [.v 7]<|.mkL (.sl (.int .u32)) [.v 8]<|.prim (.app 24) [.v 5,.v 9]<|.prim (.bin .add) [.v 4,.c (.int .i64 1)]<|.jmp 0 true [.v 11,.v 10]) (.jmp 1 false [.v 5]))) 1<|.prim (.fld 0) [.v 0]<|.prim (.fld 1) [.v 5]<|.prim (.clone 4) [.v 6]<|.prim (.fld 3) [.v 0]<|.prim (.clone 24) [.v 8]<|.prim (.fld 0) [.v 0]<|.prim (.fld 1) [.v 0]<|.prim (.fld 2) [.v 0]<|.prim (.fld 3) [.v 0]<|.prim (.fld 0) [.v 10]<|.prim (.fld 1) [.v 10]<|.prim (.fld 2) [.v 10]<|.jmp 0 false [.v 16,.v 11,.v 12,.v 4,.v 7,.v 9]) 6<|.sub0 [.bool] (.call 24 zaM [.v 0] 1<|.prim (.un .not) [.v 7]<|.ite (.v 8) (.jmp 0 false [.c (.bool true)]) (.prim (.fld 2) [.v 0]<|.prim (.bin .eql) [.v 9,.c (.int .i64 1099511627776)]<|.jmp 0 false [.v 10])) 1<|.ite (.v 7) (.mkS za9 [.v 4,.v 5,.v 1]<|.mkS zbM [.v 8,.v 2,.v 3,.v 6]<|.jmp 0 false [.v 9,.c (.int .i64 1)]) (.prim (.bin .add) [.v 3,.c (.int .i64 1)]<|.mkS za9 [.v 4,.v 5,.v 1]<|.mkS zbM [.v 9,.v 2,.v 8,.v 6]<|.jmp 0 false [.v 10,.c (.int .i64 0)])
theorem znI:zaE cx 12 28=some zik.erase:=by kernel_rfl
theorem zof:FnOk cx 12 noC 28 zeN:=zcf (t:=zik) znI (fun _=>rfl) (zbX [(24,zaM)] (by kernel_rfl) (.cons zcS .nil)) (fun x=>by kernel_rfl)
def zdj (p0:Vault) (p1:Int):Option Bool :=
 ((zbO p0).bind fun v2=>if v2 then
 if decide ((0:Int)≤p1) then
 some ((decide (p1<(Vault.Words p0))))
 else
 some (false)
 else
 some (false):Option Bool).bind fun v2=>some (v2)
def zbZ:FnT:=⟨[zay,.int .i64],[.bool],fun x=>zdj x.1 x.2⟩
def zgQ:TA :=
 .sub0 [.bool] (.call 24 zaM [.v 0] 1<|.ite (.v 2) (.prim (.bin .geq) [.v 1,.c (.int .i64 0)]<|.ite (.v 3) (.prim (.fld 1) [.v 0]<|.prim (.bin .lss) [.v 1,.v 4]<|.jmp 0 false [.v 5]) (.jmp 0 false [.c (.bool false)])) (.jmp 0 false [.c (.bool false)])) 1<|.jmp 0 false [.v 2]
theorem zlO:zaE cx 12 54=some zgQ.erase:=by kernel_rfl
theorem zgJ:FnOk cx 12 noC 54 zbZ:=zcf (t:=zgQ) zlO (fun _=>rfl) (zbX [(24,zaM)] (by kernel_rfl) (.cons zcS .nil)) (fun x=>by kernel_rfl)
def zcx (p0:Vault) (p1:Int):Option Bool :=
 ((zbO p0).bind fun v2=>if v2 then
 if decide ((0:Int)≤p1) then
 some ((decide (p1≤(Vault.Span p0))))
 else
 some (false)
 else
 some (false):Option Bool).bind fun v2=>some (v2)
def zbD:FnT:=⟨[zay,.int .i64],[.bool],fun x=>zcx x.1 x.2⟩
def zfJ:TA :=
 .sub0 [.bool] (.call 24 zaM [.v 0] 1<|.ite (.v 2) (.prim (.bin .geq) [.v 1,.c (.int .i64 0)]<|.ite (.v 3) (.prim (.fld 2) [.v 0]<|.prim (.bin .leq) [.v 1,.v 4]<|.jmp 0 false [.v 5]) (.jmp 0 false [.c (.bool false)])) (.jmp 0 false [.c (.bool false)])) 1<|.jmp 0 false [.v 2]
theorem zkr:zaE cx 12 62=some zfJ.erase:=by kernel_rfl
theorem zfM:FnOk cx 12 noC 62 zbD:=zcf (t:=zfJ) zkr (fun _=>rfl) (zbX [(24,zaM)] (by kernel_rfl) (.cons zcS .nil)) (fun x=>by kernel_rfl)
def zdf (p0:Banks) (p1:Int) (p2:Int):Option (Int×Int) :=
 ((zed p0 p1).bind fun v3=>if !v3 then
 some (true)
 else
 if decide (p2<(0:Int)) then
 some (true)
 else
 some ((decide ((List.length (Banks.Par p0):Int)≤p2))):Option Bool).bind fun v3=>if v3 then
 some (((0:Int),(1:Int)))
 else
 if decide ((Banks.Lost p0)=(w64 (p1 + (1:Int)))) then
 some (((0:Int),(8:Int)))
 else
 (getO (Banks.Rows p0) p1).bind fun v8=>(getO v8 p2).bind fun v9=>some ((v9,(0:Int)))
def zen:FnT:=⟨[zas,.int .i64,.int .i64],[.int .u32,.int .i64],fun x=>zdf x.1 x.2.1 x.2.2⟩
def zgN:TA :=
 .sub0 [.bool] (.call 114 zcB [.v 0,.v 1] 1<|.prim (.un .not) [.v 3]<|.ite (.v 4) (.jmp 0 false [.c (.bool true)]) (.prim (.bin .lss) [.v 2,.c (.int .i64 0)]<|.ite (.v 5) (.jmp 0 false [.c (.bool true)]) (.prim (.fld 1) [.v 0]<|.prim .len [.v 6]<|.prim (.bin .geq) [.v 2,.v 7]<|.jmp 0 false [.v 8]))) 1<|.ite (.v 3) (.jmp 0 false [.c (.int .u32 0),.c (.int .i64 1)]) (.prim (.fld 2) [.v 0]<|.prim (.bin .add) [.v 1,.c (.int .i64 1)]<|.prim (.bin .eql) [.v 4,.v 5]<|.ite (.v 6) (.jmp 0 false [.c (.int .u32 0),.c (.int .i64 8)]) (.prim (.fld 0) [.v 0]<|.prim .get [.v 7,.v 1]<|.prim .get [.v 8,.v 2]<|.jmp 0 false [.v 9,.c (.int .i64 0)]))
theorem zlD:zaE cx 12 72=some zgN.erase:=by kernel_rfl
theorem zlQ:FnOk cx 12 noC 72 zen:=zcf (t:=zgN) zlD (fun _=>rfl) (zbX [(114,zcB)] (by kernel_rfl) (.cons zh7 .nil)) (fun x=>by kernel_rfl)
def zao (x7:List (List Int)) (x8:Int) (s:(Int×(List (List Int)))):Option ((Int×(List (List Int)))⊕(List (List Int))) :=
 if decide (s.1<x8) then
 (getO x7 s.1).bind fun v12=>(zaD 4 v12).bind fun v13=>(appO 24 s.2 ([v13]:List (List Int))).bind fun v15=>some (Sum.inl (w64 (s.1 + (1:Int)),v15))
 else
 some (Sum.inr (s.2))
def zbo (p0:Banks) (p1:Int) (p2:Int) (p3:Int):Option (Banks×Int) :=
 ((zaD 4 (Banks.Par p0)).bind fun v5=>let v8:Int:=(List.length (Banks.Rows p0):Int)
 (zaA (zao (Banks.Rows p0) v8) ((0:Int),([]:List (List Int))):Option (List (List Int))).bind fun v9=>some ((Banks.Lost p0,v9,v5)):Option (Int×(List (List Int))×(List Int))).bind fun v4=>((zed p0 p1).bind fun v7=>if !v7 then
 some (true)
 else
 if decide (p2<(0:Int)) then
 some (true)
 else
 some ((decide ((List.length (Banks.Par p0):Int)≤p2))):Option Bool).bind fun v7=>if v7 then
 some ((Banks.mk v4.2.1 v4.2.2 v4.1,(1:Int)))
 else
 if decide ((0:Int)<(Banks.Lost p0)) then
 some ((Banks.mk v4.2.1 v4.2.2 v4.1,(8:Int)))
 else
 (idxO (List.length v4.2.2:Int) p2).bind fun v10=>(getO v4.2.2 v10).bind fun v11=>(idxO (List.length v4.2.1:Int) p1).bind fun v12=>(idxO (List.length v4.2.1:Int) v12).bind fun v13=>(getO v4.2.1 v13).bind fun v14=>(idxO (List.length v14:Int) p2).bind fun v15=>(getO v4.2.1 v13).bind fun v16=>(getO v16 v15).bind fun v17=>(idxO (List.length v4.2.2:Int) p2).bind fun v20=>(setO v4.2.2 v20 (bXor .u32 v11 (bXor .u32 v17 p3))).bind fun v21=>(idxO (List.length v4.2.1:Int) p1).bind fun v22=>(idxO (List.length v4.2.1:Int) v22).bind fun v23=>(getO v4.2.1 v23).bind fun v24=>(idxO (List.length v24:Int) p2).bind fun v25=>(getO v4.2.1 v23).bind fun v26=>(setO v26 v25 p3).bind fun v27=>(setO v4.2.1 v23 v27).bind fun v28=>some ((Banks.mk v28 v21 v4.1,(0:Int)))
def zbF:FnT:=⟨[zas,.int .i64,.int .i64,.int .u32],[zas,.int .i64],fun x=>zbo x.1 x.2.1 x.2.2.1 x.2.2.2⟩
def zfU:TA :=
 .sub0 [.int .i64,.sl (.sl (.int .u32)),.sl (.int .u32)] (.prim (.fld 1) [.v 0]<|.prim (.clone 4) [.v 4]<|.prim (.fld 2) [.v 0]<|.prim (.fld 0) [.v 0]<|.prim .len [.v 7]<|.sub0 [.sl (.sl (.int .u32))] (.loop [.int .i64,.sl (.sl (.int .u32))] [.c (.int .i64 0),.c .nil] (.prim (.bin .lss) [.v 9,.v 8]<|.ite (.v 11) (.prim .get [.v 7,.v 9]<|.prim (.clone 4) [.v 12]<|.mkL (.sl (.int .u32)) [.v 13]<|.prim (.app 24) [.v 10,.v 14]<|.prim (.bin .add) [.v 9,.c (.int .i64 1)]<|.jmp 0 true [.v 16,.v 15]) (.jmp 1 false [.v 10]))) 1<|.jmp 0 false [.v 6,.v 9,.v 5]) 3<|.sub0 [.bool] (.call 114 zcB [.v 0,.v 1] 1<|.prim (.un .not) [.v 7]<|.ite (.v 8) (.jmp 0 false [.c (.bool true)]) (.prim (.bin .lss) [.v 2,.c (.int .i64 0)]<|.ite (.v 9) (.jmp 0 false [.c (.bool true)]) (.prim (.fld 1) [.v 0]<|.prim .len [.v 10]<|.prim (.bin .geq) [.v 2,.v 11]<|.jmp 0 false [.v 12]))) 1<|.ite (.v 7) (.mkS za9 [.v 5,.v 6,.v 4]<|.jmp 0 false [.v 8,.c (.int .i64 1)]) (.prim (.fld 2) [.v 0]<|.prim (.bin .gtr) [.v 8,.c (.int .i64 0)]<|.ite (.v 9) (.mkS za9 [.v 5,.v 6,.v 4]<|.jmp 0 false [.v 10,.c (.int .i64 8)]) (.prim .idx [.v 6,.v 2]<|.prim .get [.v 6,.v 10]<|.prim .idx [.v 5,.v 1]<|.prim .idx [.v 5,.v 12]<|.prim .get [.v 5,.v 13]<|.prim .idx [.v 14,.v 2]<|.prim .get [.v 5,.v 13]<|.prim .get [.v 16,.v 15]<|.prim (.bin .xor) [.v 17,.v 3]<|.prim (.bin .xor) [.v 11,.v 18]<|.prim .idx [.v 6,.v 2]<|.prim .set [.v 6,.v 20,.v 19]<|.prim .idx [.v 5,.v 1]<|.prim .idx [.v 5,.v 22]<|.prim .get [.v 5,.v 23]<|.prim .idx [.v 24,.v 2]<|.prim .get [.v 5,.v 23]<|.prim .set [.v 26,.v 25,.v 3]<|.prim .set [.v 5,.v 23,.v 27]<|.mkS za9 [.v 28,.v 21,.v 4]<|.jmp 0 false [.v 29,.c (.int .i64 0)]))
theorem zkE:zaE cx 12 110=some zfU.erase:=by kernel_rfl
theorem zfK:FnOk cx 12 noC 110 zbF:=zcf (t:=zfU) zkE (fun _=>rfl) (zbX [(114,zcB)] (by kernel_rfl) (.cons zh7 .nil)) (fun x=>by kernel_rfl)
def zb0 (x1:Int) (x3:Int) (x4:Int) (x7:List Undo) (x13:List Undo) (s:(Int×(List (List Int))×(List Int)×Int×Int)):Option ((Int×(List (List Int))×(List Int)×Int×Int)⊕((List (List Int))×(List Int)×Int×Int)) :=
 if decide (s.1<(0:Int)) then
 some (Sum.inr ((s.2.1,s.2.2.1,s.2.2.2.1,s.2.2.2.2)))
 else
 (getO x13 s.1).bind fun v27=>if decide ((Undo.Span v27)<x1) then
 some (Sum.inr ((s.2.1,s.2.2.1,s.2.2.2.1,s.2.2.2.2)))
 else
 ((subO x7 (0:Int) s.2.2.2.2).bind fun v33=>(za6 (Vault.mk (Banks.mk s.2.1 s.2.2.1 s.2.2.2.1) x3 x4 v33) (Undo.At v27)).bind fun v35=>(zbo (Banks.mk s.2.1 s.2.2.1 s.2.2.2.1) v35.1 v35.2 (Undo.Val v27)).bind fun v38=>some (v38.1):Option Banks).bind fun v32=>(zmO (List.length x7:Int) (0:Int) (0:Int) (w64 ((s.2.2.2.2 - (0:Int)) - (1:Int)))).bind fun v36=>some (Sum.inl (w64 (s.1 - (1:Int)),Banks.Rows v32,Banks.Par v32,Banks.Lost v32,v36))
def zcZ (x3:List (List Int)) (x4:Int) (s:(Int×(List (List Int)))):Option ((Int×(List (List Int)))⊕(List (List Int))) :=
 if decide (s.1<x4) then
 (getO x3 s.1).bind fun v8=>(zaD 4 v8).bind fun v9=>(appO 24 s.2 ([v9]:List (List Int))).bind fun v11=>some (Sum.inl (w64 (s.1 + (1:Int)),v11))
 else
 some (Sum.inr (s.2))
def zdZ (p0:Vault) (p1:Int):Option (Vault×Int) :=
 (let v3:List (List Int):=Banks.Rows (Vault.Banks p0)
 let v4:Int:=(List.length v3:Int)
 (zaA (zcZ v3 v4) ((0:Int),([]:List (List Int))):Option (List (List Int))).bind fun v5=>(zaD 4 (Banks.Par (Vault.Banks p0))).bind fun v8=>(zaD 24 (Vault.Lst p0)).bind fun v10=>some ((Banks.Lost (Vault.Banks p0),Vault.Words p0,Vault.Span p0,v5,v8,v10)):Option (Int×Int×Int×(List (List Int))×(List Int)×(List Undo))).bind fun v2=>(zcx p0 p1).bind fun v8=>if !v8 then
 some ((Vault.mk (Banks.mk v2.2.2.2.1 v2.2.2.2.2.1 v2.1) v2.2.1 v2.2.2.1 v2.2.2.2.2.2,(1:Int)))
 else
 if decide ((0:Int)<(Banks.Lost (Vault.Banks p0))) then
 some ((Vault.mk (Banks.mk v2.2.2.2.1 v2.2.2.2.2.1 v2.1) v2.2.1 v2.2.2.1 v2.2.2.2.2.2,(8:Int)))
 else
 (zaA (zb0 p1 v2.2.1 v2.2.2.1 v2.2.2.2.2.2 (Vault.Lst p0)) (w64 ((List.length (Vault.Lst p0):Int) - (1:Int)),v2.2.2.2.1,v2.2.2.2.2.1,v2.1,(List.length v2.2.2.2.2.2:Int)):Option ((List (List Int))×(List Int)×Int×Int)).bind fun v14=>(subO v2.2.2.2.2.2 (0:Int) v14.2.2.2).bind fun v19=>some ((Vault.mk (Banks.mk v14.1 v14.2.1 v14.2.2.1) v2.2.1 p1 v19,(0:Int)))
def ze3:FnT:=⟨[zay,.int .i64],[zay,.int .i64],fun x=>zdZ x.1 x.2⟩
def zhY:TA :=
 .sub0 [.int .i64,.int .i64,.int .i64,.sl (.sl (.int .u32)),.sl (.int .u32),.sl zbs] (.prim (.fld 0) [.v 0]<|.prim (.fld 0) [.v 2]<|.prim .len [.v 3]<|.sub0 [.sl (.sl (.int .u32))] (.loop [.int .i64,.sl (.sl (.int .u32))] [.c (.int .i64 0),.c .nil] (.prim (.bin .lss) [.v 5,.v 4]<|.ite (.v 7) (.prim .get [.v 3,.v 5]<|.prim (.clone 4) [.v 8]<|.mkL (.sl (.int .u32)) [.v 9]<|.prim (.app 24) [.v 6,.v 10]<|.prim (.bin .add) [.v 5,.c (.int .i64 1)]<|.jmp 0 true [.v 12,.v 11]) (.jmp 1 false [.v 6]))) 1<|.prim (.fld 0) [.v 0]<|.prim (.fld 1) [.v 6]<|.prim (.clone 4) [.v 7]<|.prim (.fld 3) [.v 0]<|.prim (.clone 24) [.v 9]<|.prim (.fld 0) [.v 0]<|.prim (.fld 1) [.v 0]<|.prim (.fld 2) [.v 0]<|.prim (.fld 3) [.v 0]<|.prim (.fld 0) [.v 11]<|.prim (.fld 1) [.v 11]<|.prim (.fld 2) [.v 11]<|.jmp 0 false [.v 17,.v 12,.v 13,.v 5,.v 8,.v 10]) 6<|.call 62 zbD [.v 0,.v 1] 1<|.prim (.un .not) [.v 8]<|.ite (.v 9) (.mkS za9 [.v 5,.v 6,.v 2]<|.mkS zbM [.v 10,.v 3,.v 4,.v 7]<|.jmp 0 false [.v 11,.c (.int .i64 1)]) (.prim (.fld 0) [.v 0]<|.prim (.fld 2) [.v 10]<|.prim (.bin .gtr) [.v 11,.c (.int .i64 0)]<|.ite (.v 12) (.mkS za9 [.v 5,.v 6,.v 2]<|.mkS zbM [.v 13,.v 3,.v 4,.v 7]<|.jmp 0 false [.v 14,.c (.int .i64 8)]) (.prim (.fld 3) [.v 0]<|.subp [] (.jmp 0 false []) 0<|.sub0 [.sl (.sl (.int .u32)),.sl (.int .u32),.int .i64,.int .i64] (.prim .len [.v 13]<|.prim (.bin .sub) [.v 14,.c (.int .i64 1)]<|.subp [.int .i64,.sl (.sl (.int .u32)),.sl (.int .u32),.int .i64,.int .i64] (.prim .len [.v 7]<|.jmp 0 false [.v 15,.v 5,.v 6,.v 2,.v 16]) 5<|.loop [.int .i64,.sl (.sl (.int .u32)),.sl (.int .u32),.int .i64,.int .i64] [.v 16,.v 17,.v 18,.v 19,.v 20] (.prim (.bin .lss) [.v 21,.c (.int .i64 0)]<|.ite (.v 26) (.jmp 1 false [.v 22,.v 23,.v 24,.v 25]) (.prim .get [.v 13,.v 21]<|.prim (.fld 0) [.v 27]<|.prim (.bin .lss) [.v 28,.v 1]<|.ite (.v 29) (.jmp 1 false [.v 22,.v 23,.v 24,.v 25]) (.prim (.fld 1) [.v 27]<|.prim (.fld 2) [.v 27]<|.sub0 [zas] (.mkS za9 [.v 22,.v 23,.v 24]<|.prim .sub [.v 7,.c (.int .i64 0),.v 25]<|.mkS zbM [.v 32,.v 3,.v 4,.v 33]<|.call 71 zaL [.v 34,.v 30] 2<|.mkS za9 [.v 22,.v 23,.v 24]<|.call 110 zbF [.v 37,.v 35,.v 36,.v 31] 2<|.jmp 0 false [.v 38]) 1<|.prim .vlen [.c (.int .i64 0),.v 25]<|.prim (.bin .sub) [.v 33,.c (.int .i64 1)]<|.prim .vlen [.c (.int .i64 0),.v 25]<|.prim .rngv [.v 7,.c (.int .i64 0),.c (.int .i64 0),.v 34]<|.prim (.bin .sub) [.v 21,.c (.int .i64 1)]<|.prim (.fld 0) [.v 32]<|.prim (.fld 1) [.v 32]<|.prim (.fld 2) [.v 32]<|.jmp 0 true [.v 37,.v 38,.v 39,.v 40,.v 36])))) 4<|.mkS za9 [.v 14,.v 15,.v 16]<|.prim .sub [.v 7,.c (.int .i64 0),.v 17]<|.mkS zbM [.v 18,.v 3,.v 1,.v 19]<|.jmp 0 false [.v 20,.c (.int .i64 0)]))
theorem znj:zaE cx 12 15=some zhY.erase:=by kernel_rfl
theorem zom:FnOk cx 12 noC 15 ze3:=zcf (t:=zhY) znj (fun _=>rfl) (zbX [(62,zbD),(71,zaL),(110,zbF)] (by kernel_rfl) (.cons zfM (.cons zcP (.cons zfK .nil)))) (fun x=>by kernel_rfl)
def zcQ (x1:Int) (s:(Int×Int×(List Undo))):Option ((Int×Int×(List Undo))⊕(Int×(List Undo))) :=
 if decide (s.2.1<(List.length s.2.2:Int)) then
 (idxO (List.length s.2.2:Int) s.2.1).bind fun v18=>(getO s.2.2 v18).bind fun v19=>(if !(decide ((Undo.Span v19)<x1)) then
 (idxO (List.length s.2.2:Int) s.1).bind fun v22=>(setO s.2.2 v22 v19).bind fun v23=>some ((w64 (s.1 + (1:Int)),v23))
 else
 some ((s.1,s.2.2)):Option (Int×(List Undo))).bind fun v22=>some (Sum.inl (v22.1,w64 (s.2.1 + (1:Int)),v22.2))
 else
 some (Sum.inr ((s.1,s.2.2)))
def zc2 (x1:Int) (x7:List Undo) (x10:Int) (s:Int):Option (Int⊕Unit⊕Int) :=
 if decide (s<x10) then
 (idxO (List.length x7:Int) s).bind fun v13=>(getO x7 v13).bind fun v14=>if decide ((Undo.Span v14)<x1) then
 some (Sum.inr (Sum.inr (s)))
 else
 some (Sum.inl (w64 (s + (1:Int))))
 else
 some (Sum.inr (Sum.inl ()))
def zd6 (p0:Vault) (p1:Int):Option (Vault×Int) :=
 (let v3:List (List Int):=Banks.Rows (Vault.Banks p0)
 let v4:Int:=(List.length v3:Int)
 (zaA (zcZ v3 v4) ((0:Int),([]:List (List Int))):Option (List (List Int))).bind fun v5=>(zaD 4 (Banks.Par (Vault.Banks p0))).bind fun v8=>(zaD 24 (Vault.Lst p0)).bind fun v10=>some ((Banks.Lost (Vault.Banks p0),Vault.Words p0,Vault.Span p0,v5,v8,v10)):Option (Int×Int×Int×(List (List Int))×(List Int)×(List Undo))).bind fun v2=>(zcx p0 p1).bind fun v8=>if !v8 then
 some ((Vault.mk (Banks.mk v2.2.2.2.1 v2.2.2.2.2.1 v2.1) v2.2.1 v2.2.2.1 v2.2.2.2.2.2,(1:Int)))
 else
 ((let v10:Int:=(List.length v2.2.2.2.2.2:Int)
 zb6 (zaA (zc2 p1 v2.2.2.2.2.2 v10) (0:Int):Option (Unit⊕Int)) fun v11=>some ((-1:Int)):Option Int).bind fun v10=>if decide (v10=(-1:Int)) then
 some (((List.length v2.2.2.2.2.2:Int),v2.2.2.2.2.2))
 else
 (zaA (zcQ p1) (v10,w64 (v10 + (1:Int)),v2.2.2.2.2.2):Option (Int×(List Undo))).bind fun v13=>(rngO (List.length v13.2:Int) v13.1 (List.length v13.2:Int)).bind fun v16=>(subO v13.2 v13.1 v16).bind fun v17=>(zoE v13.2 v13.1 v16 (List.replicate (List.length v17) (Undo.mk (0:Int) (0:Int) (0:Int)))).bind fun v19=>(rngO (List.length v19:Int) (0:Int) v13.1).bind fun v21=>some ((v21,v19)):Option (Int×(List Undo))).bind fun v10=>(subO v10.2 (0:Int) v10.1).bind fun v13=>some ((Vault.mk (Banks.mk v2.2.2.2.1 v2.2.2.2.2.1 v2.1) v2.2.1 v2.2.2.1 v13,(0:Int)))
def ze2:FnT:=⟨[zay,.int .i64],[zay,.int .i64],fun x=>zd6 x.1 x.2⟩
def zh4:TA :=
 .sub0 [.int .i64,.int .i64,.int .i64,.sl (.sl (.int .u32)),.sl (.int .u32),.sl zbs] (.prim (.fld 0) [.v 0]<|.prim (.fld 0) [.v 2]<|.prim .len [.v 3]<|.sub0 [.sl (.sl (.int .u32))] (.loop [.int .i64,.sl (.sl (.int .u32))] [.c (.int .i64 0),.c .nil] (.prim (.bin .lss) [.v 5,.v 4]<|.ite (.v 7) (.prim .get [.v 3,.v 5]<|.prim (.clone 4) [.v 8]<|.mkL (.sl (.int .u32)) [.v 9]<|.prim (.app 24) [.v 6,.v 10]<|.prim (.bin .add) [.v 5,.c (.int .i64 1)]<|.jmp 0 true [.v 12,.v 11]) (.jmp 1 false [.v 6]))) 1<|.prim (.fld 0) [.v 0]<|.prim (.fld 1) [.v 6]<|.prim (.clone 4) [.v 7]<|.prim (.fld 3) [.v 0]<|.prim (.clone 24) [.v 9]<|.prim (.fld 0) [.v 0]<|.prim (.fld 1) [.v 0]<|.prim (.fld 2) [.v 0]<|.prim (.fld 3) [.v 0]<|.prim (.fld 0) [.v 11]<|.prim (.fld 1) [.v 11]<|.prim (.fld 2) [.v 11]<|.jmp 0 false [.v 17,.v 12,.v 13,.v 5,.v 8,.v 10]) 6<|.call 62 zbD [.v 0,.v 1] 1<|.prim (.un .not) [.v 8]<|.ite (.v 9) (.mkS za9 [.v 5,.v 6,.v 2]<|.mkS zbM [.v 10,.v 3,.v 4,.v 7]<|.jmp 0 false [.v 11,.c (.int .i64 1)]) (.sub0 [.int .i64,.sl zbs] (.sub0 [.int .i64] (.prim .len [.v 7]<|.sub1 [] (.loop [.int .i64] [.c (.int .i64 0)] (.prim (.bin .lss) [.v 11,.v 10]<|.ite (.v 12) (.prim .idx [.v 7,.v 11]<|.prim .get [.v 7,.v 13]<|.subp [.bool] (.prim (.fld 0) [.v 14]<|.prim (.bin .lss) [.v 15,.v 1]<|.jmp 0 false [.v 16]) 1<|.ite (.v 15) (.jmp 2 false [.v 11]) (.prim (.bin .add) [.v 11,.c (.int .i64 1)]<|.jmp 0 true [.v 16])) (.jmp 1 false []))) 0<|.jmp 0 false [.c (.int .i64 (-1))]) 1<|.prim (.bin .eql) [.v 10,.c (.int .i64 (-1))]<|.ite (.v 11) (.prim .len [.v 7]<|.jmp 0 false [.v 12,.v 7]) (.prim (.bin .add) [.v 10,.c (.int .i64 1)]<|.sub0 [.int .i64,.sl zbs] (.loop [.int .i64,.int .i64,.sl zbs] [.v 10,.v 12,.v 7] (.prim .len [.v 15]<|.prim (.bin .lss) [.v 14,.v 16]<|.ite (.v 17) (.prim .idx [.v 15,.v 14]<|.prim .get [.v 15,.v 18]<|.subp [.bool] (.prim (.fld 0) [.v 19]<|.prim (.bin .lss) [.v 20,.v 1]<|.jmp 0 false [.v 21]) 1<|.prim (.un .not) [.v 20]<|.sub0 [.int .i64,.sl zbs] (.ite (.v 21) (.prim .idx [.v 15,.v 13]<|.prim .set [.v 15,.v 22,.v 19]<|.prim (.bin .add) [.v 13,.c (.int .i64 1)]<|.jmp 0 false [.v 24,.v 23]) (.jmp 0 false [.v 13,.v 15])) 2<|.prim (.bin .add) [.v 14,.c (.int .i64 1)]<|.jmp 0 true [.v 22,.v 24,.v 23]) (.jmp 1 false [.v 13,.v 15]))) 2<|.prim .len [.v 14]<|.prim .rng [.v 14,.v 13,.v 15]<|.prim .sub [.v 14,.v 13,.v 16]<|.prim (.clr (.agg [(.int .i64 0),(.int .i64 0),(.int .u32 0)])) [.v 17]<|.prim .cpyv [.v 14,.v 13,.v 16,.v 18]<|.prim .len [.v 19]<|.prim .rng [.v 19,.c (.int .i64 0),.v 13]<|.jmp 0 false [.v 21,.v 19])) 2<|.mkS za9 [.v 5,.v 6,.v 2]<|.prim .sub [.v 11,.c (.int .i64 0),.v 10]<|.mkS zbM [.v 12,.v 3,.v 4,.v 13]<|.jmp 0 false [.v 14,.c (.int .i64 0)])
theorem znB:zaE cx 12 17=some zh4.erase:=by kernel_rfl
theorem zmV:FnOk cx 12 noC 17 ze2:=zcf (t:=zh4) znB (fun _=>rfl) (zbX [(62,zbD)] (by kernel_rfl) (.cons zfM .nil)) (fun x=>by kernel_rfl)
def zfA (p0:Vault) (p1:Int):Option (Int×Int) :=
 (zdj p0 p1).bind fun v2=>if !v2 then
 some (((0:Int),(1:Int)))
 else
 (za6 p0 p1).bind fun v4=>(zdf (Vault.Banks p0) v4.1 v4.2).bind fun v7=>some ((v7.1,v7.2))
def zeY:FnT:=⟨[zay,.int .i64],[.int .u32,.int .i64],fun x=>zfA x.1 x.2⟩
def zib:TA :=
 .call 54 zbZ [.v 0,.v 1] 1<|.prim (.un .not) [.v 2]<|.ite (.v 3) (.jmp 0 false [.c (.int .u32 0),.c (.int .i64 1)]) (.call 71 zaL [.v 0,.v 1] 2<|.prim (.fld 0) [.v 0]<|.call 72 zen [.v 6,.v 4,.v 5] 2<|.jmp 0 false [.v 7,.v 8])
theorem zna:zaE cx 12 21=some zib.erase:=by kernel_rfl
theorem znZ:FnOk cx 12 noC 21 zeY:=zcf (t:=zib) zna (fun _=>rfl) (zbX [(54,zbZ),(71,zaL),(72,zen)] (by kernel_rfl) (.cons zgJ (.cons zcP (.cons zlQ .nil)))) (fun x=>by kernel_rfl)
def zcq (x0:Vault) (x1:Int) (x14:List Undo) (x15:Int) (s:Int):Option (Int⊕Unit⊕Int) :=
 if decide (s<x15) then
 (getO x14 s).bind fun v18=>if (decide ((Undo.Span v18)=(Vault.Span x0)))&&(decide ((Undo.At v18)=x1)) then
 some (Sum.inr (Sum.inr (s)))
 else
 some (Sum.inl (w64 (s + (1:Int))))
 else
 some (Sum.inr (Sum.inl ()))
def zde (p0:Vault) (p1:Int) (p2:Int):Option (Vault×Int) :=
 (let v4:List (List Int):=Banks.Rows (Vault.Banks p0)
 let v5:Int:=(List.length v4:Int)
 (zaA (zea v4 v5) ((0:Int),([]:List (List Int))):Option (List (List Int))).bind fun v6=>(zaD 4 (Banks.Par (Vault.Banks p0))).bind fun v9=>(zaD 24 (Vault.Lst p0)).bind fun v11=>some ((Banks.Lost (Vault.Banks p0),Vault.Words p0,Vault.Span p0,v6,v9,v11)):Option (Int×Int×Int×(List (List Int))×(List Int)×(List Undo))).bind fun v3=>(zdj p0 p1).bind fun v9=>if !v9 then
 some ((Vault.mk (Banks.mk v3.2.2.2.1 v3.2.2.2.2.1 v3.1) v3.2.1 v3.2.2.1 v3.2.2.2.2.2,(1:Int)))
 else
 if decide ((0:Int)<(Banks.Lost (Vault.Banks p0))) then
 some ((Vault.mk (Banks.mk v3.2.2.2.1 v3.2.2.2.2.1 v3.1) v3.2.1 v3.2.2.1 v3.2.2.2.2.2,(8:Int)))
 else
 ((let v15:Int:=(List.length (Vault.Lst p0):Int)
 zb6 (zaA (zcq p0 p1 (Vault.Lst p0) v15) (0:Int):Option (Unit⊕Int)) fun v16=>some ((-1:Int)):Option Int).bind fun v15=>some ((decide ((0:Int)≤v15))):Option Bool).bind fun v15=>if (!v15)&&(decide ((List.length (Vault.Lst p0):Int)=(256:Int))) then
 some ((Vault.mk (Banks.mk v3.2.2.2.1 v3.2.2.2.2.1 v3.1) v3.2.1 v3.2.2.1 v3.2.2.2.2.2,(6:Int)))
 else
 (if !v15 then
 (zfA p0 p1).bind fun v18=>(appO 24 v3.2.2.2.2.2 ([Undo.mk (Vault.Span p0) p1 v18.1]:List Undo)).bind fun v23=>some (v23)
 else
 some (v3.2.2.2.2.2):Option (List Undo)).bind fun v18=>((za6 (Vault.mk (Banks.mk v3.2.2.2.1 v3.2.2.2.2.1 v3.1) v3.2.1 v3.2.2.1 v18) p1).bind fun v21=>(zbo (Banks.mk v3.2.2.2.1 v3.2.2.2.2.1 v3.1) v21.1 v21.2 p2).bind fun v24=>some (v24.1):Option Banks).bind fun v19=>some ((Vault.mk v19 v3.2.1 v3.2.2.1 v18,(0:Int)))
def zer:FnT:=⟨[zay,.int .i64,.int .u32],[zay,.int .i64],fun x=>zde x.1 x.2.1 x.2.2⟩
def zgW:TA :=
 .sub0 [.int .i64,.int .i64,.int .i64,.sl (.sl (.int .u32)),.sl (.int .u32),.sl zbs] (.prim (.fld 0) [.v 0]<|.prim (.fld 0) [.v 3]<|.prim .len [.v 4]<|.sub0 [.sl (.sl (.int .u32))] (.loop [.int .i64,.sl (.sl (.int .u32))] [.c (.int .i64 0),.c .nil] (.prim (.bin .lss) [.v 6,.v 5]<|.ite (.v 8) (.prim .get [.v 4,.v 6]<|.prim (.clone 4) [.v 9]<|.mkL (.sl (.int .u32)) [.v 10]<|.prim (.app 24) [.v 7,.v 11]<|.prim (.bin .add) [.v 6,.c (.int .i64 1)]<|.jmp 0 true [.v 13,.v 12]) (.jmp 1 false [.v 7]))) 1<|.prim (.fld 0) [.v 0]<|.prim (.fld 1) [.v 7]<|.prim (.clone 4) [.v 8]<|.prim (.fld 3) [.v 0]<|.prim (.clone 24) [.v 10]<|.prim (.fld 0) [.v 0]<|.prim (.fld 1) [.v 0]<|.prim (.fld 2) [.v 0]<|.prim (.fld 3) [.v 0]<|.prim (.fld 0) [.v 12]<|.prim (.fld 1) [.v 12]<|.prim (.fld 2) [.v 12]<|.jmp 0 false [.v 18,.v 13,.v 14,.v 6,.v 9,.v 11]) 6<|.call 54 zbZ [.v 0,.v 1] 1<|.prim (.un .not) [.v 9]<|.ite (.v 10) (.mkS za9 [.v 6,.v 7,.v 3]<|.mkS zbM [.v 11,.v 4,.v 5,.v 8]<|.jmp 0 false [.v 12,.c (.int .i64 1)]) (.prim (.fld 0) [.v 0]<|.prim (.fld 2) [.v 11]<|.prim (.bin .gtr) [.v 12,.c (.int .i64 0)]<|.ite (.v 13) (.mkS za9 [.v 6,.v 7,.v 3]<|.mkS zbM [.v 14,.v 4,.v 5,.v 8]<|.jmp 0 false [.v 15,.c (.int .i64 8)]) (.prim (.fld 3) [.v 0]<|.sub0 [.bool] (.sub0 [.int .i64] (.prim .len [.v 14]<|.sub1 [] (.loop [.int .i64] [.c (.int .i64 0)] (.prim (.bin .lss) [.v 16,.v 15]<|.ite (.v 17) (.prim .get [.v 14,.v 16]<|.subp [.bool] (.subp [.bool] (.prim (.fld 0) [.v 18]<|.prim (.fld 2) [.v 0]<|.prim (.bin .eql) [.v 19,.v 20]<|.ite (.v 21) (.prim (.fld 1) [.v 18]<|.prim (.bin .eql) [.v 22,.v 1]<|.jmp 0 false [.v 23]) (.jmp 0 false [.c (.bool false)])) 1<|.jmp 0 false [.v 19]) 1<|.ite (.v 19) (.jmp 2 false [.v 16]) (.prim (.bin .add) [.v 16,.c (.int .i64 1)]<|.jmp 0 true [.v 20])) (.jmp 1 false []))) 0<|.jmp 0 false [.c (.int .i64 (-1))]) 1<|.prim (.bin .geq) [.v 15,.c (.int .i64 0)]<|.jmp 0 false [.v 16]) 1<|.subp [.bool] (.prim (.un .not) [.v 15]<|.ite (.v 16) (.prim (.fld 3) [.v 0]<|.prim .len [.v 17]<|.prim (.bin .eql) [.v 18,.c (.int .i64 256)]<|.jmp 0 false [.v 19]) (.jmp 0 false [.c (.bool false)])) 1<|.ite (.v 16) (.mkS za9 [.v 6,.v 7,.v 3]<|.mkS zbM [.v 17,.v 4,.v 5,.v 8]<|.jmp 0 false [.v 18,.c (.int .i64 6)]) (.prim (.un .not) [.v 15]<|.sub0 [.sl zbs] (.ite (.v 17) (.call 21 zeY [.v 0,.v 1] 2<|.prim (.fld 2) [.v 0]<|.mkS zr6 [.v 20,.v 1,.v 18]<|.mkL zbs [.v 21]<|.prim (.app 24) [.v 8,.v 22]<|.jmp 0 false [.v 23]) (.jmp 0 false [.v 8])) 1<|.sub0 [zas] (.mkS za9 [.v 6,.v 7,.v 3]<|.mkS zbM [.v 19,.v 4,.v 5,.v 18]<|.call 71 zaL [.v 20,.v 1] 2<|.mkS za9 [.v 6,.v 7,.v 3]<|.call 110 zbF [.v 23,.v 21,.v 22,.v 2] 2<|.jmp 0 false [.v 24]) 1<|.mkS zbM [.v 19,.v 4,.v 5,.v 18]<|.jmp 0 false [.v 20,.c (.int .i64 0)])))
theorem zmh:zaE cx 12 12=some zgW.erase:=by kernel_rfl
theorem zmd:FnOk cx 12 noC 12 zer:=zcf (t:=zgW) zmh (fun _=>rfl) (zbX [(54,zbZ),(21,zeY),(71,zaL),(110,zbF)] (by kernel_rfl) (.cons zgJ (.cons znZ (.cons zcP (.cons zfK .nil))))) (fun x=>by kernel_rfl)
def zj9:Bool:=true
def zfY:PnT:=⟨[],[.bool],fun _=>zj9⟩
theorem zoB:FnOk cx 12 noC 10 zfY.fn:=fun ds x r hx hr=>by
 have hx:ds=[]:=hx
 subst hx
 exact ⟨[.bool true],zto 100 12 (by kernel_rfl),.bool true,rfl,congrArg D.bool (Option.some.inj hr)⟩
end Go.Proofs.Ytlgjbfdojbmmgaa
