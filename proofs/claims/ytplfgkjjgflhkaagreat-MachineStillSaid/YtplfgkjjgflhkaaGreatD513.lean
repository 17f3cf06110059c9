/- More functions of this cut as functions of plain typed data. Printed by a program of this claim's prover; each is checked here to be what the executor makes of the code. -/
import Derived.Test.YtplfgkjjgflhkaaGreatD512
set_option linter.unusedVariables false
set_option maxRecDepth 100000
noncomputable section
namespace Go.Proofs.YtplfgkjjgflhkaaGreat
open Go.SX
def zlV (x0:List (List Ins)) (x2 s:Int):Option (Int⊕Unit⊕Int) :=
 if decide (s<x2) then
 (getO x0 s).bind fun v5=>(zkh v5).bind fun v6=>if v6 then
 some (Sum.inr (Sum.inr (s)))
 else
 some (Sum.inl (w64 (s + (1:Int))))
 else
 some (Sum.inr (Sum.inl ()))
def zux (p0:List (List Ins)):Option Bool :=
 (if (decide ((1:Int)≤(p0.length:Int)))&&(decide ((p0.length:Int)≤(4:Int))) then
 ((let v2:Int:=(p0.length:Int)
 zbm (zaQ (zlV p0 v2) (0:Int):Option (Unit⊕Int)) fun v3=>some ((-1:Int)):Option Int).bind fun v2=>some ((decide ((0:Int)≤v2))):Option Bool).bind fun v2=>some ((!v2))
 else
 some (false):Option Bool).bind fun v2=>some (v2)
def zs8:FnT:=⟨[.sl (.sl tIns)],[.bool],fun x=>zux x⟩
def zAs:TA :=
 .subp [.bool] (ql 0<|qk .geq 1 1<|qe 2 (ql 0<|qk .leq 3 4<|qj 0 4) (qt 0 false)) 1<|.sub0 [.bool] (qe 1 (.sub0 [.bool] (.sub0 [.int .i64] (ql 0<|.sub1 [] (.loop [.int .i64] [(qz 0)] (qb .lss 3 2<|qe 4 (qg 0 3<|.call 59 zsJ [.v 5] 1<|qe 6 (qj 2 3) (qk .add 3 1<|qr 0 7)) (qx 1))) 0<|.jmp 0 false [.c (.int .i64 (-1))]) 1<|qk .geq 2 0<|qj 0 3) 1<|qn 2<|qj 0 3) (qt 0 false)) 1<|qj 0 2
theorem zAq:zaM cx 12 28=some zAs.erase:=by kernel_rfl
theorem zAb:FnOk cx 12 noC 28 zs8:=rf_ zAq (.cons zBa .nil)
def zeb (x0:List (List Ins)) (x1:List Core) (x5 s:Int):Option (Int⊕Unit⊕Bool) :=
 if decide (s<x5) then
 (getO x1 s).bind fun v8=>(getO x0 s).bind fun v9=>(zeu v9 v8).bind fun v10=>if !v10 then
 some (Sum.inr (Sum.inr (false)))
 else
 some (Sum.inl (w64 (s + (1:Int))))
 else
 some (Sum.inr (Sum.inl ()))
def zde (p0:List (List Ins)) (p1:List Core):Option Bool :=
 if !decide ((p1.length:Int)=(p0.length:Int)) then
 some (false)
 else
 let v5:Int:=(p1.length:Int)
 zbm (zaQ (zeb p0 p1 v5) (0:Int):Option (Unit⊕Bool)) fun v6=>some (true)
def zho:FnT:=⟨[.sl (.sl tIns),.sl zb2],[.bool],fun x=>zde x.1 x.2⟩
def zld:TA :=
 ql 1<|ql 0<|qb .neq 2 3<|qe 4 (qt 0 false) (ql 1<|.sub1 [] (.loop [.int .i64] [(qz 0)] (qb .lss 6 5<|qe 7 (qg 1 6<|qg 0 6<|.call 87 zhQ (qv [9,8]) 1<|qn 10<|qe 11 (qt 2 false) (qk .add 6 1<|qr 0 12)) (qx 1))) 0<|qt 0 true)
theorem zle:zaM cx 12 44=some zld.erase:=by kernel_rfl
theorem zkd:FnOk cx 12 noC 44 zho:=rf_ zle (.cons zkm .nil)
def zlA (p0:List Ins) (p1:Core) (p2:Int):Option Want :=
 ((zeu p0 p1).bind fun v3=>if !v3 then
 some (true)
 else
 if zbu p1 then
 some (true)
 else
 (getO p0 (zcR p1)).bind fun v7=>some ((decide ((zbk v7)=(16:Int)))):Option Bool).bind fun v3=>if v3 then
 some ((zeK (5:Int) (0:Int) (0:Int) (0:Int)))
 else
 (getO p0 (zcR p1)).bind fun v5=>(idxO (8:Int) (zlq v5)).bind fun v7=>(getO (zbH p1) v7).bind fun v9=>(idxO (8:Int) (zq0 v5)).bind fun v11=>(getO (zbH p1) v11).bind fun v13=>(zlO v13 p2).bind fun v14=>if decide ((zbk v5)=(9:Int)) then
 some ((zeK (1:Int) v14 (0:Int) (0:Int)))
 else
 if decide ((zbk v5)=(10:Int)) then
 some ((zeK (2:Int) v14 v9 (0:Int)))
 else
 if decide ((zbk v5)=(11:Int)) then
 (idxO (8:Int) (zrj v5)).bind fun v20=>(getO (zbH p1) v20).bind fun v22=>some ((zeK (3:Int) v14 v22 v9))
 else
 if decide ((zbk v5)=(15:Int)) then
 some ((zeK (4:Int) (0:Int) v9 (0:Int)))
 else
 some ((zeK (0:Int) (0:Int) (0:Int) (0:Int)))
def zrX:FnT:=⟨[.sl tIns,zb2,.int .i64],[zI5],fun x=>zlA x.1 x.2.1 x.2.2⟩
def zrd:TA :=
 .sub0 [.bool] (.call 87 zhQ (qv [0,1]) 1<|qn 3<|qe 4 (qt 0 true) (qf 2 1<|qe 5 (qt 0 true) (qf 1 1<|qg 0 6<|qf 0 7<|qk .eql 8 16<|qj 0 9))) 1<|qe 3 (.jmp 0 false [.c (.agg [(.int .i64 5),(.int .i64 0),(.int .u32 0),(.int .u32 0)])]) (qf 1 1<|qg 0 4<|qf 1 5<|.prim (.idxn 8) [.v 6]<|qf 0 1<|qg 8 7<|qf 2 5<|.prim (.idxn 8) [.v 10]<|qf 0 1<|qg 12 11<|.call 132 zqt (qv [13,2]) 1<|qf 0 5<|qk .eql 15 9<|qe 16 (.mkS zyM [(qz 1),.v 14,.c (.int .u32 0),.c (.int .u32 0)]<|qj 0 17) (qk .eql 15 10<|qe 17 (.mkS zyM [(qz 2),.v 14,.v 9,.c (.int .u32 0)]<|qj 0 18) (qk .eql 15 11<|qe 18 (qf 3 5<|.prim (.idxn 8) [.v 19]<|qf 0 1<|qg 21 20<|.mkS zyM [(qz 3),.v 14,.v 22,.v 9]<|qj 0 23) (qk .eql 15 15<|qe 19 (.mkS zyM [(qz 4),(qz 0),.v 9,.c (.int .u32 0)]<|qj 0 20) (.jmp 0 false [.c (.agg [(.int .i64 0),(.int .i64 0),(.int .u32 0),(.int .u32 0)])])))))
theorem zqu:zaM cx 12 88=some zrd.erase:=by kernel_rfl
theorem zAk:FnOk cx 12 noC 88 zrX:=rf_ zqu (.cons zkm (.cons zyo .nil))
def zfY (p0:List Ins) (p1:Core) (p2:Int):Option Core :=
 ((zeu p0 p1).bind fun v3=>if !v3 then
 some (true)
 else
 some ((zbu p1)):Option Bool).bind fun v3=>if v3 then
 some (p1)
 else
 (getO p0 (zcR p1)).bind fun v5=>let v7:Int:=w64 ((zcR p1) + (1:Int))
 (if decide ((zbk v5)=(1:Int)) then
 (idxO (8:Int) (zlq v5)).bind fun v12=>(setO (zbH p1) v12 (zmQ v5)).bind fun v14=>some ((v7,zgC p1 v14))
 else
 let v10:Bool:=decide ((zbk v5)=(9:Int))
 (if bif v10 then v10 else decide ((zbk v5)=(11:Int)) then
 (idxO (8:Int) (zlq v5)).bind fun v13=>(setO (zbH p1) v13 p2).bind fun v15=>some ((v7,zgC p1 v15))
 else
 (if decide ((zbk v5)=(13:Int)) then
 some ((w64 (zmQ v5),p1))
 else
 (if decide ((zbk v5)=(14:Int)) then
 (idxO (8:Int) (zlq v5)).bind fun v15=>(getO (zbH p1) v15).bind fun v17=>some ((bif decide (v17=(0:Int)) then w64 (zmQ v5) else v7,p1))
 else
 (if decide ((zbk v5)=(16:Int)) then
 some ((zcR p1,zvm p1 true))
 else
 (idxO (8:Int) (zq0 v5)).bind fun v17=>(getO (zbH p1) v17).bind fun v19=>(idxO (8:Int) (zrj v5)).bind fun v21=>(getO (zbH p1) v21).bind fun v23=>let v24:(Int×Bool):=zvp (zbk v5) v19 v23
 (if v24.2 then
 (idxO (8:Int) (zlq v5)).bind fun v27=>(setO (zbH p1) v27 v24.1).bind fun v29=>some ((zgC p1 v29))
 else
 some (p1):Option Core).bind fun v26=>some ((v7,v26)):Option (Int×Core)).bind fun v15=>some ((v15.1,v15.2)):Option (Int×Core)).bind fun v14=>some ((v14.1,v14.2)):Option (Int×Core)).bind fun v13=>some ((v13.1,v13.2)):Option (Int×Core)).bind fun v12=>some ((v12.1,v12.2)):Option (Int×Core)).bind fun v10=>some ((zAE v10.2 v10.1))
def zjB:FnT:=⟨[.sl tIns,zb2,.int .u32],[zb2],fun x=>zfY x.1 x.2.1 x.2.2⟩
def zt7:TA :=
 .sub0 [.bool] (.call 87 zhQ (qv [0,1]) 1<|qn 3<|qe 4 (qt 0 true) (qf 2 1<|qj 0 5)) 1<|qe 3 (qj 0 1) (qf 1 1<|qg 0 4<|qf 1 1<|qk .add 6 1<|qf 0 5<|qk .eql 8 1<|.sub0 [.int .i64,zb2] (qe 9 (qf 1 5<|qf 4 5<|.prim (.idxn 8) [.v 10]<|qf 0 1<|qs 13 12 11<|qh 0 1 14<|.jmp 0 false (qv [7,15])) (qk .eql 8 9<|.subp [.bool] (qe 10 (qj 0 10) (qk .eql 8 11<|qj 0 11)) 1<|.sub0 [.int .i64,zb2] (qe 11 (qf 1 5<|.prim (.idxn 8) [.v 12]<|qf 0 1<|qs 14 13 2<|qh 0 1 15<|.jmp 0 false (qv [7,16])) (qk .eql 8 13<|.sub0 [.int .i64,zb2] (qe 12 (qf 4 5<|.prim (.conv .i64) [.v 13]<|.jmp 0 false (qv [14,1])) (qk .eql 8 14<|.sub0 [.int .i64,zb2] (qe 13 (qf 1 5<|.prim (.idxn 8) [.v 14]<|qf 0 1<|qg 16 15<|.prim (.bin .eql) [.v 17,.c (.int .u32 0)]<|.subp [.int .i64] (qe 18 (qf 4 5<|.prim (.conv .i64) [.v 19]<|qj 0 20) (qj 0 7)) 1<|.jmp 0 false (qv [19,1])) (qk .eql 8 16<|.sub0 [.int .i64,zb2] (qe 14 (qf 1 1<|.prim (.setf 2) [.v 1,.c (.bool true)]<|.jmp 0 false (qv [15,16])) (qf 0 5<|qf 2 5<|.prim (.idxn 8) [.v 16]<|qf 0 1<|qg 18 17<|qf 3 5<|.prim (.idxn 8) [.v 20]<|qf 0 1<|qg 22 21<|.callp 133 zzF (qv [15,19,23]) 2<|.sub0 [zb2] (qe 25 (qf 1 5<|.prim (.idxn 8) [.v 26]<|qf 0 1<|qs 28 27 24<|qh 0 1 29<|qj 0 30) (qj 0 1)) 1<|.jmp 0 false (qv [7,26]))) 2<|.jmp 0 false (qv [15,16]))) 2<|.jmp 0 false (qv [14,15]))) 2<|.jmp 0 false (qv [13,14]))) 2<|.jmp 0 false (qv [12,13]))) 2<|qh 1 11 10<|qj 0 12)
theorem ztO:zaM cx 12 89=some zt7.erase:=by kernel_rfl
theorem znJ:FnOk cx 12 noC 89 zjB:=rf_ ztO (.cons zkm (.cons zEo .nil))
def zcj (x13:Msg) (x46:List Int) (x52:Int) (s:(Int×Pool)):Option ((Int×Pool)⊕Pool) :=
 if decide (s.1<x52) then
 (getO x46 s.1).bind fun v56=>((za1 s.2 (zaT (4:Int) (0:Int) (w64 (v56 + (1:Int))) (zaH x13) (zaF x13) (0:Int) false (0:Int) (0:Int))).bind fun v61=>some (v61.1):Option Pool).bind fun v61=>some (Sum.inl (w64 (s.1 + (1:Int)),v61))
 else
 some (Sum.inr (s.2))
def zgg (x21:List (List Int)) (x22:Int) (s:(Int×(List (List Int)))):Option ((Int×(List (List Int)))⊕(List (List Int))) :=
 if decide (s.1<x22) then
 (getO x21 s.1).bind fun v26=>(zaS 1 v26).bind fun v27=>(appO 24 s.2 ([v27]:List (List Int))).bind fun v29=>some (Sum.inl (w64 (s.1 + (1:Int)),v29))
 else
 some (Sum.inr (s.2))
def zgk (x16:List Entry) (x19:Int) (s:(Int×(List Entry))):Option ((Int×(List Entry))⊕(List Entry)) :=
 if decide (s.1<x19) then
 (getO x16 s.1).bind fun v23=>(zaS 1 (zan v23)).bind fun v26=>(appO 32 s.2 ([za6 (zav v23) v26]:List Entry)).bind fun v29=>some (Sum.inl (w64 (s.1 + (1:Int)),v29))
 else
 some (Sum.inr (s.2))
def zgh (x2:List (List Int)) (x3:Int) (s:(Int×(List (List Int)))):Option ((Int×(List (List Int)))⊕(List (List Int))) :=
 if decide (s.1<x3) then
 (getO x2 s.1).bind fun v7=>(zaS 8 v7).bind fun v8=>(appO 24 s.2 ([v8]:List (List Int))).bind fun v10=>some (Sum.inl (w64 (s.1 + (1:Int)),v10))
 else
 some (Sum.inr (s.2))
def ze3 (p0:zbe) (p1:Int):Option (zbe×Int) :=
 ((let v3:Int:=(List.length (zai p0):Int)
 (zaQ (zgh (zai p0) v3) ((0:Int),([]:List (List Int))):Option (List (List Int))).bind fun v4=>some (v4):Option (List (List Int))).bind fun v3=>(let v5:Int:=(List.length (zam p0):Int)
 (zaQ (zb6 (zam p0) v5) ((0:Int),([]:List (List Int))):Option (List (List Int))).bind fun v6=>some (v6):Option (List (List Int))).bind fun v5=>(zaS 40 (zab p0)).bind fun v7=>(zaS 4 (zad p0)).bind fun v9=>(zaS 8 (zal p0)).bind fun v11=>let v19:Int:=(List.length (zay p0):Int)
 (zaQ (zgk (zay p0) v19) ((0:Int),([]:List Entry)):Option (List Entry)).bind fun v20=>let v21:List (List Int):=zaf (zax p0)
 (let v22:Int:=(v21.length:Int)
 (zaQ (zgg v21 v22) ((0:Int),([]:List (List Int))):Option (List (List Int))).bind fun v23=>some (v23):Option (List (List Int))).bind fun v22=>some ((v3,v5,v7,v9,v20,v11,v22)):Option ((List (List Int))×(List (List Int))×(List Wait)×(List Int)×(List Entry)×(List Int)×(List (List Int)))).bind fun v2=>(zdw p0).bind fun v9=>if !v9 then
 some ((zaB v2.1 v2.2.1 v2.2.2.1 v2.2.2.2.1 v2.2.2.2.2.1 v2.2.2.2.2.2.1 (za5 v2.2.2.2.2.2.2),(1:Int)))
 else
 (ziq (zax p0) p1).bind fun v12=>if decide (v12.2.2=(7:Int)) then
 some ((zaB v2.1 v2.2.1 v2.2.2.1 v2.2.2.2.1 v2.2.2.2.2.1 v2.2.2.2.2.2.1 (za5 v2.2.2.2.2.2.2),v12.2.2))
 else
 (zeW v12.1).bind fun v16=>if decide (v16<(w64 ((List.length (zab p0):Int) + (1:Int)))) then
 some ((zaB v2.1 v2.2.1 v2.2.2.1 v2.2.2.2.1 v2.2.2.2.2.1 v2.2.2.2.2.2.1 (za5 v2.2.2.2.2.2.2),(6:Int)))
 else
 (if (!decide (v12.2.2=(0:Int)))||(!(ziv p0 v12.2.1)) then
 some ((v12.1,v2.1,v2.2.1,v2.2.2.1,v2.2.2.2.1,v2.2.2.2.2.1,v2.2.2.2.2.2.1))
 else
 (if decide ((0:Int)<(zcw v12.2.1)) then
 let v25:Int:=w64 ((zcw v12.2.1) - (1:Int))
 ((idxO (List.length v2.2.2.1:Int) v25).bind fun v26=>(idxO (List.length v2.1:Int) v25).bind fun v27=>(idxO (List.length v2.1:Int) v27).bind fun v28=>(getO v2.1 v28).bind fun v30=>(idxO (v30.length:Int) (zaH v12.2.1)).bind fun v31=>(getO v2.2.2.1 v26).bind fun v32=>let v36:Bool:=decide ((zaK v32)=(w64 ((zaH v12.2.1) + (1:Int))))
 (if decide ((zaL v12.2.1)=(3:Int)) then
 (if v36 then
 (getO v2.2.2.1 v26).bind fun v39=>if !(zbG v39) then
 (getO v2.2.2.1 v26).bind fun v42=>some ((!(zcF v42)))
 else
 some (false)
 else
 some (false):Option Bool).bind fun v39=>(if v39 then
 (getO v2.2.2.1 v26).bind fun v45=>(setO v2.2.2.1 v26 (zgA v45 true)).bind fun v47=>(getO v47 v26).bind fun v48=>(setO v47 v26 (zgs v48 (zbV v12.2.1))).bind fun v50=>(getO v50 v26).bind fun v51=>(setO v50 v26 (zhH v51 (zhN v12.2.1))).bind fun v53=>(getO v53 v26).bind fun v54=>(setO v53 v26 (zgy v54 (decide ((zcS v12.2.1)=(1:Int))))).bind fun v56=>(getO v56 v26).bind fun v57=>(setO v56 v26 (zhR v57 (zcD v12.2.1))).bind fun v59=>((idxO (v59.length:Int) v25).bind fun v60=>(getO v59 v60).bind fun v61=>if (!(zcF v61))||(decide ((zbf v61)<(zbY v61))) then
 some ((v12.1,v2.1,v2.2.1,v59))
 else
 let v64:Int:=w64 ((zaK v61) - (1:Int))
 (idxO (List.length v2.1:Int) v25).bind fun v67=>(idxO (List.length v2.1:Int) v67).bind fun v68=>(getO v2.1 v68).bind fun v69=>(idxO (v69.length:Int) v64).bind fun v70=>(getO v2.1 v68).bind fun v71=>(setO v71 v70 (bif zba v61 then (3:Int) else bif zhi v61 then (2:Int) else (1:Int))).bind fun v72=>(setO v2.1 v68 v72).bind fun v73=>(if !(zeo v61) then
 (idxO (List.length v2.2.1:Int) v25).bind fun v76=>(idxO (List.length v2.2.1:Int) v76).bind fun v77=>(getO v2.2.1 v77).bind fun v79=>(idxO (v79.length:Int) v64).bind fun v80=>(getO v2.2.1 v77).bind fun v81=>(setO v81 v80 (zcG v61)).bind fun v82=>(setO v2.2.1 v77 v82).bind fun v83=>some (v83)
 else
 some (v2.2.1):Option (List (List Int))).bind fun v76=>(idxO (v59.length:Int) v25).bind fun v77=>(setO v59 v77 (zbx (0:Int) false false false false false (0:Int) (0:Int) (0:Int))).bind fun v78=>((za1 v12.1 (zaT (11:Int) (w64 (v25 + (1:Int))) (0:Int) v64 (0:Int) (0:Int) false (0:Int) (0:Int))).bind fun v81=>some (v81.1):Option Pool).bind fun v81=>some ((v81,v73,v76,v78)):Option (Pool×(List (List Int))×(List (List Int))×(List Wait))).bind fun v60=>some ((v60.1,v60.2.1,v60.2.2.1,v60.2.2.2))
 else
 some ((v12.1,v2.1,v2.2.1,v2.2.2.1)):Option (Pool×(List (List Int))×(List (List Int))×(List Wait))).bind fun v40=>some ((v40.1,v40.2.1,v40.2.2.1,v40.2.2.2))
 else
 (if decide ((zaL v12.2.1)=(5:Int)) then
 (if v36 then
 (getO v2.2.2.1 v26).bind fun v40=>if zba v40 then
 (getO v2.2.2.1 v26).bind fun v42=>some ((decide ((zbf v42)<(255:Int))))
 else
 some (false)
 else
 some (false):Option Bool).bind fun v40=>(if v40 then
 (getO v2.2.2.1 v26).bind fun v41=>(getO v2.2.2.1 v26).bind fun v44=>(setO v2.2.2.1 v26 (zkc v44 (w64 ((zbf v41) + (1:Int))))).bind fun v46=>((idxO (v46.length:Int) v25).bind fun v47=>(getO v46 v47).bind fun v48=>if (!(zcF v48))||(decide ((zbf v48)<(zbY v48))) then
 some ((v12.1,v2.1,v2.2.1,v46))
 else
 let v51:Int:=w64 ((zaK v48) - (1:Int))
 (idxO (List.length v2.1:Int) v25).bind fun v54=>(idxO (List.length v2.1:Int) v54).bind fun v55=>(getO v2.1 v55).bind fun v56=>(idxO (v56.length:Int) v51).bind fun v57=>(getO v2.1 v55).bind fun v58=>(setO v58 v57 (bif zba v48 then (3:Int) else bif zhi v48 then (2:Int) else (1:Int))).bind fun v59=>(setO v2.1 v55 v59).bind fun v60=>(if !(zeo v48) then
 (idxO (List.length v2.2.1:Int) v25).bind fun v63=>(idxO (List.length v2.2.1:Int) v63).bind fun v64=>(getO v2.2.1 v64).bind fun v66=>(idxO (v66.length:Int) v51).bind fun v67=>(getO v2.2.1 v64).bind fun v68=>(setO v68 v67 (zcG v48)).bind fun v69=>(setO v2.2.1 v64 v69).bind fun v70=>some (v70)
 else
 some (v2.2.1):Option (List (List Int))).bind fun v63=>(idxO (v46.length:Int) v25).bind fun v64=>(setO v46 v64 (zbx (0:Int) false false false false false (0:Int) (0:Int) (0:Int))).bind fun v65=>((za1 v12.1 (zaT (11:Int) (w64 (v25 + (1:Int))) (0:Int) v51 (0:Int) (0:Int) false (0:Int) (0:Int))).bind fun v68=>some (v68.1):Option Pool).bind fun v68=>some ((v68,v60,v63,v65)):Option (Pool×(List (List Int))×(List (List Int))×(List Wait))).bind fun v47=>some ((v47.1,v47.2.1,v47.2.2.1,v47.2.2.2))
 else
 some ((v12.1,v2.1,v2.2.1,v2.2.2.1)):Option (Pool×(List (List Int))×(List (List Int))×(List Wait))).bind fun v41=>some ((v41.1,v41.2.1,v41.2.2.1,v41.2.2.2))
 else
 (if decide ((zaL v12.2.1)=(4:Int)) then
 (getO v2.1 v28).bind fun v41=>(getO v41 v31).bind fun v42=>(if decide (v42=(1:Int)) then
 (getO v2.1 v28).bind fun v44=>(setO v44 v31 (0:Int)).bind fun v45=>(setO v2.1 v28 v45).bind fun v46=>some (v46)
 else
 some (v2.1):Option (List (List Int))).bind fun v44=>((za1 v12.1 (zaT (5:Int) (w64 (v25 + (1:Int))) (zbS v12.2.1) (zaH v12.2.1) (0:Int) (0:Int) false (0:Int) (0:Int))).bind fun v49=>some (v49.1):Option Pool).bind fun v49=>some ((v49,v44,v2.2.2.1))
 else
 let v41:Bool:=decide ((zaL v12.2.1)=(6:Int))
 (if bif v41 then v41 else decide ((zaL v12.2.1)=(7:Int)) then
 ((idxO (List.length v2.1:Int) v25).bind fun v43=>(idxO (List.length v2.1:Int) v43).bind fun v44=>(getO v2.1 v44).bind fun v46=>(idxO (v46.length:Int) (zaH v12.2.1)).bind fun v47=>(getO v2.1 v44).bind fun v48=>(getO v48 v47).bind fun v49=>if !(zfl v49) then
 some ((v12.1,v2.1))
 else
 let v53:Bool:=decide ((zaL v12.2.1)=(7:Int))
 (idxO (List.length v2.2.1:Int) v25).bind fun v58=>(idxO (List.length v2.2.1:Int) v58).bind fun v59=>(getO v2.2.1 v59).bind fun v61=>(idxO (v61.length:Int) (zaH v12.2.1)).bind fun v62=>(getO v2.2.1 v59).bind fun v63=>(getO v63 v62).bind fun v64=>((za1 v12.1 (zaT (3:Int) (w64 (v25 + (1:Int))) (zbS v12.2.1) (zaH v12.2.1) (0:Int) (zbV v12.2.1) v53 (0:Int) v64)).bind fun v66=>some (v66.1):Option Pool).bind fun v66=>(getO v2.1 v44).bind fun v67=>(setO v67 v47 (4:Int)).bind fun v68=>(setO v2.1 v44 v68).bind fun v69=>(if v53 then
 (getO v69 v44).bind fun v70=>(setO v70 v47 (0:Int)).bind fun v71=>(setO v69 v44 v71).bind fun v72=>some (v72)
 else
 some (v69):Option (List (List Int))).bind fun v70=>some ((v66,v70)):Option (Pool×(List (List Int)))).bind fun v43=>some ((v43.1,v43.2,v2.2.2.1))
 else
 (if decide ((zaL v12.2.1)=(10:Int)) then
 (if !v36 then
 some (true)
 else
 (getO v2.2.2.1 v26).bind fun v45=>some ((zcF v45)):Option Bool).bind fun v44=>(if v44 then
 some ((v12.1,v2.2.2.1))
 else
 ((getO v2.2.2.1 v26).bind fun v45=>if zbG v45 then
 (getO v2.1 v28).bind fun v47=>(getO v47 v31).bind fun v48=>some ((!(zfl v48)))
 else
 some (false):Option Bool).bind fun v45=>(if v45 then
 (setO v2.2.2.1 v26 (zbx (0:Int) false false false false false (0:Int) (0:Int) (0:Int))).bind fun v46=>some ((v12.1,v46))
 else
 ((idxO (List.length v2.2.2.1:Int) v25).bind fun v46=>(getO v2.2.2.1 v46).bind fun v47=>let v52:Msg:=zaT (1:Int) (w64 (v25 + (1:Int))) (0:Int) (w64 ((zaK v47) - (1:Int))) (w64 (v25 + (1:Int))) (0:Int) false (0:Int) (0:Int)
 (if zbG v47 then
 (idxO (List.length v2.2.1:Int) v25).bind fun v54=>(idxO (List.length v2.2.1:Int) v54).bind fun v55=>(getO v2.2.1 v55).bind fun v57=>(idxO (v57.length:Int) (zaH v52)).bind fun v58=>(getO v2.2.1 v55).bind fun v59=>(getO v59 v58).bind fun v60=>some ((zfr (zff (zb0 v52 (8:Int)) (0:Int)) v60))
 else
 some ((bif zba v47 then zb0 v52 (2:Int) else v52)):Option Msg).bind fun v54=>((za1 v12.1 v54).bind fun v55=>some (v55.1):Option Pool).bind fun v55=>some (v55):Option Pool).bind fun v46=>some ((v46,v2.2.2.1)):Option (Pool×(List Wait))).bind fun v46=>some ((v46.1,v46.2)):Option (Pool×(List Wait))).bind fun v45=>some ((v45.1,v2.1,v45.2))
 else
 (if decide ((zaL v12.2.1)=(9:Int)) then
 (if v36 then
 (getO v2.2.2.1 v26).bind fun v45=>some ((zbG v45))
 else
 some (false):Option Bool).bind fun v45=>(if v45 then
 (getO v2.1 v28).bind fun v46=>(setO v46 v31 (0:Int)).bind fun v47=>(setO v2.1 v28 v47).bind fun v48=>(setO v2.2.2.1 v26 (zbx (0:Int) false false false false false (0:Int) (0:Int) (0:Int))).bind fun v49=>some ((v48,v49))
 else
 some ((v2.1,v2.2.2.1)):Option ((List (List Int))×(List Wait))).bind fun v46=>some ((v46.1,v46.2))
 else
 some ((v2.1,v2.2.2.1)):Option ((List (List Int))×(List Wait))).bind fun v45=>some ((v12.1,v45.1,v45.2)):Option (Pool×(List (List Int))×(List Wait))).bind fun v44=>some ((v44.1,v44.2.1,v44.2.2)):Option (Pool×(List (List Int))×(List Wait))).bind fun v43=>some ((v43.1,v43.2.1,v43.2.2)):Option (Pool×(List (List Int))×(List Wait))).bind fun v41=>some ((v41.1,v41.2.1,v2.2.1,v41.2.2)):Option (Pool×(List (List Int))×(List (List Int))×(List Wait))).bind fun v40=>some ((v40.1,v40.2.1,v40.2.2.1,v40.2.2.2)):Option (Pool×(List (List Int))×(List (List Int))×(List Wait))).bind fun v39=>some ((v39.1,v39.2.1,v39.2.2.1,v39.2.2.2)):Option (Pool×(List (List Int))×(List (List Int))×(List Wait))).bind fun v26=>some ((v26.1,v26.2.1,v26.2.2.1,v26.2.2.2,v2.2.2.2.1,v2.2.2.2.2.1,v2.2.2.2.2.2.1))
 else
 (if decide ((0:Int)<(zaF v12.2.1)) then
 (let v27:Bool:=decide ((zaL v12.2.1)=(1:Int))
 zbm (if bif v27 then v27 else decide ((zaL v12.2.1)=(2:Int)) then
 (if !decide ((zbS v12.2.1)=(zaF v12.2.1)) then
 some ((v12.1,v2.2.2.2.2.1,v2.2.2.2.2.2.1))
 else
 (idxO (List.length v2.2.2.2.2.2.1:Int) (zaH v12.2.1)).bind fun v33=>(getO v2.2.2.2.2.2.1 v33).bind fun v34=>if decide ((0:Int)<v34) then
 ((za1 v12.1 (zaT (10:Int) (0:Int) (zaF v12.2.1) (zaH v12.2.1) (0:Int) (0:Int) false (0:Int) (0:Int))).bind fun v39=>some (v39.1):Option Pool).bind fun v39=>some ((v39,v2.2.2.2.2.1,v2.2.2.2.2.2.1))
 else
 (idxO (List.length v2.2.2.2.2.2.1:Int) (zaH v12.2.1)).bind fun v38=>(setO v2.2.2.2.2.2.1 v38 (zaF v12.2.1)).bind fun v39=>(idxO (List.length v2.2.2.2.2.1:Int) (zaH v12.2.1)).bind fun v41=>(getO v2.2.2.2.2.1 v41).bind fun v42=>(if decide ((zaL v12.2.1)=(2:Int)) then
 (zeh v42 (w64 ((zaF v12.2.1) - (1:Int)))).bind fun v47=>some ((v47.2.1,v47.2.2.1,(7:Int),v47.1))
 else
 (zfd v42 (w64 ((zaF v12.2.1) - (1:Int)))).bind fun v47=>some ((v47.2.1,([]:List Int),(6:Int),v47.1)):Option (Int×(List Int)×Int×Entry)).bind fun v45=>(idxO (List.length v2.2.2.2.2.1:Int) (zaH v12.2.1)).bind fun v50=>(setO v2.2.2.2.2.1 v50 v45.2.2.2).bind fun v51=>let v52:Int:=(List.length v45.2.1:Int)
 (zaQ (zcj v12.2.1 v45.2.1 v52) ((0:Int),v12.1):Option Pool).bind fun v53=>(if decide ((zav v45.2.2.2)=(zaF v12.2.1)) then
 (zdE v45.2.2.2).bind fun v57=>some (v57)
 else
 some (false):Option Bool).bind fun v54=>(if decide (v45.1=(0:Int)) then
 (idxO (List.length v2.2.2.2.1:Int) (zaH v12.2.1)).bind fun v60=>(getO v2.2.2.2.1 v60).bind fun v61=>((za1 v53 (zaT (3:Int) (0:Int) (zaF v12.2.1) (zaH v12.2.1) (0:Int) (List.length v45.2.1:Int) v54 (0:Int) v61)).bind fun v63=>some (v63.1):Option Pool).bind fun v63=>some (v63)
 else
 (if decide (v45.1=(zaF v12.2.1)) then
 ((za1 v53 (zaT (3:Int) (0:Int) (zaF v12.2.1) (zaH v12.2.1) (0:Int) (List.length v45.2.1:Int) v54 (1:Int) (0:Int))).bind fun v62=>some (v62.1):Option Pool).bind fun v62=>some (v62)
 else
 ((za1 v53 (zaT v45.2.2.1 (0:Int) v45.1 (zaH v12.2.1) (zaF v12.2.1) (List.length v45.2.1:Int) false (0:Int) (0:Int))).bind fun v62=>some (v62.1):Option Pool).bind fun v62=>some (v62):Option Pool).bind fun v58=>some (v58):Option Pool).bind fun v56=>some ((v56,v51,v39)):Option (Pool×(List Entry)×(List Int))).bind fun v29=>some (Sum.inl (v29.1,v2.2.2.2.1,v29.2.1,v29.2.2))
 else
 zbm (if decide ((zaL v12.2.1)=(8:Int)) then
 (idxO (List.length v2.2.2.2.2.2.1:Int) (zaH v12.2.1)).bind fun v31=>(getO v2.2.2.2.2.2.1 v31).bind fun v32=>if decide ((0:Int)<v32) then
 ((za1 v12.1 (zaT (10:Int) (0:Int) (zaF v12.2.1) (zaH v12.2.1) (0:Int) (0:Int) false (0:Int) (0:Int))).bind fun v37=>some (v37.1):Option Pool).bind fun v37=>some (Sum.inr (Sum.inr ((v37,v2.2.2.2.1,v2.2.2.2.2.1,v2.2.2.2.2.2.1))))
 else
 (idxO (List.length v2.2.2.2.2.1:Int) (zaH v12.2.1)).bind fun v35=>(getO v2.2.2.2.2.1 v35).bind fun v36=>(ziz v36 (w64 ((zaF v12.2.1) - (1:Int)))).bind fun v39=>(if decide (v39.2=(0:Int)) then
 (idxO (List.length v2.2.2.2.2.1:Int) (zaH v12.2.1)).bind fun v45=>(setO v2.2.2.2.2.1 v45 v39.1).bind fun v46=>(idxO (List.length v2.2.2.2.1:Int) (zaH v12.2.1)).bind fun v47=>(setO v2.2.2.2.1 v47 (zcD v12.2.1)).bind fun v48=>some ((v48,v46))
 else
 some ((v2.2.2.2.1,v2.2.2.2.2.1)):Option ((List Int)×(List Entry))).bind fun v42=>((za1 v12.1 (zaT (9:Int) (0:Int) (zaF v12.2.1) (zaH v12.2.1) (0:Int) (0:Int) false (0:Int) (0:Int))).bind fun v47=>some (v47.1):Option Pool).bind fun v47=>some (Sum.inl (v47,v42.1,v42.2,v2.2.2.2.2.2.1))
 else
 (if decide ((zaL v12.2.1)=(11:Int)) then
 (idxO (List.length v2.2.2.2.2.2.1:Int) (zaH v12.2.1)).bind fun v32=>(getO v2.2.2.2.2.2.1 v32).bind fun v33=>(if decide (v33=(zaF v12.2.1)) then
 (idxO (List.length v2.2.2.2.2.2.1:Int) (zaH v12.2.1)).bind fun v37=>(setO v2.2.2.2.2.2.1 v37 (0:Int)).bind fun v38=>some (v38)
 else
 some (v2.2.2.2.2.2.1):Option (List Int)).bind fun v36=>some (v36)
 else
 some (v2.2.2.2.2.2.1):Option (List Int)).bind fun v31=>some (Sum.inl (v12.1,v2.2.2.2.1,v2.2.2.2.2.1,v31)):Option ((Pool×(List Int)×(List Entry)×(List Int))⊕(Pool×(List Int)×(List Entry)×(List Int))⊕(Pool×(List Int)×(List Entry)×(List Int)))) fun v30=>some (Sum.inl (v30.1,v30.2.1,v30.2.2.1,v30.2.2.2)):Option ((Pool×(List Int)×(List Entry)×(List Int))⊕(Pool×(List Int)×(List Entry)×(List Int)))) fun v29=>some ((v29.1,v29.2.1,v29.2.2.1,v29.2.2.2)):Option (Pool×(List Int)×(List Entry)×(List Int))).bind fun v26=>some ((v26.1,v26.2.1,v26.2.2.1,v26.2.2.2))
 else
 some ((v12.1,v2.2.2.2.1,v2.2.2.2.2.1,v2.2.2.2.2.2.1)):Option (Pool×(List Int)×(List Entry)×(List Int))).bind fun v26=>some ((v26.1,v2.1,v2.2.1,v2.2.2.1,v26.2.1,v26.2.2.1,v26.2.2.2)):Option (Pool×(List (List Int))×(List (List Int))×(List Wait)×(List Int)×(List Entry)×(List Int))).bind fun v24=>some ((v24.1,v24.2.1,v24.2.2.1,v24.2.2.2.1,v24.2.2.2.2.1,v24.2.2.2.2.2.1,v24.2.2.2.2.2.2)):Option (Pool×(List (List Int))×(List (List Int))×(List Wait)×(List Int)×(List Entry)×(List Int))).bind fun v22=>some ((zaB v22.2.1 v22.2.2.1 v22.2.2.2.1 v22.2.2.2.2.1 v22.2.2.2.2.2.1 v22.2.2.2.2.2.2 v22.1,v12.2.2))
def zls:FnT:=⟨[zbD,.int .i64],[zbD,.int .i64],fun x=>ze3 x.1 x.2⟩
def zkq:TA :=
 .sub0 [.sl (.sl (.int .i64)),.sl (.sl (.int .u32)),.sl zd2,.sl (.int .u32),.sl zbF,.sl (.int .i64),.sl (.sl (.int .u8))] (qf 0 0<|.sub0 [.sl (.sl (.int .i64))] (ql 2<|.sub0 [.sl (.sl (.int .i64))] (.loop [.int .i64,.sl (.sl (.int .i64))] [(qz 0),.c .nil] (qb .lss 4 3<|qe 6 (qg 2 4<|qc 8 7<|.mkL (.sl (.int .i64)) [.v 8]<|qa 24 5 9<|qk .add 4 1<|.jmp 0 true (qv [11,10])) (qj 1 5))) 1<|qj 0 4) 1<|qf 1 0<|.sub0 [.sl (.sl (.int .u32))] (ql 4<|.sub0 [.sl (.sl (.int .u32))] (.loop [.int .i64,.sl (.sl (.int .u32))] [(qz 0),.c .nil] (qb .lss 6 5<|qe 8 (qg 4 6<|qc 4 9<|.mkL (.sl (.int .u32)) [.v 10]<|qa 24 7 11<|qk .add 6 1<|.jmp 0 true (qv [13,12])) (qj 1 7))) 1<|qj 0 6) 1<|qf 2 0<|qc 40 6<|qf 3 0<|qc 4 8<|qf 5 0<|qc 8 10<|qN 7 0 0<|ql 16<|.sub0 [.sl zbF] (.loop [.int .i64,.sl zbF] [(qz 0),.c .nil] (qb .lss 20 19<|qe 22 (qg 16 20<|qN 2 0 23<|qc 1 25<|.mkS zdY (qv [24,26])<|.mkL zbF [.v 27]<|qa 32 21 28<|qk .add 20 1<|.jmp 0 true (qv [30,29])) (qj 1 21))) 1<|qf 0 18<|.sub0 [.sl (.sl (.int .u8))] (ql 21<|.sub0 [.sl (.sl (.int .u8))] (.loop [.int .i64,.sl (.sl (.int .u8))] [(qz 0),.c .nil] (qb .lss 23 22<|qe 25 (qg 21 23<|qc 1 26<|.mkL (.sl (.int .u8)) [.v 27]<|qa 24 24 28<|qk .add 23 1<|.jmp 0 true (qv [30,29])) (qj 1 24))) 1<|qj 0 23) 1<|.jmp 0 false (qv [3,5,7,9,20,11,22])) 7<|.call 33 ze1 [.v 0] 1<|qn 9<|qe 10 (.mkS zd8 [.v 8]<|.mkS zcX (qv [2,3,4,5,6,7,11])<|.jmp 0 false [.v 12,(qz 1)]) (qf 6 0<|.call 150 zuW (qv [11,1]) 3<|qk .eql 14 7<|qe 15 (.mkS zd8 [.v 8]<|.mkS zcX (qv [2,3,4,5,6,7,16])<|.jmp 0 false (qv [17,14])) (.call 151 zhk [.v 12] 1<|qf 2 0<|ql 17<|qk .add 18 1<|qb .lss 16 19<|qe 20 (.mkS zd8 [.v 8]<|.mkS zcX (qv [2,3,4,5,6,7,21])<|.jmp 0 false [.v 22,(qz 6)]) (.subp [.bool] (qk .neq 14 0<|qe 21 (qt 0 true) (.callp 152 zq4 (qv [0,13]) 1<|qn 22<|qj 0 23)) 1<|.sub0 [zb3,.sl (.sl (.int .i64)),.sl (.sl (.int .u32)),.sl zd2,.sl (.int .u32),.sl zbF,.sl (.int .i64)] (qe 21 (.jmp 0 false (qv [12,2,3,4,5,6,7])) (qf 2 13<|qk .gtr 22 0<|.sub0 [zb3,.sl (.sl (.int .i64)),.sl (.sl (.int .u32)),.sl zd2,.sl (.int .u32),.sl zbF,.sl (.int .i64)] (qe 23 (qf 2 13<|qk .sub 24 1<|.sub0 [zb3,.sl (.sl (.int .i64)),.sl (.sl (.int .u32)),.sl zd2] (qi 4 25<|qi 2 25<|qi 2 27<|qf 3 13<|qg 2 28<|qi 30 29<|qg 4 26<|qf 0 32<|qf 3 13<|qk .add 34 1<|qb .eql 33 35<|qf 0 13<|qk .eql 37 3<|.sub0 [zb3,.sl (.sl (.int .i64)),.sl (.sl (.int .u32)),.sl zd2] (qe 38 (.sub0 [.bool] (qe 36 (qg 4 26<|qf 2 39<|qn 40<|qe 41 (qg 4 26<|qf 3 42<|qn 43<|qj 0 44) (qt 0 false)) (qt 0 false)) 1<|.sub0 [zb3,.sl (.sl (.int .i64)),.sl (.sl (.int .u32)),.sl zd2] (qe 39 (qN 3 5 13<|.prim (.bin .eql) [.v 42,.c (.int .u32 1)]<|qf 8 13<|qg 4 26<|.prim (.setf 3) [.v 45,.c (.bool true)]<|qs 4 26 46<|qg 47 26<|qh 6 48 40<|qs 47 26 49<|qg 50 26<|qh 4 51 41<|qs 50 26 52<|qg 53 26<|qh 5 54 43<|qs 53 26 55<|qg 56 26<|qh 8 57 44<|qs 56 26 58<|.sub0 [zb3,.sl (.sl (.int .i64)),.sl (.sl (.int .u32)),.sl zd2] (qi 59 25<|qg 59 60<|.subp [.bool] (qf 3 61<|qn 62<|qe 63 (qt 0 true) (qf 7 61<|qf 6 61<|qb .lss 64 65<|qj 0 66)) 1<|qe 62 (.jmp 0 false (qv [12,2,3,59])) (qf 0 61<|qk .sub 63 1<|qf 1 61<|.subp [.int .i64] (qe 65 (.jmp 0 false [(qz 3)]) (qf 4 61<|.subp [.int .i64] (qe 66 (.jmp 0 false [(qz 2)]) (.jmp 0 false [(qz 1)])) 1<|qj 0 67)) 1<|qi 2 25<|qi 2 67<|qg 2 68<|qi 69 64<|qg 2 68<|qs 71 70 66<|qs 2 68 72<|qf 5 61<|qn 74<|.sub0 [.sl (.sl (.int .u32))] (qe 75 (qi 3 25<|qi 3 76<|qf 8 61<|qg 3 77<|qi 79 64<|qg 3 77<|qs 81 80 78<|qs 3 77 82<|qj 0 83) (qj 0 3)) 1<|qi 59 25<|.primH .set zd2 [.v 59,.v 77,.c (.agg [(.int .i64 0),(.bool false),(.bool false),(.bool false),(.bool false),(.bool false),(.int .i64 0),(.int .i64 0),(.int .u32 0)])]<|qk .add 25 1<|.mkS zmc [(qz 11),.v 79,(qz 0),.v 64,(qz 0),(qz 0),.c (.bool false),.c (.int .u32 0),.c (.int .u32 0)]<|.sub0 [zb3] (.call 221 zbM (qv [12,80]) 2<|qj 0 81) 1<|.jmp 0 false (qv [81,73,76,78]))) 4<|.jmp 0 false (qv [60,61,62,63])) (.jmp 0 false (qv [12,2,3,4]))) 4<|.jmp 0 false (qv [40,41,42,43])) (qk .eql 37 5<|.sub0 [zb3,.sl (.sl (.int .i64)),.sl (.sl (.int .u32)),.sl zd2] (qe 39 (.sub0 [.bool] (qe 36 (qg 4 26<|qf 1 40<|qe 41 (qg 4 26<|qf 7 42<|qk .lss 43 255<|qj 0 44) (qt 0 false)) (qt 0 false)) 1<|.sub0 [zb3,.sl (.sl (.int .i64)),.sl (.sl (.int .u32)),.sl zd2] (qe 40 (qg 4 26<|qf 7 41<|qk .add 42 1<|qg 4 26<|qh 7 44 43<|qs 4 26 45<|.sub0 [zb3,.sl (.sl (.int .i64)),.sl (.sl (.int .u32)),.sl zd2] (qi 46 25<|qg 46 47<|.subp [.bool] (qf 3 48<|qn 49<|qe 50 (qt 0 true) (qf 7 48<|qf 6 48<|qb .lss 51 52<|qj 0 53)) 1<|qe 49 (.jmp 0 false (qv [12,2,3,46])) (qf 0 48<|qk .sub 50 1<|qf 1 48<|.subp [.int .i64] (qe 52 (.jmp 0 false [(qz 3)]) (qf 4 48<|.subp [.int .i64] (qe 53 (.jmp 0 false [(qz 2)]) (.jmp 0 false [(qz 1)])) 1<|qj 0 54)) 1<|qi 2 25<|qi 2 54<|qg 2 55<|qi 56 51<|qg 2 55<|qs 58 57 53<|qs 2 55 59<|qf 5 48<|qn 61<|.sub0 [.sl (.sl (.int .u32))] (qe 62 (qi 3 25<|qi 3 63<|qf 8 48<|qg 3 64<|qi 66 51<|qg 3 64<|qs 68 67 65<|qs 3 64 69<|qj 0 70) (qj 0 3)) 1<|qi 46 25<|.primH .set zd2 [.v 46,.v 64,.c (.agg [(.int .i64 0),(.bool false),(.bool false),(.bool false),(.bool false),(.bool false),(.int .i64 0),(.int .i64 0),(.int .u32 0)])]<|qk .add 25 1<|.mkS zmc [(qz 11),.v 66,(qz 0),.v 51,(qz 0),(qz 0),.c (.bool false),.c (.int .u32 0),.c (.int .u32 0)]<|.sub0 [zb3] (.call 221 zbM (qv [12,67]) 2<|qj 0 68) 1<|.jmp 0 false (qv [68,60,63,65]))) 4<|.jmp 0 false (qv [47,48,49,50])) (.jmp 0 false (qv [12,2,3,4]))) 4<|.jmp 0 false (qv [41,42,43,44])) (qk .eql 37 4<|.sub0 [zb3,.sl (.sl (.int .i64)),.sl zd2] (qe 40 (qg 2 28<|qg 41 31<|qk .eql 42 1<|.sub0 [.sl (.sl (.int .i64))] (qe 43 (qg 2 28<|.prim .set [.v 44,.v 31,(qz 0)]<|qs 2 28 45<|qj 0 46) (qj 0 2)) 1<|qk .add 25 1<|qf 4 13<|qf 3 13<|.mkS zmc [(qz 5),.v 45,.v 46,.v 47,(qz 0),(qz 0),.c (.bool false),.c (.int .u32 0),.c (.int .u32 0)]<|.sub0 [zb3] (.call 221 zbM (qv [12,48]) 2<|qj 0 49) 1<|.jmp 0 false (qv [49,44,4])) (qk .eql 37 6<|.subp [.bool] (qe 41 (qj 0 41) (qk .eql 37 7<|qj 0 42)) 1<|.sub0 [zb3,.sl (.sl (.int .i64)),.sl zd2] (qe 42 (.sub0 [zb3,.sl (.sl (.int .i64))] (qi 2 25<|qi 2 43<|qf 3 13<|qg 2 44<|qi 46 45<|qg 2 44<|qg 48 47<|.callp 199 zkk [.v 49] 1<|qn 50<|qe 51 (.jmp 0 false (qv [12,2])) (qf 0 13<|qk .eql 52 7<|qk .add 25 1<|qf 4 13<|qf 3 13<|qf 5 13<|qi 3 25<|qi 3 58<|qf 3 13<|qg 3 59<|qi 61 60<|qg 3 59<|qg 63 62<|.mkS zmc [(qz 3),.v 54,.v 55,.v 56,(qz 0),.v 57,.v 53,.c (.int .u32 0),.v 64]<|.sub0 [zb3] (.call 221 zbM (qv [12,65]) 2<|qj 0 66) 1<|qg 2 44<|.prim .set [.v 67,.v 47,(qz 4)]<|qs 2 44 68<|.sub0 [.sl (.sl (.int .i64))] (qe 53 (qg 69 44<|.prim .set [.v 70,.v 47,(qz 0)]<|qs 69 44 71<|qj 0 72) (qj 0 69)) 1<|.jmp 0 false (qv [66,70]))) 2<|.jmp 0 false (qv [43,44,4])) (qk .eql 37 10<|.sub0 [zb3,.sl (.sl (.int .i64)),.sl zd2] (qe 43 (.sub0 [.bool] (qn 36<|qe 44 (qt 0 true) (qg 4 26<|qf 3 45<|qj 0 46)) 1<|.sub0 [zb3,.sl zd2] (qe 44 (.jmp 0 false (qv [12,4])) (.sub0 [.bool] (qg 4 26<|qf 2 45<|qe 46 (qg 2 28<|qg 47 31<|.callp 199 zkk [.v 48] 1<|qn 49<|qj 0 50) (qt 0 false)) 1<|.sub0 [zb3,.sl zd2] (qe 45 (.primH .set zd2 [.v 4,.v 26,.c (.agg [(.int .i64 0),(.bool false),(.bool false),(.bool false),(.bool false),(.bool false),(.int .i64 0),(.int .i64 0),(.int .u32 0)])]<|.jmp 0 false (qv [12,46])) (.sub0 [zb3] (qi 4 25<|qg 4 46<|qk .add 25 1<|qf 0 47<|qk .sub 49 1<|qk .add 25 1<|.mkS zmc [(qz 1),.v 48,(qz 0),.v 50,.v 51,(qz 0),.c (.bool false),.c (.int .u32 0),.c (.int .u32 0)]<|qf 2 47<|.sub0 [tMsg] (qe 53 (qi 3 25<|qi 3 54<|qf 3 52<|qg 3 55<|qi 57 56<|qg 3 55<|qg 59 58<|.prim (.setf 0) [.v 52,(qz 8)]<|.prim (.setf 4) [.v 61,(qz 0)]<|qh 8 62 60<|qj 0 63) (qf 1 47<|.subp [tMsg] (qe 54 (.prim (.setf 0) [.v 52,(qz 2)]<|qj 0 55) (qj 0 52)) 1<|qj 0 55)) 1<|.sub0 [zb3] (.call 221 zbM (qv [12,54]) 2<|qj 0 55) 1<|qj 0 55) 1<|.jmp 0 false (qv [46,4]))) 2<|.jmp 0 false (qv [46,47]))) 2<|.jmp 0 false (qv [45,2,46])) (qk .eql 37 9<|.sub0 [.sl (.sl (.int .i64)),.sl zd2] (qe 44 (.sub0 [.bool] (qe 36 (qg 4 26<|qf 2 45<|qj 0 46) (qt 0 false)) 1<|.sub0 [.sl (.sl (.int .i64)),.sl zd2] (qe 45 (qg 2 28<|.prim .set [.v 46,.v 31,(qz 0)]<|qs 2 28 47<|.primH .set zd2 [.v 4,.v 26,.c (.agg [(.int .i64 0),(.bool false),(.bool false),(.bool false),(.bool false),(.bool false),(.int .i64 0),(.int .i64 0),(.int .u32 0)])]<|.jmp 0 false (qv [48,49])) (.jmp 0 false (qv [2,4]))) 2<|.jmp 0 false (qv [46,47])) (.jmp 0 false (qv [2,4]))) 2<|.jmp 0 false (qv [12,45,46]))) 3<|.jmp 0 false (qv [44,45,46]))) 3<|.jmp 0 false (qv [43,44,45]))) 3<|.jmp 0 false (qv [41,42,3,43]))) 4<|.jmp 0 false (qv [40,41,42,43]))) 4<|.jmp 0 false (qv [39,40,41,42])) 4<|.jmp 0 false (qv [26,27,28,29,5,6,7])) (qf 1 13<|qk .gtr 24 0<|.sub0 [zb3,.sl (.int .u32),.sl zbF,.sl (.int .i64)] (qe 25 (.sub0 [zb3,.sl (.int .u32),.sl zbF,.sl (.int .i64)] (qf 0 13<|qk .eql 26 1<|.subp [.bool] (qe 27 (qj 0 27) (qk .eql 26 2<|qj 0 28)) 1<|.sub1 [zb3,.sl (.int .u32),.sl zbF,.sl (.int .i64)] (qe 28 (.sub0 [zb3,.sl zbF,.sl (.int .i64)] (qf 4 13<|qf 1 13<|qb .neq 29 30<|qe 31 (.jmp 0 false (qv [12,6,7])) (qf 3 13<|qi 7 32<|qg 7 33<|qk .gtr 34 0<|qe 35 (qf 1 13<|qf 3 13<|.mkS zmc [(qz 10),(qz 0),.v 36,.v 37,(qz 0),(qz 0),.c (.bool false),.c (.int .u32 0),.c (.int .u32 0)]<|.sub0 [zb3] (.call 221 zbM (qv [12,38]) 2<|qj 0 39) 1<|.jmp 0 false (qv [39,6,7])) (qf 3 13<|qf 1 13<|qi 7 36<|qs 7 38 37<|qf 3 13<|qi 6 40<|qg 6 41<|qf 0 13<|qk .eql 43 2<|.sub0 [.int .i64,.sl (.int .i64),.int .i64,zbF] (qe 44 (qf 1 13<|qk .sub 45 1<|.call 222 zot (qv [42,46]) 4<|.jmp 0 false [.v 48,.v 49,(qz 7),.v 47]) (qf 1 13<|qk .sub 45 1<|.call 223 zry (qv [42,46]) 3<|.jmp 0 false [.v 48,.c .nil,(qz 6),.v 47])) 4<|qf 3 13<|qi 6 49<|qs 6 50 48<|ql 46<|.sub0 [zb3] (.loop [.int .i64,zb3] [(qz 0),.v 12] (qb .lss 53 52<|qe 55 (qg 46 53<|qk .add 56 1<|qf 3 13<|qf 1 13<|.mkS zmc [(qz 4),(qz 0),.v 57,.v 58,.v 59,(qz 0),.c (.bool false),.c (.int .u32 0),.c (.int .u32 0)]<|.sub0 [zb3] (.call 221 zbM (qv [54,60]) 2<|qj 0 61) 1<|qk .add 53 1<|.jmp 0 true (qv [62,61])) (qj 1 54))) 1<|.sub0 [.bool] (qf 0 48<|qf 1 13<|qb .eql 54 55<|qe 56 (.call 224 zpi [.v 48] 1<|qj 0 57) (qt 0 false)) 1<|qk .eql 45 0<|.sub0 [zb3] (qe 55 (qf 1 13<|qf 3 13<|ql 46<|qf 3 13<|qi 5 59<|qg 5 60<|.mkS zmc [(qz 3),(qz 0),.v 56,.v 57,(qz 0),.v 58,.v 54,.c (.int .u32 0),.v 61]<|.sub0 [zb3] (.call 221 zbM (qv [53,62]) 2<|qj 0 63) 1<|qj 0 63) (qf 1 13<|qb .eql 45 56<|.sub0 [zb3] (qe 57 (qf 1 13<|qf 3 13<|ql 46<|.mkS zmc [(qz 3),(qz 0),.v 58,.v 59,(qz 0),.v 60,.v 54,.c (.int .u32 1),.c (.int .u32 0)]<|.sub0 [zb3] (.call 221 zbM (qv [53,61]) 2<|qj 0 62) 1<|qj 0 62) (qf 3 13<|qf 1 13<|ql 46<|.mkS zmc [.v 47,(qz 0),.v 45,.v 58,.v 59,.v 60,.c (.bool false),.c (.int .u32 0),.c (.int .u32 0)]<|.sub0 [zb3] (.call 221 zbM (qv [53,61]) 2<|qj 0 62) 1<|qj 0 62)) 1<|qj 0 58)) 1<|.jmp 0 false (qv [56,51,39])))) 3<|.jmp 0 false (qv [29,5,30,31])) (qk .eql 26 8<|.sub1 [zb3,.sl (.int .u32),.sl zbF,.sl (.int .i64)] (qe 29 (qf 3 13<|qi 7 30<|qg 7 31<|qk .gtr 32 0<|qe 33 (qf 1 13<|qf 3 13<|.mkS zmc [(qz 10),(qz 0),.v 34,.v 35,(qz 0),(qz 0),.c (.bool false),.c (.int .u32 0),.c (.int .u32 0)]<|.sub0 [zb3] (.call 221 zbM (qv [12,36]) 2<|qj 0 37) 1<|.jmp 2 false (qv [37,5,6,7])) (qf 3 13<|qi 6 34<|qg 6 35<|qf 1 13<|qk .sub 37 1<|.call 201 zrg (qv [36,38]) 2<|qk .eql 40 0<|.sub0 [.sl (.int .u32),.sl zbF] (qe 41 (qf 3 13<|qf 3 13<|qf 8 13<|qi 6 42<|qs 6 45 39<|qi 5 43<|qs 5 47 44<|.jmp 0 false (qv [48,46])) (.jmp 0 false (qv [5,6]))) 2<|qf 1 13<|qf 3 13<|.mkS zmc [(qz 9),(qz 0),.v 44,.v 45,(qz 0),(qz 0),.c (.bool false),.c (.int .u32 0),.c (.int .u32 0)]<|.sub0 [zb3] (.call 221 zbM (qv [12,46]) 2<|qj 0 47) 1<|.jmp 0 false (qv [47,42,43,7]))) (qk .eql 26 11<|.sub0 [.sl (.int .i64)] (qe 30 (qf 3 13<|qi 7 31<|qg 7 32<|qf 1 13<|qb .eql 33 34<|.sub0 [.sl (.int .i64)] (qe 35 (qf 3 13<|qi 7 36<|.prim .set [.v 7,.v 37,(qz 0)]<|qj 0 38) (qj 0 7)) 1<|qj 0 36) (qj 0 7)) 1<|.jmp 0 false (qv [12,5,6,31]))) 4<|.jmp 0 false (qv [30,31,32,33]))) 4<|.jmp 0 false (qv [29,30,31,32])) 4<|.jmp 0 false (qv [26,27,28,29])) (.jmp 0 false (qv [12,5,6,7]))) 4<|.jmp 0 false (qv [26,2,3,4,27,28,29]))) 7<|.jmp 0 false (qv [24,25,26,27,28,29,30]))) 7<|.mkS zcX (qv [23,24,25,26,27,28,22])<|.jmp 0 false (qv [29,14]))))
theorem zkT:zaM cx 12 108=some zkq.erase:=by kernel_rfl
theorem zuk:FnOk cx 12 noC 108 zls:=rf_ zkT (.cons zgK (.cons zBJ (.cons zje (.cons zyz (.cons zbX (.cons zbX (.cons zbX (.cons zqD (.cons zbX (.cons zqD (.cons zbX (.cons zbX (.cons zxC (.cons zyt (.cons zbX (.cons zxx (.cons zbX (.cons zbX (.cons zbX (.cons zbX (.cons zzn (.cons zbX .nil))))))))))))))))))))))
def zmN (x22:List (List Int)) (x23:Int) (s:(Int×(List (List Int)))):Option ((Int×(List (List Int)))⊕(List (List Int))) :=
 if decide (s.1<x23) then
 (getO x22 s.1).bind fun v27=>(zaS 1 v27).bind fun v28=>(appO 24 s.2 ([v28]:List (List Int))).bind fun v30=>some (Sum.inl (w64 (s.1 + (1:Int)),v30))
 else
 some (Sum.inr (s.2))
def zmh (x17:List Entry) (x20:Int) (s:(Int×(List Entry))):Option ((Int×(List Entry))⊕(List Entry)) :=
 if decide (s.1<x20) then
 (getO x17 s.1).bind fun v24=>(zaS 1 (zan v24)).bind fun v27=>(appO 32 s.2 ([za6 (zav v24) v27]:List Entry)).bind fun v30=>some (Sum.inl (w64 (s.1 + (1:Int)),v30))
 else
 some (Sum.inr (s.2))
def zmS (x3:List (List Int)) (x4:Int) (s:(Int×(List (List Int)))):Option ((Int×(List (List Int)))⊕(List (List Int))) :=
 if decide (s.1<x4) then
 (getO x3 s.1).bind fun v8=>(zaS 8 v8).bind fun v9=>(appO 24 s.2 ([v9]:List (List Int))).bind fun v11=>some (Sum.inl (w64 (s.1 + (1:Int)),v11))
 else
 some (Sum.inr (s.2))
def zjC (p0:zbe) (p1 p2:Int):Option (zbe×Int) :=
 ((let v4:Int:=(List.length (zai p0):Int)
 (zaQ (zmS (zai p0) v4) ((0:Int),([]:List (List Int))):Option (List (List Int))).bind fun v5=>some (v5):Option (List (List Int))).bind fun v4=>(let v6:Int:=(List.length (zam p0):Int)
 (zaQ (zfu (zam p0) v6) ((0:Int),([]:List (List Int))):Option (List (List Int))).bind fun v7=>some (v7):Option (List (List Int))).bind fun v6=>(zaS 40 (zab p0)).bind fun v8=>(zaS 4 (zad p0)).bind fun v10=>(zaS 8 (zal p0)).bind fun v12=>let v20:Int:=(List.length (zay p0):Int)
 (zaQ (zmh (zay p0) v20) ((0:Int),([]:List Entry)):Option (List Entry)).bind fun v21=>let v22:List (List Int):=zaf (zax p0)
 (let v23:Int:=(v22.length:Int)
 (zaQ (zmN v22 v23) ((0:Int),([]:List (List Int))):Option (List (List Int))).bind fun v24=>some (v24):Option (List (List Int))).bind fun v23=>some ((v4,v6,v8,v10,v21,v12,v23)):Option ((List (List Int))×(List (List Int))×(List Wait)×(List Int)×(List Entry)×(List Int)×(List (List Int)))).bind fun v3=>(zdz p0 p1 p2).bind fun v10=>if !v10 then
 some ((zaB v3.1 v3.2.1 v3.2.2.1 v3.2.2.2.1 v3.2.2.2.2.1 v3.2.2.2.2.2.1 (za5 v3.2.2.2.2.2.2),(1:Int)))
 else
 ((getO (zab p0) p1).bind fun v13=>if decide ((0:Int)<(zaK v13)) then
 some (true)
 else
 (getO (zai p0) p1).bind fun v17=>(getO v17 p2).bind fun v18=>some ((decide (v18=(0:Int)))):Option Bool).bind fun v12=>if v12 then
 some ((zaB v3.1 v3.2.1 v3.2.2.1 v3.2.2.2.1 v3.2.2.2.2.1 v3.2.2.2.2.2.1 (za5 v3.2.2.2.2.2.2),(8:Int)))
 else
 (getO (zai p0) p1).bind fun v14=>(getO v14 p2).bind fun v15=>if decide (v15=(1:Int)) then
 (idxO (List.length v3.1:Int) p1).bind fun v17=>(idxO (List.length v3.1:Int) v17).bind fun v18=>(getO v3.1 v18).bind fun v19=>(idxO (v19.length:Int) p2).bind fun v20=>(getO v3.1 v18).bind fun v21=>(setO v21 v20 (0:Int)).bind fun v22=>(setO v3.1 v18 v22).bind fun v23=>some ((zaB v23 v3.2.1 v3.2.2.1 v3.2.2.2.1 v3.2.2.2.2.1 v3.2.2.2.2.2.1 (za5 v3.2.2.2.2.2.2),(0:Int)))
 else
 (zeW (zax p0)).bind fun v18=>if decide (v18=(0:Int)) then
 some ((zaB v3.1 v3.2.1 v3.2.2.1 v3.2.2.2.1 v3.2.2.2.2.1 v3.2.2.2.2.2.1 (za5 v3.2.2.2.2.2.2),(6:Int)))
 else
 (idxO (List.length v3.2.2.1:Int) p1).bind fun v22=>(setO v3.2.2.1 v22 (zbx (w64 (p2 + (1:Int))) false true false false false (0:Int) (0:Int) (0:Int))).bind fun v23=>((idxO (v23.length:Int) p1).bind fun v24=>(getO v23 v24).bind fun v25=>let v30:Msg:=zaT (1:Int) (w64 (p1 + (1:Int))) (0:Int) (w64 ((zaK v25) - (1:Int))) (w64 (p1 + (1:Int))) (0:Int) false (0:Int) (0:Int)
 (if zbG v25 then
 (idxO (List.length v3.2.1:Int) p1).bind fun v32=>(idxO (List.length v3.2.1:Int) v32).bind fun v33=>(getO v3.2.1 v33).bind fun v35=>(idxO (v35.length:Int) (zaH v30)).bind fun v36=>(getO v3.2.1 v33).bind fun v37=>(getO v37 v36).bind fun v38=>some ((zfr (zff (zb0 v30 (8:Int)) (0:Int)) v38))
 else
 some ((bif zba v25 then zb0 v30 (2:Int) else v30)):Option Msg).bind fun v32=>((za1 (za5 v3.2.2.2.2.2.2) v32).bind fun v34=>some (v34.1):Option Pool).bind fun v33=>some (v33):Option Pool).bind fun v24=>some ((zaB v3.1 v3.2.1 v23 v3.2.2.2.1 v3.2.2.2.2.1 v3.2.2.2.2.2.1 v24,(0:Int)))
def zoH:FnT:=⟨[zbD,.int .i64,.int .i64],[zbD,.int .i64],fun x=>zjC x.1 x.2.1 x.2.2⟩
def zoO:TA :=
 .sub0 [.sl (.sl (.int .i64)),.sl (.sl (.int .u32)),.sl zd2,.sl (.int .u32),.sl zbF,.sl (.int .i64),.sl (.sl (.int .u8))] (qf 0 0<|.sub0 [.sl (.sl (.int .i64))] (ql 3<|.sub0 [.sl (.sl (.int .i64))] (.loop [.int .i64,.sl (.sl (.int .i64))] [(qz 0),.c .nil] (qb .lss 5 4<|qe 7 (qg 3 5<|qc 8 8<|.mkL (.sl (.int .i64)) [.v 9]<|qa 24 6 10<|qk .add 5 1<|.jmp 0 true (qv [12,11])) (qj 1 6))) 1<|qj 0 5) 1<|qf 1 0<|.sub0 [.sl (.sl (.int .u32))] (ql 5<|.sub0 [.sl (.sl (.int .u32))] (.loop [.int .i64,.sl (.sl (.int .u32))] [(qz 0),.c .nil] (qb .lss 7 6<|qe 9 (qg 5 7<|qc 4 10<|.mkL (.sl (.int .u32)) [.v 11]<|qa 24 8 12<|qk .add 7 1<|.jmp 0 true (qv [14,13])) (qj 1 8))) 1<|qj 0 7) 1<|qf 2 0<|qc 40 7<|qf 3 0<|qc 4 9<|qf 5 0<|qc 8 11<|qN 7 0 0<|ql 17<|.sub0 [.sl zbF] (.loop [.int .i64,.sl zbF] [(qz 0),.c .nil] (qb .lss 21 20<|qe 23 (qg 17 21<|qN 2 0 24<|qc 1 26<|.mkS zdY (qv [25,27])<|.mkL zbF [.v 28]<|qa 32 22 29<|qk .add 21 1<|.jmp 0 true (qv [31,30])) (qj 1 22))) 1<|qf 0 19<|.sub0 [.sl (.sl (.int .u8))] (ql 22<|.sub0 [.sl (.sl (.int .u8))] (.loop [.int .i64,.sl (.sl (.int .u8))] [(qz 0),.c .nil] (qb .lss 24 23<|qe 26 (qg 22 24<|qc 1 27<|.mkL (.sl (.int .u8)) [.v 28]<|qa 24 25 29<|qk .add 24 1<|.jmp 0 true (qv [31,30])) (qj 1 25))) 1<|qj 0 24) 1<|.jmp 0 false (qv [4,6,8,10,21,12,23])) 7<|.call 144 zdR (qv [0,1,2]) 1<|qn 10<|qe 11 (.mkS zd8 [.v 9]<|.mkS zcX (qv [3,4,5,6,7,8,12])<|.jmp 0 false [.v 13,(qz 1)]) (.sub0 [.bool] (qf 2 0<|qg 12 1<|qf 0 13<|qk .gtr 14 0<|qe 15 (qt 0 true) (qf 0 0<|qg 16 1<|qg 17 2<|qk .eql 18 0<|qj 0 19)) 1<|qe 12 (.mkS zd8 [.v 9]<|.mkS zcX (qv [3,4,5,6,7,8,13])<|.jmp 0 false [.v 14,(qz 8)]) (qf 0 0<|qg 13 1<|qg 14 2<|qk .eql 15 1<|qe 16 (qi 3 1<|qi 3 17<|qg 3 18<|qi 19 2<|qg 3 18<|.prim .set [.v 21,.v 20,(qz 0)]<|qs 3 18 22<|.mkS zd8 [.v 9]<|.mkS zcX (qv [23,4,5,6,7,8,24])<|.jmp 0 false [.v 25,(qz 0)]) (qf 6 0<|.call 151 zhk [.v 17] 1<|qk .eql 18 0<|qe 19 (.mkS zd8 [.v 9]<|.mkS zcX (qv [3,4,5,6,7,8,20])<|.jmp 0 false [.v 21,(qz 6)]) (qk .add 2 1<|.mkS zFC [.v 20,.c (.bool false),.c (.bool true),.c (.bool false),.c (.bool false),.c (.bool false),(qz 0),(qz 0),.c (.int .u32 0)]<|qi 5 1<|qs 5 22 21<|.sub0 [zb3] (qi 23 1<|qg 23 24<|qk .add 1 1<|qf 0 25<|qk .sub 27 1<|qk .add 1 1<|.mkS zmc [(qz 1),.v 26,(qz 0),.v 28,.v 29,(qz 0),.c (.bool false),.c (.int .u32 0),.c (.int .u32 0)]<|qf 2 25<|.sub0 [tMsg] (qe 31 (qi 4 1<|qi 4 32<|qf 3 30<|qg 4 33<|qi 35 34<|qg 4 33<|qg 37 36<|.prim (.setf 0) [.v 30,(qz 8)]<|.prim (.setf 4) [.v 39,(qz 0)]<|qh 8 40 38<|qj 0 41) (qf 1 25<|.subp [tMsg] (qe 32 (.prim (.setf 0) [.v 30,(qz 2)]<|qj 0 33) (qj 0 30)) 1<|qj 0 33)) 1<|.sub0 [zb3] (.mkS zd8 [.v 9]<|.call 221 zbM (qv [33,32]) 2<|qj 0 34) 1<|qj 0 33) 1<|.mkS zcX (qv [3,4,23,6,7,8,24])<|.jmp 0 false [.v 25,(qz 0)]))))
theorem zo8:zaM cx 12 112=some zoO.erase:=by kernel_rfl
theorem zyi:FnOk cx 12 noC 112 zoH:=rf_ zo8 (.cons zeX (.cons zje (.cons zbX .nil)))
def zlI (p0:zbe) (p1 p2:Int) (p3:Bool):Option (zbe×Int) :=
 ((let v5:Int:=(List.length (zai p0):Int)
 (zaQ (zf8 (zai p0) v5) ((0:Int),([]:List (List Int))):Option (List (List Int))).bind fun v6=>some (v6):Option (List (List Int))).bind fun v5=>(let v7:Int:=(List.length (zam p0):Int)
 (zaQ (zf9 (zam p0) v7) ((0:Int),([]:List (List Int))):Option (List (List Int))).bind fun v8=>some (v8):Option (List (List Int))).bind fun v7=>(zaS 40 (zab p0)).bind fun v9=>(zaS 4 (zad p0)).bind fun v11=>(zaS 8 (zal p0)).bind fun v13=>let v21:Int:=(List.length (zay p0):Int)
 (zaQ (zf5 (zay p0) v21) ((0:Int),([]:List Entry)):Option (List Entry)).bind fun v22=>let v23:List (List Int):=zaf (zax p0)
 (let v24:Int:=(v23.length:Int)
 (zaQ (zfO v23 v24) ((0:Int),([]:List (List Int))):Option (List (List Int))).bind fun v25=>some (v25):Option (List (List Int))).bind fun v24=>some ((v5,v7,v9,v11,v22,v13,v24)):Option ((List (List Int))×(List (List Int))×(List Wait)×(List Int)×(List Entry)×(List Int)×(List (List Int)))).bind fun v4=>(zdz p0 p1 p2).bind fun v11=>if !v11 then
 some ((zaB v4.1 v4.2.1 v4.2.2.1 v4.2.2.2.1 v4.2.2.2.2.1 v4.2.2.2.2.2.1 (za5 v4.2.2.2.2.2.2),(1:Int)))
 else
 ((getO (zab p0) p1).bind fun v14=>if decide ((0:Int)<(zaK v14)) then
 some (true)
 else
 (zhy p0 p1 p2 p3).bind fun v17=>some (v17):Option Bool).bind fun v13=>if v13 then
 some ((zaB v4.1 v4.2.1 v4.2.2.1 v4.2.2.2.1 v4.2.2.2.2.1 v4.2.2.2.2.2.1 (za5 v4.2.2.2.2.2.2),(8:Int)))
 else
 (zeW (zax p0)).bind fun v15=>if decide (v15=(0:Int)) then
 some ((zaB v4.1 v4.2.1 v4.2.2.1 v4.2.2.2.1 v4.2.2.2.2.1 v4.2.2.2.2.2.1 (za5 v4.2.2.2.2.2.2),(6:Int)))
 else
 (idxO (List.length v4.2.2.1:Int) p1).bind fun v19=>(setO v4.2.2.1 v19 (zbx (w64 (p2 + (1:Int))) p3 false false false false (0:Int) (0:Int) (0:Int))).bind fun v20=>((idxO (v20.length:Int) p1).bind fun v21=>(getO v20 v21).bind fun v22=>let v27:Msg:=zaT (1:Int) (w64 (p1 + (1:Int))) (0:Int) (w64 ((zaK v22) - (1:Int))) (w64 (p1 + (1:Int))) (0:Int) false (0:Int) (0:Int)
 (if zbG v22 then
 (idxO (List.length v4.2.1:Int) p1).bind fun v29=>(idxO (List.length v4.2.1:Int) v29).bind fun v30=>(getO v4.2.1 v30).bind fun v32=>(idxO (v32.length:Int) (zaH v27)).bind fun v33=>(getO v4.2.1 v30).bind fun v34=>(getO v34 v33).bind fun v35=>some ((zfr (zff (zb0 v27 (8:Int)) (0:Int)) v35))
 else
 some ((bif zba v22 then zb0 v27 (2:Int) else v27)):Option Msg).bind fun v29=>((za1 (za5 v4.2.2.2.2.2.2) v29).bind fun v31=>some (v31.1):Option Pool).bind fun v30=>some (v30):Option Pool).bind fun v21=>some ((zaB v4.1 v4.2.1 v20 v4.2.2.2.1 v4.2.2.2.2.1 v4.2.2.2.2.2.1 v21,(0:Int)))
def zqv:FnT:=⟨[zbD,.int .i64,.int .i64,.bool],[zbD,.int .i64],fun x=>zlI x.1 x.2.1 x.2.2.1 x.2.2.2⟩
def zq6:TA :=
 .sub0 [.sl (.sl (.int .i64)),.sl (.sl (.int .u32)),.sl zd2,.sl (.int .u32),.sl zbF,.sl (.int .i64),.sl (.sl (.int .u8))] (qf 0 0<|.sub0 [.sl (.sl (.int .i64))] (ql 4<|.sub0 [.sl (.sl (.int .i64))] (.loop [.int .i64,.sl (.sl (.int .i64))] [(qz 0),.c .nil] (qb .lss 6 5<|qe 8 (qg 4 6<|qc 8 9<|.mkL (.sl (.int .i64)) [.v 10]<|qa 24 7 11<|qk .add 6 1<|.jmp 0 true (qv [13,12])) (qj 1 7))) 1<|qj 0 6) 1<|qf 1 0<|.sub0 [.sl (.sl (.int .u32))] (ql 6<|.sub0 [.sl (.sl (.int .u32))] (.loop [.int .i64,.sl (.sl (.int .u32))] [(qz 0),.c .nil] (qb .lss 8 7<|qe 10 (qg 6 8<|qc 4 11<|.mkL (.sl (.int .u32)) [.v 12]<|qa 24 9 13<|qk .add 8 1<|.jmp 0 true (qv [15,14])) (qj 1 9))) 1<|qj 0 8) 1<|qf 2 0<|qc 40 8<|qf 3 0<|qc 4 10<|qf 5 0<|qc 8 12<|qN 7 0 0<|ql 18<|.sub0 [.sl zbF] (.loop [.int .i64,.sl zbF] [(qz 0),.c .nil] (qb .lss 22 21<|qe 24 (qg 18 22<|qN 2 0 25<|qc 1 27<|.mkS zdY (qv [26,28])<|.mkL zbF [.v 29]<|qa 32 23 30<|qk .add 22 1<|.jmp 0 true (qv [32,31])) (qj 1 23))) 1<|qf 0 20<|.sub0 [.sl (.sl (.int .u8))] (ql 23<|.sub0 [.sl (.sl (.int .u8))] (.loop [.int .i64,.sl (.sl (.int .u8))] [(qz 0),.c .nil] (qb .lss 25 24<|qe 27 (qg 23 25<|qc 1 28<|.mkL (.sl (.int .u8)) [.v 29]<|qa 24 26 30<|qk .add 25 1<|.jmp 0 true (qv [32,31])) (qj 1 26))) 1<|qj 0 25) 1<|.jmp 0 false (qv [5,7,9,11,22,13,24])) 7<|.call 144 zdR (qv [0,1,2]) 1<|qn 11<|qe 12 (.mkS zd8 [.v 10]<|.mkS zcX (qv [4,5,6,7,8,9,13])<|.jmp 0 false [.v 14,(qz 1)]) (.sub0 [.bool] (qf 2 0<|qg 13 1<|qf 0 14<|qk .gtr 15 0<|qe 16 (qt 0 true) (.call 145 zha (qv [0,1,2,3]) 1<|qj 0 17)) 1<|qe 13 (.mkS zd8 [.v 10]<|.mkS zcX (qv [4,5,6,7,8,9,14])<|.jmp 0 false [.v 15,(qz 8)]) (qf 6 0<|.call 151 zhk [.v 14] 1<|qk .eql 15 0<|qe 16 (.mkS zd8 [.v 10]<|.mkS zcX (qv [4,5,6,7,8,9,17])<|.jmp 0 false [.v 18,(qz 6)]) (qk .add 2 1<|.mkS zFC [.v 17,.v 3,.c (.bool false),.c (.bool false),.c (.bool false),.c (.bool false),(qz 0),(qz 0),.c (.int .u32 0)]<|qi 6 1<|qs 6 19 18<|.sub0 [zb3] (qi 20 1<|qg 20 21<|qk .add 1 1<|qf 0 22<|qk .sub 24 1<|qk .add 1 1<|.mkS zmc [(qz 1),.v 23,(qz 0),.v 25,.v 26,(qz 0),.c (.bool false),.c (.int .u32 0),.c (.int .u32 0)]<|qf 2 22<|.sub0 [tMsg] (qe 28 (qi 5 1<|qi 5 29<|qf 3 27<|qg 5 30<|qi 32 31<|qg 5 30<|qg 34 33<|.prim (.setf 0) [.v 27,(qz 8)]<|.prim (.setf 4) [.v 36,(qz 0)]<|qh 8 37 35<|qj 0 38) (qf 1 22<|.subp [tMsg] (qe 29 (.prim (.setf 0) [.v 27,(qz 2)]<|qj 0 30) (qj 0 27)) 1<|qj 0 30)) 1<|.sub0 [zb3] (.mkS zd8 [.v 10]<|.call 221 zbM (qv [30,29]) 2<|qj 0 31) 1<|qj 0 30) 1<|.mkS zcX (qv [4,5,20,7,8,9,21])<|.jmp 0 false [.v 22,(qz 0)])))
theorem zq1:zaM cx 12 148=some zq6.erase:=by kernel_rfl
theorem zAy:FnOk cx 12 noC 148 zqv:=rf_ zq1 (.cons zeX (.cons ziV (.cons zje (.cons zbX .nil))))
def zfz (x0:za4) (x1:Int) (x14:List Undo) (x15 s:Int):Option (Int⊕Unit⊕Int) :=
 if decide (s<x15) then
 (getO x14 s).bind fun v18=>if (decide ((zaJ v18)=(zaD x0)))&&(decide ((zaZ v18)=x1)) then
 some (Sum.inr (Sum.inr (s)))
 else
 some (Sum.inl (w64 (s + (1:Int))))
 else
 some (Sum.inr (Sum.inl ()))
def zfj (p0:za4) (p1 p2:Int):Option (za4×Int) :=
 (let v4:List (List Int):=zac (zae p0)
 let v5:Int:=(v4.length:Int)
 (zaQ (zb6 v4 v5) ((0:Int),([]:List (List Int))):Option (List (List Int))).bind fun v6=>(zaS 4 (zat (zae p0))).bind fun v9=>(zaS 24 (zak p0)).bind fun v11=>some ((zaq (zae p0),zaj p0,zaD p0,v6,v9,v11)):Option (Int×Int×Int×(List (List Int))×(List Int)×(List Undo))).bind fun v3=>(zgW p0 p1).bind fun v9=>if !v9 then
 some ((zaX (zaY v3.2.2.2.1 v3.2.2.2.2.1 v3.1) v3.2.1 v3.2.2.1 v3.2.2.2.2.2,(1:Int)))
 else
 if decide ((0:Int)<(zaq (zae p0))) then
 some ((zaX (zaY v3.2.2.2.1 v3.2.2.2.2.1 v3.1) v3.2.1 v3.2.2.1 v3.2.2.2.2.2,(8:Int)))
 else
 ((let v15:Int:=(List.length (zak p0):Int)
 zbm (zaQ (zfz p0 p1 (zak p0) v15) (0:Int):Option (Unit⊕Int)) fun v16=>some ((-1:Int)):Option Int).bind fun v15=>some ((decide ((0:Int)≤v15))):Option Bool).bind fun v15=>if (!v15)&&(decide ((List.length (zak p0):Int)=(256:Int))) then
 some ((zaX (zaY v3.2.2.2.1 v3.2.2.2.2.1 v3.1) v3.2.1 v3.2.2.1 v3.2.2.2.2.2,(6:Int)))
 else
 (if !v15 then
 (ze9 p0 p1).bind fun v18=>(appO 24 v3.2.2.2.2.2 ([zdS (zaD p0) p1 v18.1]:List Undo)).bind fun v23=>some (v23)
 else
 some (v3.2.2.2.2.2):Option (List Undo)).bind fun v18=>((zda (zaX (zaY v3.2.2.2.1 v3.2.2.2.2.1 v3.1) v3.2.1 v3.2.2.1 v18) p1).bind fun v21=>(zdu (zaY v3.2.2.2.1 v3.2.2.2.2.1 v3.1) v21.1 v21.2 p2).bind fun v24=>some (v24.1):Option zcn).bind fun v19=>some ((zaX v19 v3.2.1 v3.2.2.1 v18,(0:Int)))
def ziX:FnT:=⟨[zbq,.int .i64,.int .u32],[zbq,.int .i64],fun x=>zfj x.1 x.2.1 x.2.2⟩
def zom:TA :=
 .sub0 [.int .i64,.int .i64,.int .i64,.sl (.sl (.int .u32)),.sl (.int .u32),.sl zk1] (qf 0 0<|qf 0 3<|ql 4<|.sub0 [.sl (.sl (.int .u32))] (.loop [.int .i64,.sl (.sl (.int .u32))] [(qz 0),.c .nil] (qb .lss 6 5<|qe 8 (qg 4 6<|qc 4 9<|.mkL (.sl (.int .u32)) [.v 10]<|qa 24 7 11<|qk .add 6 1<|.jmp 0 true (qv [13,12])) (qj 1 7))) 1<|qf 0 0<|qf 1 7<|qc 4 8<|qf 3 0<|qc 24 10<|qN 4 0 0<|qN 3 0 12<|.jmp 0 false (qv [18,13,14,6,9,11])) 6<|.call 205 zjw (qv [0,1]) 1<|qn 9<|qe 10 (.mkS zb7 (qv [6,7,3])<|.mkS zc8 (qv [11,4,5,8])<|.jmp 0 false [.v 12,(qz 1)]) (qf 0 0<|qf 2 11<|qk .gtr 12 0<|qe 13 (.mkS zb7 (qv [6,7,3])<|.mkS zc8 (qv [14,4,5,8])<|.jmp 0 false [.v 15,(qz 8)]) (qf 3 0<|.sub0 [.bool] (.sub0 [.int .i64] (ql 14<|.sub1 [] (.loop [.int .i64] [(qz 0)] (qb .lss 16 15<|qe 17 (qg 14 16<|.subp [.bool] (.subp [.bool] (qf 0 18<|qf 2 0<|qb .eql 19 20<|qe 21 (qf 1 18<|qb .eql 22 1<|qj 0 23) (qt 0 false)) 1<|qj 0 19) 1<|qe 19 (qj 2 16) (qk .add 16 1<|qr 0 20)) (qx 1))) 0<|.jmp 0 false [.c (.int .i64 (-1))]) 1<|qk .geq 15 0<|qj 0 16) 1<|.subp [.bool] (qn 15<|qe 16 (qf 3 0<|ql 17<|qk .eql 18 256<|qj 0 19) (qt 0 false)) 1<|qe 16 (.mkS zb7 (qv [6,7,3])<|.mkS zc8 (qv [17,4,5,8])<|.jmp 0 false [.v 18,(qz 6)]) (qn 15<|.sub0 [.sl zk1] (qe 17 (.call 159 zhT (qv [0,1]) 2<|qf 2 0<|.mkS zH5 (qv [20,1,18])<|.mkL zk1 [.v 21]<|qa 24 8 22<|qj 0 23) (qj 0 8)) 1<|.sub0 [zgU] (.mkS zb7 (qv [6,7,3])<|.mkS zc8 (qv [19,4,5,18])<|.call 204 ze0 (qv [20,1]) 2<|.mkS zb7 (qv [6,7,3])<|.call 228 zh6 (qv [23,21,22,2]) 2<|qj 0 24) 1<|.mkS zc8 (qv [19,4,5,18])<|.jmp 0 false [.v 20,(qz 0)])))
theorem zon:zaM cx 12 160=some zom.erase:=by kernel_rfl
theorem zoy:FnOk cx 12 noC 160 ziX:=rf_ zon (.cons zpd (.cons zlk (.cons zgG (.cons zm5 .nil))))
def zji (p0:List (List Ins)) (p1 p2 p3:Int):Option (Machine×Int) :=
 (zdZ (p0.length:Int) p1).bind fun v5=>(zoz p1 p2).bind fun v7=>let v9:Int:=(p0.length:Int)
 (repO (zjs ([(0:Int),(0:Int),(0:Int),(0:Int),(0:Int),(0:Int),(0:Int),(0:Int)]:List Int) (0:Int) false) 48 v9 v9).bind fun v10=>(zoL p3 v10).bind fun v11=>((zux p0).bind fun v13=>if !v13 then
 some (true)
 else
 if !decide (v5.2=(0:Int)) then
 some (true)
 else
 if !decide (v7.2=(0:Int)) then
 some (true)
 else
 some ((!decide (v11.2=(0:Int)))):Option Bool).bind fun v13=>if v13 then
 some (((zbj ([]:List Core) (zaB ([]:List (List Int)) ([]:List (List Int)) ([]:List Wait) ([]:List Int) ([]:List Entry) ([]:List Int) (za5 ([]:List (List Int)))) (zaX (zaY ([]:List (List Int)) ([]:List Int) (0:Int)) (0:Int) (0:Int) ([]:List Undo)) (zbQ ([]:List Mark) (0:Int)) (zdg ([]:List Held) ([]:List Told)) (0:Int) ([]:List Int)),(1:Int)))
 else
 let v14:Int:=(p0.length:Int)
 (repO (0:Int) 8 v14 v14).bind fun v15=>some ((zbj v10 v5.1 v7.1 v11.1 (zdg ([]:List Held) ([]:List Told)) (0:Int) v15,(0:Int)))
def zpz:FnT:=⟨[.sl (.sl tIns),.int .i64,.int .i64,.int .i64],[zcq,.int .i64],fun x=>zji x.1 x.2.1 x.2.2.1 x.2.2.2⟩
def zoN:TA :=
 ql 0<|.call 25 zhm (qv [4,1]) 2<|.call 26 zuQ (qv [1,2]) 2<|ql 0<|.primH (.rep (.agg [(.agg [(.int .u32 0),(.int .u32 0),(.int .u32 0),(.int .u32 0),(.int .u32 0),(.int .u32 0),(.int .u32 0),(.int .u32 0)]),(.int .i64 0),(.bool false)]) 48) (.sl zb2) (qv [9,9])<|.call 27 ztQ (qv [3,10]) 2<|.sub0 [.bool] (.call 28 zs8 [.v 0] 1<|qn 13<|qe 14 (qt 0 true) (qk .neq 6 0<|qe 15 (qt 0 true) (qk .neq 8 0<|qe 16 (qt 0 true) (qk .neq 12 0<|qj 0 17)))) 1<|qe 13 (.jmp 0 false [.c (.agg [.nil,(.agg [.nil,.nil,.nil,.nil,.nil,.nil,(.agg [.nil])]),(.agg [(.agg [.nil,.nil,(.int .i64 0)]),(.int .i64 0),(.int .i64 0),.nil]),(.agg [.nil,(.int .i64 0)]),(.agg [.nil,.nil]),(.int .i64 0),.nil]),(qz 1)]) (ql 0<|.primH (.rep (.int .i64 0) 8) (.sl (.int .i64)) (qv [14,14])<|.mkS zvs [.v 10,.v 5,.v 7,.v 11,.c (.agg [.nil,.nil]),(qz 0),.v 15]<|.jmp 0 false [.v 16,(qz 0)])
theorem zoS:zaM cx 12 10=some zoN.erase:=by kernel_rfl
theorem zxN:FnOk cx 12 noC 10 zpz:=rf_ zoS (.cons zja (.cons zBz (.cons zBX (.cons zAb .nil))))
def zec (x1:Machine) (x8:List Held) (x9 s:Int):Option (Int⊕Unit⊕Int) :=
 if decide (s<x9) then
 (getO x8 s).bind fun v12=>if decide ((zaD (zar x1))<(zcu v12)) then
 some (Sum.inr (Sum.inr (s)))
 else
 some (Sum.inl (w64 (s + (1:Int))))
 else
 some (Sum.inr (Sum.inl ()))
def zed (x0:List (List Ins)) (x1:Machine) (x5:List Mark) (x6 s:Int):Option (Int⊕Unit⊕Int) :=
 if decide (s<x6) then
 (getO x5 s).bind fun v9=>(((zde x0 (za9 v9)).bind fun v11=>if !v11 then
 some (true)
 else
 some ((decide ((zaD (zar x1))<(zaU v9)))):Option Bool).bind fun v10=>some (v10):Option Bool).bind fun v10=>if v10 then
 some (Sum.inr (Sum.inr (s)))
 else
 some (Sum.inl (w64 (s + (1:Int))))
 else
 some (Sum.inr (Sum.inl ()))
def zd9 (x6:List Int) (x7 s:Int):Option (Int⊕Unit⊕Int) :=
 if decide (s<x7) then
 (getO x6 s).bind fun v10=>if zeY v10 then
 some (Sum.inr (Sum.inr (s)))
 else
 some (Sum.inl (w64 (s + (1:Int))))
 else
 some (Sum.inr (Sum.inl ()))
def zgF (p0:List (List Ins)) (p1:Machine):Option Bool :=
 ((zux p0).bind fun v2=>if !v2 then
 some (true)
 else
 (zjc p1).bind fun v4=>if !v4 then
 some (true)
 else
 (zde p0 (zaw p1)).bind fun v7=>if !v7 then
 some (true)
 else
 if !decide ((List.length (zab (zah p1)):Int)=(p0.length:Int)) then
 some (true)
 else
 if !decide ((List.length (zaI p1):Int)=(p0.length:Int)) then
 some (true)
 else
 some ((!decide ((List.length (zad (zah p1)):Int)=(zaj (zar p1))))):Option Bool).bind fun v2=>if v2 then
 some (false)
 else
 (if !(zfT (zaN p1)) then
 some (true)
 else
 ((let v7:Int:=(List.length (zaI p1):Int)
 zbm (zaQ (zd9 (zaI p1) v7) (0:Int):Option (Unit⊕Int)) fun v8=>some ((-1:Int)):Option Int).bind fun v7=>some ((decide ((0:Int)≤v7))):Option Bool).bind fun v7=>some (v7):Option Bool).bind fun v3=>if v3 then
 some (false)
 else
 let v5:List Mark:=zao (zaC p1)
 ((let v6:Int:=(v5.length:Int)
 zbm (zaQ (zed p0 p1 v5 v6) (0:Int):Option (Unit⊕Int)) fun v7=>some ((-1:Int)):Option Int).bind fun v6=>some ((decide ((0:Int)≤v6))):Option Bool).bind fun v6=>if v6 then
 some (false)
 else
 let v8:List Held:=zas (zaz p1)
 ((let v9:Int:=(v8.length:Int)
 zbm (zaQ (zec p1 v8 v9) (0:Int):Option (Unit⊕Int)) fun v10=>some ((-1:Int)):Option Int).bind fun v9=>some ((decide ((0:Int)≤v9))):Option Bool).bind fun v9=>some ((!v9))
def zkf:FnT:=⟨[.sl (.sl tIns),zcq],[.bool],fun x=>zgF x.1 x.2⟩
def zkX:TA :=
 .sub0 [.bool] (.call 28 zs8 [.v 0] 1<|qn 2<|qe 3 (qt 0 true) (.call 43 zkV [.v 1] 1<|qn 4<|qe 5 (qt 0 true) (qf 0 1<|.call 44 zho (qv [0,6]) 1<|qn 7<|qe 8 (qt 0 true) (qf 1 1<|qf 2 9<|ql 10<|ql 0<|qb .neq 11 12<|qe 13 (qt 0 true) (qf 6 1<|ql 14<|ql 0<|qb .neq 15 16<|qe 17 (qt 0 true) (qf 1 1<|qf 3 18<|ql 19<|qf 2 1<|qf 1 21<|qb .neq 20 22<|qj 0 23)))))) 1<|qe 2 (qt 0 false) (.sub0 [.bool] (qf 5 1<|.callp 45 zim [.v 3] 1<|qn 4<|qe 5 (qt 0 true) (qf 6 1<|.sub0 [.bool] (.sub0 [.int .i64] (ql 6<|.sub1 [] (.loop [.int .i64] [(qz 0)] (qb .lss 8 7<|qe 9 (qg 6 8<|.callp 47 ziH [.v 10] 1<|qe 11 (qj 2 8) (qk .add 8 1<|qr 0 12)) (qx 1))) 0<|.jmp 0 false [.c (.int .i64 (-1))]) 1<|qk .geq 7 0<|qj 0 8) 1<|qj 0 7)) 1<|qe 3 (qt 0 false) (qf 3 1<|qf 0 4<|.sub0 [.bool] (.sub0 [.int .i64] (ql 5<|.sub1 [] (.loop [.int .i64] [(qz 0)] (qb .lss 7 6<|qe 8 (qg 5 7<|.sub0 [.bool] (.sub0 [.bool] (qf 2 9<|.call 44 zho (qv [0,10]) 1<|qn 11<|qe 12 (qt 0 true) (qf 0 9<|qf 2 1<|qf 2 14<|qb .gtr 13 15<|qj 0 16)) 1<|qj 0 10) 1<|qe 10 (qj 2 7) (qk .add 7 1<|qr 0 11)) (qx 1))) 0<|.jmp 0 false [.c (.int .i64 (-1))]) 1<|qk .geq 6 0<|qj 0 7) 1<|qe 6 (qt 0 false) (qf 4 1<|qf 0 7<|.sub0 [.bool] (.sub0 [.int .i64] (ql 8<|.sub1 [] (.loop [.int .i64] [(qz 0)] (qb .lss 10 9<|qe 11 (qg 8 10<|.subp [.bool] (qf 1 12<|qf 2 1<|qf 2 14<|qb .gtr 13 15<|qj 0 16) 1<|qe 13 (qj 2 10) (qk .add 10 1<|qr 0 14)) (qx 1))) 0<|.jmp 0 false [.c (.int .i64 (-1))]) 1<|qk .geq 9 0<|qj 0 10) 1<|qn 9<|qj 0 10)))
theorem zkC:zaM cx 12 23=some zkX.erase:=by kernel_rfl
theorem zup:FnOk cx 12 noC 23 zkf:=rf_ zkC (.cons zAb (.cons zsK (.cons zkd (.cons zme (.cons zqd (.cons zkd .nil))))))
end Go.Proofs.YtplfgkjjgflhkaaGreat
