/- More functions of this cut as functions of plain typed data. Printed by a program of this claim's prover; each is checked here to be what the executor makes of the code. -/
import Derived.Test.YtplfgkjjgflhkaaGreatD511
set_option linter.unusedVariables false
set_option maxRecDepth 100000
noncomputable section
namespace Go.Proofs.YtplfgkjjgflhkaaGreat
open Go.SX
def zfA (p0:Held):Bool :=
 !(zdv (zcu p0))
def zjJ:PnT:=⟨[zuP],[.bool],fun x=>zfA x⟩
def zj1:TA :=
 qf 1 0<|.callp 137 zeQ [.v 1] 1<|qn 2<|qj 0 3
theorem zjG:zaM cx 12 136=some zj1.erase:=by kernel_rfl
theorem zsd:FnOk cx 12 noC 136 zjJ.fn:=rp_ zjG (.cons zgr .nil)
def znR (p0:Int):(Bool×Bool×Bool×Bool) :=
 let v1:Int:=zCQ p0
 (!decide ((bAnd .i64 v1 (1:Int))=(0:Int)),!decide ((bAnd .i64 v1 (2:Int))=(0:Int)),!decide ((bAnd .i64 v1 (4:Int))=(0:Int)),!decide ((bAnd .i64 v1 (8:Int))=(0:Int)))
def zwI:PnT:=⟨[.int .i64],[.bool,.bool,.bool,.bool],fun x=>znR x⟩
def zwK:TA :=
 .callp 188 zwZ [.v 0] 1<|qk .and 1 1<|qk .neq 2 0<|qk .and 1 2<|qk .neq 4 0<|qk .and 1 4<|qk .neq 6 0<|qk .and 1 8<|qk .neq 8 0<|.jmp 0 false (qv [3,5,7,9])
theorem zwf:zaM cx 12 141=some zwK.erase:=by kernel_rfl
theorem zD2:FnOk cx 12 noC 141 zwI.fn:=rp_ zwf (.cons zEe .nil)
def zhY (x20:List (List Int)) (x25:Int) (s:(Int×Int×(List Int))):Option ((Int×Int×(List Int))⊕(Int×(List Int))) :=
 if decide (s.2.1<x25) then
 (idxO (x20.length:Int) s.2.1).bind fun v30=>(getO x20 v30).bind fun v31=>(zxA 1 s.2.2 s.1 v31).bind fun v32=>some (Sum.inl (s.1 + (v31.length:Int),w64 (s.2.1 + (1:Int)),v32))
 else
 some (Sum.inr ((s.1,s.2.2)))
def zhC (x20:List (List Int)) (x21:Int) (s:(Int×Int)):Option ((Int×Int)⊕Int) :=
 if decide (s.2<x21) then
 (idxO (x20.length:Int) s.2).bind fun v25=>(getO x20 v25).bind fun v26=>let v28:Int:=w64 (s.1 + (v26.length:Int))
 if decide (v28<(0:Int)) then
 none
 else
 some (Sum.inl (v28,w64 (s.2 + (1:Int))))
 else
 some (Sum.inr (s.1))
def ziT (p0:Msg):Option (List Int) :=
 (zgR (zcS p0)).bind fun v17=>(zgR (zcD p0)).bind fun v19=>let v20:List (List Int):=([([wu8 (zaL p0),wu8 (zaF p0),wu8 (zcw p0),wu8 (zaH p0),wu8 (zbS p0),wu8 (zbV p0),bif zhN p0 then (1:Int) else (0:Int)]:List Int),v17,v19]:List (List Int))
 (let v21:Int:=(v20.length:Int)
 (zaQ (zhC v20 v21) ((0:Int),(0:Int)):Option Int).bind fun v22=>(if decide (v22<(0:Int)) then
 none
 else
 let v24:Int:=w64 (v22 - (0:Int))
 (if decide ((0:Int)<v24) then
 (zDC (0:Int) 1 ([]:List Int) v24).bind fun v26=>(rngO (v26.length:Int) (0:Int) (0:Int)).bind fun v28=>some ((v28,v26))
 else
 some (((0:Int),([]:List Int))):Option (Int×(List Int))).bind fun v26=>some ((v26.1,v26.2)):Option (Int×(List Int))).bind fun v23=>let v25:Int:=(v20.length:Int)
 (zaQ (zhY v20 v25) (v23.1,(0:Int),v23.2):Option (Int×(List Int))).bind fun v26=>some ((v26.1,v26.2)):Option (Int×(List Int))).bind fun v21=>(subO v21.2 (0:Int) v21.1).bind fun v23=>(zhp v23).bind fun v24=>(zgR v24).bind fun v25=>(zxA 1 v21.2 v21.1 v25).bind fun v26=>(subO v26 (0:Int) (v21.1 + (v25.length:Int))).bind fun v29=>some (v29)
def znC:FnT:=⟨[tMsg],[.sl (.int .u8)],fun x=>ziT x⟩
def zu7:TA :=
 qf 6 0<|.subp [.int .u8] (qe 1 (.jmp 0 false [.c (.int .u8 1)]) (.jmp 0 false [.c (.int .u8 0)])) 1<|qf 0 0<|.prim (.conv .u8) [.v 3]<|qf 1 0<|.prim (.conv .u8) [.v 5]<|qf 2 0<|.prim (.conv .u8) [.v 7]<|qf 3 0<|.prim (.conv .u8) [.v 9]<|qf 4 0<|.prim (.conv .u8) [.v 11]<|qf 5 0<|.prim (.conv .u8) [.v 13]<|.mkL (.int .u8) (qv [4,6,8,10,12,14,2])<|qf 7 0<|.call 232 zhG [.v 16] 1<|qf 8 0<|.call 232 zhG [.v 18] 1<|.mkL (.sl (.int .u8)) (qv [15,17,19])<|.sub0 [.int .i64,.sl (.int .u8)] (ql 20<|.sub0 [.int .i64] (.loop [.int .i64,.int .i64] [(qz 0),(qz 0)] (qb .lss 23 21<|qe 24 (qi 20 23<|qg 20 25<|ql 26<|qb .add 22 27<|qk .lss 28 0<|qe 29 (.fail 153) (qk .add 23 1<|.jmp 0 true (qv [28,30]))) (qj 1 22))) 1<|.sub0 [.int .i64,.sl (.int .u8)] (qk .lss 22 0<|qe 23 (.fail 153) (qk .sub 22 0<|qk .gtr 24 0<|.sub0 [.int .i64,.sl (.int .u8)] (qe 25 (.primH (.zext (.int .u8 0) 1) (.sl (.int .u8)) [.c .nil,.v 24]<|ql 26<|.prim .rng [.v 26,(qz 0),(qz 0)]<|.jmp 0 false (qv [28,26])) (.jmp 0 false [(qz 0),.c .nil])) 2<|.jmp 0 false (qv [26,27]))) 2<|ql 20<|.sub0 [.int .i64,.sl (.int .u8)] (.loop [.int .i64,.int .i64,.sl (.int .u8)] [.v 23,(qz 0),.v 24] (qb .lss 27 25<|qe 29 (qi 20 27<|qg 20 30<|.prim (.appv 1) (qv [28,26,31])<|ql 31<|.prim .vadd (qv [26,33])<|qk .add 27 1<|.jmp 0 true (qv [34,35,32])) (.jmp 1 false (qv [26,28])))) 2<|.jmp 0 false (qv [26,27])) 2<|.prim .sub [.v 22,(qz 0),.v 21]<|.call 217 zny [.v 23] 1<|.call 232 zhG [.v 24] 1<|.prim (.appv 1) (qv [22,21,25])<|ql 25<|.prim .vadd (qv [21,27])<|.prim .sub [.v 26,(qz 0),.v 28]<|qj 0 29
theorem zt4:zaM cx 12 220=some zu7.erase:=by kernel_rfl
theorem zvh:FnOk cx 12 noC 220 znC:=rf_ zt4 (.cons zkU (.cons zkU (.cons zuo (.cons zkU .nil))))
def ziD (p0:Entry) (p1:Int):Option Bool :=
 ((ziB p0 (List.length (zan p0):Int)).bind fun v4=>if v4 then
 if decide ((0:Int)≤p1) then
 some ((decide (p1<(List.length (zan p0):Int))))
 else
 some (false)
 else
 some (false):Option Bool).bind fun v2=>some (v2)
def zjE:FnT:=⟨[zbF,.int .i64],[.bool],fun x=>ziD x.1 x.2⟩
def zt9:TA :=
 .sub0 [.bool] (qf 1 0<|ql 2<|.call 76 ziY (qv [0,3]) 1<|qe 4 (qk .geq 1 0<|qe 5 (qf 1 0<|ql 6<|qb .lss 1 7<|qj 0 8) (qt 0 false)) (qt 0 false)) 1<|qj 0 2
theorem zum:zaM cx 12 226=some zt9.erase:=by kernel_rfl
theorem znn:FnOk cx 12 noC 226 zjE:=rf_ zum (.cons znq .nil)
def znK (p0:Int):Bool :=
 !(zaV p0)
def zn0:PnT:=⟨[.int .i64],[.bool],fun x=>znK x⟩
def zpb:TA :=
 .callp 230 zmU [.v 0] 1<|qn 1<|qj 0 2
theorem zo1:zaM cx 12 229=some zpb.erase:=by kernel_rfl
theorem zxe:FnOk cx 12 noC 229 zn0.fn:=rp_ zo1 (.cons zvv .nil)
def zcc (p0:List Bool) (p1:Bool):Option Bool :=
 (zb5 p0 p1).bind fun v2=>some ((decide ((0:Int)≤v2)))
def zdM:FnT:=⟨[.sl .bool,.bool],[.bool],fun x=>zcc x.1 x.2⟩
def zdy:TA :=
 .call 238 zer (qv [0,1]) 1<|qk .geq 2 0<|qj 0 3
theorem zdH:zaM cx 12 236=some zdy.erase:=by kernel_rfl
theorem zht:FnOk cx 12 noC 236 zdM:=rf_ zdH (.cons zir .nil)
def zoL (p0:Int) (p1:List Core):Option (Clock×Int) :=
 let v2:Mark:=zcb (0:Int) (0:Int) p1
 ((zaS 48 (za9 v2)).bind fun v4=>some ((zaU v2,zbZ v2,v4)):Option (Int×Int×(List Core))).bind fun v3=>let v7:List Mark:=([zcb v3.1 v3.2.1 v3.2.2]:List Mark)
 (zeg (zbQ v7 p0)).bind fun v9=>if !v9 then
 some (((zbQ ([]:List Mark) (0:Int)),(1:Int)))
 else
 some ((zbQ v7 p0,(0:Int)))
def ztQ:FnT:=⟨[.int .i64,.sl zb2],[zbW,.int .i64],fun x=>zoL x.1 x.2⟩
def zsV:TA :=
 .mkS zkA [(qz 0),(qz 0),.v 1]<|.sub0 [.int .i64,.int .i64,.sl zb2] (qf 2 2<|qc 48 3<|qN 3 0 2<|.jmp 0 false (qv [5,6,4])) 3<|.mkS zkA (qv [3,4,5])<|.mkL zgc [.v 6]<|.mkS zgl (qv [7,0])<|.call 57 zeV [.v 8] 1<|qn 9<|qe 10 (.jmp 0 false [.c (.agg [.nil,(.int .i64 0)]),(qz 1)]) (.mkS zgl (qv [7,0])<|.jmp 0 false [.v 11,(qz 0)])
theorem zvd:zaM cx 12 27=some zsV.erase:=by kernel_rfl
theorem zBX:FnOk cx 12 noC 27 ztQ:=rf_ zvd (.cons zgt .nil)
def zd1 (x0:zbe) (x3:Int) (x8:List Entry) (x9 s:Int):Option (Int⊕Unit⊕Bool) :=
 if decide (s<x9) then
 (getO x8 s).bind fun v12=>((ziB v12 x3).bind fun v13=>if !v13 then
 some (true)
 else
 (getO (zal x0) s).bind fun v16=>some ((!(zbo v16 (w64 (x3 + (1:Int)))))):Option Bool).bind fun v13=>if v13 then
 some (Sum.inr (Sum.inr (false)))
 else
 some (Sum.inl (w64 (s + (1:Int))))
 else
 some (Sum.inr (Sum.inl ()))
def zfv (x13:List Int) (x14 s:Int):Option (Int⊕Unit⊕Int) :=
 if decide (s<x14) then
 (getO x13 s).bind fun v17=>if zgz v17 then
 some (Sum.inr (Sum.inr (s)))
 else
 some (Sum.inl (w64 (s + (1:Int))))
 else
 some (Sum.inr (Sum.inl ()))
def zfN (x0:zbe) (x5:Int) (x6:List Wait) (x7 s:Int):Option (Int⊕Unit⊕Bool) :=
 if decide (s<x7) then
 (getO x6 s).bind fun v10=>if (!(zbo (zaK v10) (w64 (x5 + (1:Int)))))||((!(zbo (zbY v10) (256:Int)))||(!(zbo (zbf v10) (256:Int)))) then
 some (Sum.inr (Sum.inr (false)))
 else
 (getO (zai x0) s).bind fun v13=>((let v14:Int:=(v13.length:Int)
 zbm (zaQ (zfv v13 v14) (0:Int):Option (Unit⊕Int)) fun v15=>some ((-1:Int)):Option Int).bind fun v14=>some ((decide ((0:Int)≤v14))):Option Bool).bind fun v14=>if v14 then
 some (Sum.inr (Sum.inr (false)))
 else
 some (Sum.inl (w64 (s + (1:Int))))
 else
 some (Sum.inr (Sum.inl ()))
def zdw (p0:zbe):Option Bool :=
 ((zhO p0).bind fun v1=>if !v1 then
 some (true)
 else
 (zfg (zax p0)).bind fun v4=>some ((!v4)):Option Bool).bind fun v1=>if v1 then
 some (false)
 else
 let v3:Int:=(List.length (zab p0):Int)
 let v5:Int:=(List.length (zad p0):Int)
 let v7:Int:=(List.length (zab p0):Int)
 zbm (zaQ (zfN p0 v5 (zab p0) v7) (0:Int):Option (Unit⊕Bool)) fun v8=>let v9:Int:=(List.length (zay p0):Int)
 zbm (zaQ (zd1 p0 v3 (zay p0) v9) (0:Int):Option (Unit⊕Bool)) fun v10=>some (true)
def ze1:FnT:=⟨[zbD],[.bool],fun x=>zdw x⟩
def zoD:TA :=
 .sub0 [.bool] (.call 72 zmo [.v 0] 1<|qn 1<|qe 2 (qt 0 true) (qf 6 0<|.call 73 zga [.v 3] 1<|qn 4<|qj 0 5)) 1<|qe 1 (qt 0 false) (qf 2 0<|ql 2<|qf 3 0<|ql 4<|qf 2 0<|ql 6<|.sub1 [] (.loop [.int .i64] [(qz 0)] (qb .lss 8 7<|qe 9 (qg 6 8<|.subp [.bool] (qf 0 10<|qk .add 5 1<|.callp 74 zcr (qv [11,12]) 1<|qn 13<|qe 14 (qt 0 true) (qf 6 10<|.callp 74 zcr [.v 15,(qz 256)] 1<|qn 16<|qe 17 (qt 0 true) (qf 7 10<|.callp 74 zcr [.v 18,(qz 256)] 1<|qn 19<|qj 0 20))) 1<|qe 11 (qt 2 false) (qf 0 0<|qg 12 8<|.sub0 [.bool] (.sub0 [.int .i64] (ql 13<|.sub1 [] (.loop [.int .i64] [(qz 0)] (qb .lss 15 14<|qe 16 (qg 13 15<|.callp 75 zlg [.v 17] 1<|qe 18 (qj 2 15) (qk .add 15 1<|qr 0 19)) (qx 1))) 0<|.jmp 0 false [.c (.int .i64 (-1))]) 1<|qk .geq 14 0<|qj 0 15) 1<|qe 14 (qt 2 false) (qk .add 8 1<|qr 0 15))) (qx 1))) 0<|qf 4 0<|ql 8<|.sub1 [] (.loop [.int .i64] [(qz 0)] (qb .lss 10 9<|qe 11 (qg 8 10<|.sub0 [.bool] (.call 76 ziY (qv [12,3]) 1<|qn 13<|qe 14 (qt 0 true) (qf 5 0<|qg 15 10<|qk .add 3 1<|.callp 74 zcr (qv [16,17]) 1<|qn 18<|qj 0 19)) 1<|qe 13 (qt 2 false) (qk .add 10 1<|qr 0 14)) (qx 1))) 0<|qt 0 true)
theorem zpf:zaM cx 12 33=some zoD.erase:=by kernel_rfl
theorem zgK:FnOk cx 12 noC 33 ze1:=rf_ zpf (.cons zvJ (.cons zh0 (.cons zcP (.cons zcP (.cons zcP (.cons zsO (.cons znq (.cons zcP .nil))))))))
def zcN (p0:za4):Option Bool :=
 ((zew (zae p0)).bind fun v2=>if !v2 then
 some (true)
 else
 if decide ((zaj p0)<(1:Int)) then
 some (true)
 else
 if decide ((64:Int)<(zaj p0)) then
 some (true)
 else
 (ziS (zaj p0) (List.length (zac (zae p0)):Int)).bind fun v15=>some ((!decide ((List.length (zat (zae p0)):Int)=v15))):Option Bool).bind fun v1=>if v1 then
 some (false)
 else
 (if decide ((0:Int)≤(zaD p0)) then
 if decide ((zaD p0)≤(1099511627776:Int)) then
 if decide ((List.length (zak p0):Int)≤(256:Int)) then
 (zkx p0).bind fun v9=>some (v9)
 else
 some (false)
 else
 some (false)
 else
 some (false):Option Bool).bind fun v2=>some (v2)
def zcJ:FnT:=⟨[zbq],[.bool],fun x=>zcN x⟩
def zpc:TA :=
 .sub0 [.bool] (qf 0 0<|.call 134 zfL [.v 1] 1<|qn 2<|qe 3 (qt 0 true) (qf 1 0<|qk .lss 4 1<|qe 5 (qt 0 true) (qf 1 0<|qk .gtr 6 64<|qe 7 (qt 0 true) (qf 0 0<|qf 1 8<|ql 9<|qf 1 0<|qf 0 0<|qf 0 12<|ql 13<|.call 55 zkG (qv [11,14]) 1<|qb .neq 10 15<|qj 0 16)))) 1<|qe 1 (qt 0 false) (.sub0 [.bool] (qf 2 0<|qk .geq 2 0<|qe 3 (qf 2 0<|qk .leq 4 1099511627776<|qe 5 (qf 3 0<|ql 6<|qk .leq 7 256<|qe 8 (.call 135 zmT [.v 0] 1<|qj 0 9) (qt 0 false)) (qt 0 false)) (qt 0 false)) 1<|qj 0 2)
theorem znV:zaM cx 12 91=some zpc.erase:=by kernel_rfl
theorem zc7:FnOk cx 12 noC 91 zcJ:=rf_ znV (.cons zii (.cons zq5 (.cons zvK .nil)))
def zgY (x2:List Held) (s:Int):Option (Int⊕Unit⊕Bool) :=
 if decide ((0:Int)<s) then
 (getO x2 s).bind fun v7=>(getO x2 (w64 (s - (1:Int)))).bind fun v9=>if decide ((zmf v7 v9)<(0:Int)) then
 some (Sum.inr (Sum.inr (false)))
 else
 some (Sum.inl (w64 (s - (1:Int))))
 else
 some (Sum.inr (Sum.inl ()))
def ze6 (x4:List Held) (x5 s:Int):Option (Int⊕Unit⊕Int) :=
 if decide (s<x5) then
 (getO x4 s).bind fun v8=>if zfA v8 then
 some (Sum.inr (Sum.inr (s)))
 else
 some (Sum.inl (w64 (s + (1:Int))))
 else
 some (Sum.inr (Sum.inl ()))
def zdA (p0:Gate):Option Bool :=
 (if decide ((64:Int)<(List.length (zas p0):Int)) then
 some (true)
 else
 ((let v5:Int:=(List.length (zas p0):Int)
 zbm (zaQ (ze6 (zas p0) v5) (0:Int):Option (Unit⊕Int)) fun v6=>some ((-1:Int)):Option Int).bind fun v5=>some ((decide ((0:Int)≤v5))):Option Bool).bind fun v5=>some (v5):Option Bool).bind fun v1=>if v1 then
 some (false)
 else
 (zbm (zaQ (zgY (zas p0)) (w64 ((List.length (zas p0):Int) - (1:Int))):Option (Unit⊕Bool)) fun v5=>some (true):Option Bool).bind fun v3=>some (v3)
def zd3:FnT:=⟨[zdo],[.bool],fun x=>zdA x⟩
def zmu:TA :=
 .sub0 [.bool] (qf 0 0<|ql 1<|qk .gtr 2 64<|qe 3 (qt 0 true) (qf 0 0<|.sub0 [.bool] (.sub0 [.int .i64] (ql 4<|.sub1 [] (.loop [.int .i64] [(qz 0)] (qb .lss 6 5<|qe 7 (qg 4 6<|.callp 136 zjJ [.v 8] 1<|qe 9 (qj 2 6) (qk .add 6 1<|qr 0 10)) (qx 1))) 0<|.jmp 0 false [.c (.int .i64 (-1))]) 1<|qk .geq 5 0<|qj 0 6) 1<|qj 0 5)) 1<|qe 1 (qt 0 false) (qf 0 0<|.sub0 [.bool] (ql 2<|qk .sub 3 1<|.sub1 [] (.loop [.int .i64] [.v 4] (qk .gtr 5 0<|qe 6 (qg 2 5<|qk .sub 5 1<|qg 2 8<|.callp 139 zjT (qv [7,9]) 1<|qk .lss 10 0<|qe 11 (qt 2 false) (qk .sub 5 1<|qr 0 12)) (qx 1))) 0<|qt 0 true) 1<|qj 0 3)
theorem zm0:zaM cx 12 92=some zmu.erase:=by kernel_rfl
theorem zfG:FnOk cx 12 noC 92 zd3:=rf_ zm0 (.cons zsd (.cons zsi .nil))
def zqf (p0:Ins) (p1:Int):Bool :=
 let v3:(Bool×Bool×Bool×Bool):=znR (zbk p0)
 bif (decide ((zbk p0)<(1:Int)))||((decide ((16:Int)<(zbk p0)))||((!(zcI (zlq p0) v3.1))||((!(zcI (zq0 p0) v3.2.1))||(!(zcI (zrj p0) v3.2.2.1))))) then false else (decide ((zbk p0)=(1:Int)))||(bif !v3.2.2.2 then decide ((zmQ p0)=(0:Int)) else (decide ((0:Int)<p1))&&(decide ((wu64 (zmQ p0))<(wu64 p1))))
def zzu:PnT:=⟨[tIns,.int .i64],[.bool],fun x=>zqf x.1 x.2⟩
def zzb:TA :=
 qf 0 0<|.callp 141 zwI [.v 2] 4<|.subp [.bool] (qf 0 0<|qk .lss 7 1<|qe 8 (qt 0 true) (qf 0 0<|qk .gtr 9 16<|qe 10 (qt 0 true) (qf 1 0<|.callp 142 zfB (qv [11,3]) 1<|qn 12<|qe 13 (qt 0 true) (qf 2 0<|.callp 142 zfB (qv [14,4]) 1<|qn 15<|qe 16 (qt 0 true) (qf 3 0<|.callp 142 zfB (qv [17,5]) 1<|qn 18<|qj 0 19))))) 1<|qe 7 (qt 0 false) (qf 0 0<|qk .eql 8 1<|qe 9 (qt 0 true) (qn 6<|qe 10 (qf 4 0<|.prim (.bin .eql) [.v 11,.c (.int .u32 0)]<|qj 0 12) (.subp [.bool] (qk .gtr 1 0<|qe 11 (qf 4 0<|.prim (.conv .u64) [.v 12]<|.prim (.conv .u64) [.v 1]<|qb .lss 13 14<|qj 0 15) (qt 0 false)) 1<|qj 0 11)))
theorem zzG:zaM cx 12 102=some zzb.erase:=by kernel_rfl
theorem zFt:FnOk cx 12 noC 102 zzu.fn:=rp_ zzG (.cons zD2 (.cons zh8 (.cons zh8 (.cons zh8 .nil))))
def zoK (p0:Pool) (p1:Int):Option Int :=
 (zfg p0).bind fun v2=>if !v2 then
 some ((1:Int))
 else
 if (decide (p1<(0:Int)))||(decide ((List.length (zaf p0):Int)≤p1)) then
 some ((7:Int))
 else
 some ((0:Int))
def zpN:FnT:=⟨[zb3,.int .i64],[.int .i64],fun x=>zoK x.1 x.2⟩
def zwc:TA :=
 .call 73 zga [.v 0] 1<|qn 2<|qe 3 (.jmp 0 false [(qz 1)]) (.subp [.bool] (qk .lss 1 0<|qe 4 (qt 0 true) (qf 0 0<|ql 5<|qb .geq 1 6<|qj 0 7)) 1<|qe 4 (.jmp 0 false [(qz 7)]) (.jmp 0 false [(qz 0)]))
theorem zwU:zaM cx 12 122=some zwc.erase:=by kernel_rfl
theorem zwo:FnOk cx 12 noC 122 zpN:=rf_ zwU (.cons zh0 .nil)
def zeW (p0:Pool):Option Int :=
 (zfg p0).bind fun v1=>if !v1 then
 some ((0:Int))
 else
 some ((w64 ((64:Int) - (List.length (zaf p0):Int))))
def zhk:FnT:=⟨[zb3],[.int .i64],fun x=>zeW x⟩
def ztq:TA :=
 .call 73 zga [.v 0] 1<|qn 1<|qe 2 (.jmp 0 false [(qz 0)]) (qf 0 0<|ql 3<|.prim (.bin .sub) [(qz 64),.v 4]<|qj 0 5)
theorem zui:zaM cx 12 151=some ztq.erase:=by kernel_rfl
theorem zje:FnOk cx 12 noC 151 zhk:=rf_ zui (.cons zh0 .nil)
def zg2 (p0:Clock) (p1:Int):Option Bool :=
 ((zeg p0).bind fun v2=>if v2 then
 some ((zlK p1))
 else
 some (false):Option Bool).bind fun v2=>some (v2)
def zhn:FnT:=⟨[zbW,.int .i64],[.bool],fun x=>zg2 x.1 x.2⟩
def zsR:TA :=
 .sub0 [.bool] (.call 57 zeV [.v 0] 1<|qe 2 (.callp 98 zhS [.v 1] 1<|qj 0 3) (qt 0 false)) 1<|qj 0 2
theorem zu5:zaM cx 12 162=some zsR.erase:=by kernel_rfl
theorem zjj:FnOk cx 12 noC 162 zhn:=rf_ zu5 (.cons zgt (.cons zkr .nil))
def zgQ (p0:zcn) (p1:Int):Option Bool :=
 ((zew p0).bind fun v2=>if v2 then
 if decide ((0:Int)≤p1) then
 some ((decide (p1<(List.length (zac p0):Int))))
 else
 some (false)
 else
 some (false):Option Bool).bind fun v2=>some (v2)
def zhL:FnT:=⟨[zgU,.int .i64],[.bool],fun x=>zgQ x.1 x.2⟩
def zrV:TA :=
 .sub0 [.bool] (.call 134 zfL [.v 0] 1<|qe 2 (qk .geq 1 0<|qe 3 (qf 0 0<|ql 4<|qb .lss 1 5<|qj 0 6) (qt 0 false)) (qt 0 false)) 1<|qj 0 2
theorem zrY:zaM cx 12 175=some zrV.erase:=by kernel_rfl
theorem zk8:FnOk cx 12 noC 175 zhL:=rf_ zrY (.cons zii .nil)
def zpV (x18:List Int) (x19:Int) (s:(Int×(List Int))):Option ((Int×(List Int))⊕(List Int)) :=
 if decide (s.1<x19) then
 (getO x18 s.1).bind fun v23=>(idxO (List.length s.2:Int) s.1).bind fun v24=>(getO s.2 v24).bind fun v25=>(idxO (List.length s.2:Int) s.1).bind fun v27=>(setO s.2 v27 (bXor .u32 v25 v23)).bind fun v28=>some (Sum.inl (w64 (s.1 + (1:Int)),v28))
 else
 some (Sum.inr (s.2))
def ziu (x11:List (List Int)) (x14:Int) (s:(Int×(List Int))):Option ((Int×(List Int))⊕(List Int)) :=
 if decide (s.1<x14) then
 (getO x11 s.1).bind fun v18=>let v19:Int:=(v18.length:Int)
 (zaQ (zpV v18 v19) ((0:Int),s.2):Option (List Int)).bind fun v20=>some (Sum.inl (w64 (s.1 + (1:Int)),v20))
 else
 some (Sum.inr (s.2))
def zb6 (x4:List (List Int)) (x5:Int) (s:(Int×(List (List Int)))):Option ((Int×(List (List Int)))⊕(List (List Int))) :=
 if decide (s.1<x5) then
 (getO x4 s.1).bind fun v9=>(zaS 4 v9).bind fun v10=>(appO 24 s.2 ([v10]:List (List Int))).bind fun v12=>some (Sum.inl (w64 (s.1 + (1:Int)),v12))
 else
 some (Sum.inr (s.2))
def zfC (p0:zcn):Option (zcn×Int) :=
 ((zaS 4 (zat p0)).bind fun v2=>let v5:Int:=(List.length (zac p0):Int)
 (zaQ (zb6 (zac p0) v5) ((0:Int),([]:List (List Int))):Option (List (List Int))).bind fun v6=>some ((zaq p0,v6,v2)):Option (Int×(List (List Int))×(List Int))).bind fun v1=>(zew p0).bind fun v4=>if !v4 then
 some ((zaY v1.2.1 v1.2.2 v1.1,(1:Int)))
 else
 if decide ((zaq p0)=(0:Int)) then
 some ((zaY v1.2.1 v1.2.2 v1.1,(8:Int)))
 else
 (getO v1.2.1 (0:Int)).bind fun v10=>(appO 24 v1.2.1 ([v1.2.2]:List (List Int))).bind fun v11=>let v12:Int:=(List.length v1.2.2:Int)
 ((repO (0:Int) 4 v12 v12).bind fun v13=>let v14:Int:=(v11.length:Int)
 (zaQ (ziu v11 v14) ((0:Int),v13):Option (List Int)).bind fun v15=>some (v15):Option (List Int)).bind fun v13=>(idxO (List.length v1.2.1:Int) (w64 (v1.1 - (1:Int)))).bind fun v14=>(setO v1.2.1 v14 v13).bind fun v15=>some ((zaY v15 v1.2.2 (0:Int),(0:Int)))
def zj3:FnT:=⟨[zgU],[zgU,.int .i64],fun x=>zfC x⟩
def zjY:TA :=
 .sub0 [.int .i64,.sl (.sl (.int .u32)),.sl (.int .u32)] (qf 1 0<|qc 4 1<|qf 2 0<|qf 0 0<|ql 4<|.sub0 [.sl (.sl (.int .u32))] (.loop [.int .i64,.sl (.sl (.int .u32))] [(qz 0),.c .nil] (qb .lss 6 5<|qe 8 (qg 4 6<|qc 4 9<|.mkL (.sl (.int .u32)) [.v 10]<|qa 24 7 11<|qk .add 6 1<|.jmp 0 true (qv [13,12])) (qj 1 7))) 1<|.jmp 0 false (qv [3,6,2])) 3<|.call 134 zfL [.v 0] 1<|qn 4<|qe 5 (.mkS zb7 (qv [2,3,1])<|.jmp 0 false [.v 6,(qz 1)]) (qf 2 0<|qk .eql 6 0<|qe 7 (.mkS zb7 (qv [2,3,1])<|.jmp 0 false [.v 8,(qz 8)]) (qk .sub 1 1<|.mkL (.sl (.int .u32)) [.v 3]<|.prim .get [.v 2,(qz 0)]<|qa 24 2 9<|ql 3<|.sub0 [.sl (.int .u32)] (.primH (.rep (.int .u32 0) 4) (.sl (.int .u32)) (qv [12,12])<|ql 11<|.sub0 [.sl (.int .u32)] (.loop [.int .i64,.sl (.int .u32)] [(qz 0),.v 13] (qb .lss 15 14<|qe 17 (qg 11 15<|ql 18<|.sub0 [.sl (.int .u32)] (.loop [.int .i64,.sl (.int .u32)] [(qz 0),.v 16] (qb .lss 20 19<|qe 22 (qg 18 20<|qi 21 20<|qg 21 24<|qb .xor 25 23<|qi 21 20<|qs 21 27 26<|qk .add 20 1<|.jmp 0 true (qv [29,28])) (qj 1 21))) 1<|qk .add 15 1<|.jmp 0 true (qv [21,20])) (qj 1 16))) 1<|qj 0 15) 1<|qi 2 8<|qs 2 14 13<|.mkS zb7 [.v 15,.v 3,(qz 0)]<|.jmp 0 false [.v 16,(qz 0)]))
theorem zj6:zaM cx 12 176=some zjY.erase:=by kernel_rfl
theorem zsa:FnOk cx 12 noC 176 zj3:=rf_ zj6 (.cons zii .nil)
def ziz (p0:Entry) (p1:Int):Option (Entry×Int) :=
 ((zaS 1 (zan p0)).bind fun v3=>some ((zav p0,v3)):Option (Int×(List Bool))).bind fun v2=>(ziD (za6 v2.1 v2.2) p1).bind fun v5=>if !v5 then
 some ((za6 v2.1 v2.2,(1:Int)))
 else
 if !decide (v2.1=(w64 (p1 + (1:Int)))) then
 some ((za6 v2.1 v2.2,(7:Int)))
 else
 some ((za6 (0:Int) v2.2,(0:Int)))
def zrg:FnT:=⟨[zbF,.int .i64],[zbF,.int .i64],fun x=>ziz x.1 x.2⟩
def zrW:TA :=
 .sub0 [.int .i64,.sl .bool] (qf 1 0<|qc 1 2<|qN 2 0 0<|.jmp 0 false (qv [4,3])) 2<|.mkS zdY (qv [2,3])<|.call 226 zjE (qv [4,1]) 1<|qn 5<|qe 6 (.mkS zdY (qv [2,3])<|.jmp 0 false [.v 7,(qz 1)]) (qk .add 1 1<|qb .neq 2 7<|qe 8 (.mkS zdY (qv [2,3])<|.jmp 0 false [.v 9,(qz 7)]) (.mkS zdY [(qz 0),.v 3]<|.jmp 0 false [.v 9,(qz 0)]))
theorem zrO:zaM cx 12 201=some zrW.erase:=by kernel_rfl
theorem zzn:FnOk cx 12 noC 201 zrg:=rf_ zrO (.cons znn .nil)
def zhK (x6:List Int) (x7 s:Int):Option (Int⊕Unit⊕Int) :=
 if decide (s<x7) then
 (idxO (x6.length:Int) s).bind fun v10=>(getO x6 v10).bind fun v11=>if znK v11 then
 some (Sum.inr (Sum.inr (s)))
 else
 some (Sum.inl (w64 (s + (1:Int))))
 else
 some (Sum.inr (Sum.inl ()))
def ziP (p0:Msg):Option Bool :=
 let v6:List Int:=([zaF p0,zcw p0,zaH p0,zbS p0,zbV p0]:List Int)
 ((let v7:Int:=(v6.length:Int)
 zbm (zaQ (zhK v6 v7) (0:Int):Option (Unit⊕Int)) fun v8=>some ((-1:Int)):Option Int).bind fun v7=>some ((decide ((0:Int)≤v7))):Option Bool).bind fun v7=>some (((!v7)&&((decide ((1:Int)≤(zaL p0)))&&(decide ((zaL p0)≤(11:Int))))))
def znI:FnT:=⟨[tMsg],[.bool],fun x=>ziP x⟩
def zuK:TA :=
 qN 5 1 0<|.mkL (.int .i64) (qv [1,2,3,4,5])<|.sub0 [.bool] (.sub0 [.int .i64] (ql 6<|.sub1 [] (.loop [.int .i64] [(qz 0)] (qb .lss 8 7<|qe 9 (qi 6 8<|qg 6 10<|.callp 229 zn0 [.v 11] 1<|qe 12 (qj 2 8) (qk .add 8 1<|qr 0 13)) (qx 1))) 0<|.jmp 0 false [.c (.int .i64 (-1))]) 1<|qk .geq 7 0<|qj 0 8) 1<|qn 7<|.subp [.bool] (qe 8 (qf 0 0<|qk .geq 9 1<|qe 10 (qf 0 0<|qk .leq 11 11<|qj 0 12) (qt 0 false)) (qt 0 false)) 1<|qj 0 9
theorem zuj:zaM cx 12 218=some zuK.erase:=by kernel_rfl
theorem zt1:FnOk cx 12 noC 218 znI:=rf_ zuj (.cons zxe .nil)
def zmm (x1:Int) (x3:List Bool) (x7:Int) (s:(Int×(List Int))):Option ((Int×(List Int))⊕(List Int)) :=
 if decide (s.1<x7) then
 (idxO (x3.length:Int) s.1).bind fun v11=>(getO x3 v11).bind fun v12=>(if v12&&(!decide (s.1=x1)) then
 (appO 8 s.2 ([s.1]:List Int)).bind fun v15=>some (v15)
 else
 some (s.2):Option (List Int)).bind fun v14=>some (Sum.inl (w64 (s.1 + (1:Int)),v14))
 else
 some (Sum.inr (s.2))
def zeh (p0:Entry) (p1:Int):Option (Entry×Int×(List Int)×Int) :=
 ((zaS 1 (zan p0)).bind fun v3=>some ((zav p0,v3)):Option (Int×(List Bool))).bind fun v2=>(ziD (za6 v2.1 v2.2) p1).bind fun v5=>if !v5 then
 some ((za6 v2.1 v2.2,(0:Int),([]:List Int),(1:Int)))
 else
 (let v7:Int:=(List.length v2.2:Int)
 (zaQ (zmm p1 v2.2 v7) ((0:Int),([]:List Int)):Option (List Int)).bind fun v8=>some (v8):Option (List Int)).bind fun v7=>some ((za6 (w64 (p1 + (1:Int))) (List.replicate (List.length v2.2) false),v2.1,v7,(0:Int)))
def zot:FnT:=⟨[zbF,.int .i64],[zbF,.int .i64,.sl (.int .i64),.int .i64],fun x=>zeh x.1 x.2⟩
def zpo:TA :=
 .sub0 [.int .i64,.sl .bool] (qf 1 0<|qc 1 2<|qN 2 0 0<|.jmp 0 false (qv [4,3])) 2<|.mkS zdY (qv [2,3])<|.call 226 zjE (qv [4,1]) 1<|qn 5<|qe 6 (.mkS zdY (qv [2,3])<|.jmp 0 false [.v 7,(qz 0),.c .nil,(qz 1)]) (.sub0 [.sl (.int .i64)] (ql 3<|.sub0 [.sl (.int .i64)] (.loop [.int .i64,.sl (.int .i64)] [(qz 0),.c .nil] (qb .lss 8 7<|qe 10 (qi 3 8<|qg 3 11<|.subp [.bool] (qe 12 (qb .neq 8 1<|qj 0 13) (qt 0 false)) 1<|.sub0 [.sl (.int .i64)] (qe 13 (.mkL (.int .i64) [.v 8]<|qa 8 9 14<|qj 0 15) (qj 0 9)) 1<|qk .add 8 1<|.jmp 0 true (qv [15,14])) (qj 1 9))) 1<|qj 0 8) 1<|qk .add 1 1<|.prim (.clr (.bool false)) [.v 3]<|.mkS zdY (qv [8,9])<|.jmp 0 false [.v 10,.v 2,.v 7,(qz 0)])
theorem zoa:zaM cx 12 222=some zpo.erase:=by kernel_rfl
theorem zxC:FnOk cx 12 noC 222 zot:=rf_ zoa (.cons znn .nil)
def zdV (x1:Int) (x3:List Bool) (x8:Int) (s:(Int×(List Int))):Option ((Int×(List Int))⊕(List Int)) :=
 if decide (s.1<x8) then
 (idxO (x3.length:Int) s.1).bind fun v12=>(getO x3 v12).bind fun v13=>(if v13&&(!decide (s.1=x1)) then
 (appO 8 s.2 ([s.1]:List Int)).bind fun v16=>some (v16)
 else
 some (s.2):Option (List Int)).bind fun v15=>some (Sum.inl (w64 (s.1 + (1:Int)),v15))
 else
 some (Sum.inr (s.2))
def zfd (p0:Entry) (p1:Int):Option (Entry×Int×Int) :=
 ((zaS 1 (zan p0)).bind fun v3=>some ((zav p0,v3)):Option (Int×(List Bool))).bind fun v2=>(ziD (za6 v2.1 v2.2) p1).bind fun v5=>if !v5 then
 some ((za6 v2.1 v2.2,(0:Int),(1:Int)))
 else
 (if decide (v2.1=(0:Int)) then
 (let v8:Int:=(List.length v2.2:Int)
 (zaQ (zdV p1 v2.2 v8) ((0:Int),([]:List Int)):Option (List Int)).bind fun v9=>some (v9):Option (List Int)).bind fun v8=>some ((decide ((v8.length:Int)=(0:Int))))
 else
 some (false):Option Bool).bind fun v7=>(if v7 then
 (idxO (List.length v2.2:Int) p1).bind fun v9=>(setO v2.2 v9 false).bind fun v10=>some ((w64 (p1 + (1:Int)),v10))
 else
 (if !decide (v2.1=(w64 (p1 + (1:Int)))) then
 (idxO (List.length v2.2:Int) p1).bind fun v10=>(setO v2.2 v10 true).bind fun v11=>some (v11)
 else
 some (v2.2):Option (List Bool)).bind fun v10=>some ((v2.1,v10)):Option (Int×(List Bool))).bind fun v8=>some ((za6 v8.1 v8.2,v2.1,(0:Int)))
def zry:FnT:=⟨[zbF,.int .i64],[zbF,.int .i64,.int .i64],fun x=>zfd x.1 x.2⟩
def zrl:TA :=
 .sub0 [.int .i64,.sl .bool] (qf 1 0<|qc 1 2<|qN 2 0 0<|.jmp 0 false (qv [4,3])) 2<|.mkS zdY (qv [2,3])<|.call 226 zjE (qv [4,1]) 1<|qn 5<|qe 6 (.mkS zdY (qv [2,3])<|.jmp 0 false [.v 7,(qz 0),(qz 1)]) (.sub0 [.bool] (qk .eql 2 0<|qe 7 (.sub0 [.sl (.int .i64)] (ql 3<|.sub0 [.sl (.int .i64)] (.loop [.int .i64,.sl (.int .i64)] [(qz 0),.c .nil] (qb .lss 9 8<|qe 11 (qi 3 9<|qg 3 12<|.subp [.bool] (qe 13 (qb .neq 9 1<|qj 0 14) (qt 0 false)) 1<|.sub0 [.sl (.int .i64)] (qe 14 (.mkL (.int .i64) [.v 9]<|qa 8 10 15<|qj 0 16) (qj 0 10)) 1<|qk .add 9 1<|.jmp 0 true (qv [16,15])) (qj 1 10))) 1<|qj 0 9) 1<|ql 8<|qk .eql 9 0<|qj 0 10) (qt 0 false)) 1<|.sub0 [.int .i64,.sl .bool] (qe 7 (qk .add 1 1<|qi 3 1<|.prim .set [.v 3,.v 9,.c (.bool false)]<|.jmp 0 false (qv [8,10])) (qk .add 1 1<|qb .neq 2 8<|.sub0 [.sl .bool] (qe 9 (qi 3 1<|.prim .set [.v 3,.v 10,.c (.bool true)]<|qj 0 11) (qj 0 3)) 1<|.jmp 0 false (qv [2,10]))) 2<|.mkS zdY (qv [8,9])<|.jmp 0 false [.v 10,.v 2,(qz 0)])
theorem zr5:zaM cx 12 223=some zrl.erase:=by kernel_rfl
theorem zyt:FnOk cx 12 noC 223 zry:=rf_ zr5 (.cons znn .nil)
def zdE (p0:Entry):Option Bool :=
 ((ziB p0 (List.length (zan p0):Int)).bind fun v3=>if v3 then
 if decide ((0:Int)<(zav p0)) then
 (zcc (zan p0) true).bind fun v7=>some ((!v7))
 else
 some (false)
 else
 some (false):Option Bool).bind fun v1=>some (v1)
def zpi:FnT:=⟨[zbF],[.bool],fun x=>zdE x⟩
def zoV:TA :=
 .sub0 [.bool] (qf 1 0<|ql 1<|.call 76 ziY (qv [0,2]) 1<|qe 3 (qf 0 0<|qk .gtr 4 0<|qe 5 (qf 1 0<|.call 236 zdM [.v 6,.c (.bool true)] 1<|qn 7<|qj 0 8) (qt 0 false)) (qt 0 false)) 1<|qj 0 1
theorem zo6:zaM cx 12 224=some zoV.erase:=by kernel_rfl
theorem zxx:FnOk cx 12 noC 224 zpi:=rf_ zo6 (.cons znq (.cons zht .nil))
def zc3 (x0:Machine) (x5:List Int) (x6:Int) (s:(Int×(List Int))):Option ((Int×(List Int))⊕(List Int)) :=
 if decide (s.1<x6) then
 (getO x5 s.1).bind fun v10=>(zbw (zah x0) s.1).bind fun v12=>(if decide ((0:Int)≤v12) then
 (getO (zam (zah x0)) v12).bind fun v16=>(getO v16 s.1).bind fun v17=>some (v17)
 else
 some (v10):Option Int).bind fun v14=>(appO 4 s.2 ([v14]:List Int)).bind fun v16=>some (Sum.inl (w64 (s.1 + (1:Int)),v16))
 else
 some (Sum.inr (s.2))
def zcO (p0:Machine):Option (List Int) :=
 (zdw (zah p0)).bind fun v2=>if !v2 then
 some (([]:List Int))
 else
 let v5:List Int:=zad (zah p0)
 let v6:Int:=(v5.length:Int)
 (zaQ (zc3 p0 v5 v6) ((0:Int),([]:List Int)):Option (List Int)).bind fun v7=>some (v7)
def zgi:FnT:=⟨[zcq],[.sl (.int .u32)],fun x=>zcO x⟩
def zjR:TA :=
 qf 1 0<|.call 33 ze1 [.v 1] 1<|qn 2<|qe 3 (.jmp 0 false [.c .nil]) (qf 1 0<|qf 3 4<|ql 5<|.sub0 [.sl (.int .u32)] (.loop [.int .i64,.sl (.int .u32)] [(qz 0),.c .nil] (qb .lss 7 6<|qe 9 (qg 5 7<|qf 1 0<|.call 34 zhf (qv [11,7]) 1<|qk .geq 12 0<|.sub0 [.int .u32] (qe 13 (qf 1 0<|qf 1 14<|qg 15 12<|qg 16 7<|qj 0 17) (qj 0 10)) 1<|.mkL (.int .u32) [.v 14]<|qa 4 8 15<|qk .add 7 1<|.jmp 0 true (qv [17,16])) (qj 1 8))) 1<|qj 0 7)
theorem zjW:zaM cx 12 19=some zjR.erase:=by kernel_rfl
theorem zjH:FnOk cx 12 noC 19 zgi:=rf_ zjW (.cons zgK (.cons zlj .nil))
def zjc (p0:Machine):Option Bool :=
 ((zdw (zah p0)).bind fun v2=>if v2 then
 (zcN (zar p0)).bind fun v4=>if v4 then
 (zeg (zaC p0)).bind fun v6=>if v6 then
 (zdA (zaz p0)).bind fun v8=>some (v8)
 else
 some (false)
 else
 some (false)
 else
 some (false):Option Bool).bind fun v1=>some (v1)
def zkV:FnT:=⟨[zcq],[.bool],fun x=>zjc x⟩
def zk7:TA :=
 .sub0 [.bool] (qf 1 0<|.call 33 ze1 [.v 1] 1<|qe 2 (qf 2 0<|.call 91 zcJ [.v 3] 1<|qe 4 (qf 3 0<|.call 57 zeV [.v 5] 1<|qe 6 (qf 4 0<|.call 92 zd3 [.v 7] 1<|qj 0 8) (qt 0 false)) (qt 0 false)) (qt 0 false)) 1<|qj 0 1
theorem zk0:zaM cx 12 43=some zk7.erase:=by kernel_rfl
theorem zsK:FnOk cx 12 noC 43 zkV:=rf_ zk0 (.cons zgK (.cons zc7 (.cons zgt (.cons zfG .nil))))
def zhZ (x0:List Ins) (x7 s:Int):Option (Int⊕Unit⊕Int) :=
 if decide (s<x7) then
 (getO x0 s).bind fun v10=>if !(zqf v10 (x0.length:Int)) then
 some (Sum.inr (Sum.inr (s)))
 else
 some (Sum.inl (w64 (s + (1:Int))))
 else
 some (Sum.inr (Sum.inl ()))
def zkP (p0:List Ins):Option Bool :=
 if (decide ((p0.length:Int)<(1:Int)))||(decide ((64:Int)<(p0.length:Int))) then
 some (false)
 else
 (getO p0 (w64 ((p0.length:Int) - (1:Int)))).bind fun v4=>(if (decide ((zbk v4)=(16:Int)))||(decide ((zbk v4)=(13:Int))) then
 ((let v7:Int:=(p0.length:Int)
 zbm (zaQ (zhZ p0 v7) (0:Int):Option (Unit⊕Int)) fun v8=>some ((-1:Int)):Option Int).bind fun v7=>some ((decide ((0:Int)≤v7))):Option Bool).bind fun v7=>some ((!v7))
 else
 some (false):Option Bool).bind fun v7=>some (v7)
def znd:FnT:=⟨[.sl tIns],[.bool],fun x=>zkP x⟩
def zuE:TA :=
 .subp [.bool] (ql 0<|qk .lss 1 1<|qe 2 (qt 0 true) (ql 0<|qk .gtr 3 64<|qj 0 4)) 1<|qe 1 (qt 0 false) (ql 0<|qk .sub 2 1<|qg 0 3<|qf 0 4<|.subp [.bool] (qk .eql 5 16<|qe 6 (qt 0 true) (qk .eql 5 13<|qj 0 7)) 1<|.sub0 [.bool] (qe 6 (.sub0 [.bool] (.sub0 [.int .i64] (ql 0<|.sub1 [] (.loop [.int .i64] [(qz 0)] (qb .lss 8 7<|qe 9 (qg 0 8<|.subp [.bool] (ql 0<|.callp 102 zzu (qv [10,11]) 1<|qn 12<|qj 0 13) 1<|qe 11 (qj 2 8) (qk .add 8 1<|qr 0 12)) (qx 1))) 0<|.jmp 0 false [.c (.int .i64 (-1))]) 1<|qk .geq 7 0<|qj 0 8) 1<|qn 7<|qj 0 8) (qt 0 false)) 1<|qj 0 7)
theorem ztz:zaM cx 12 60=some zuE.erase:=by kernel_rfl
theorem zts:FnOk cx 12 noC 60 znd:=rf_ ztz (.cons zFt .nil)
def zhD (x3:List (List Int)) (x4:Int) (s:(Int×(List (List Int)))):Option ((Int×(List (List Int)))⊕(List (List Int))) :=
 if decide (s.1<x4) then
 (getO x3 s.1).bind fun v8=>(zaS 1 v8).bind fun v9=>(appO 24 s.2 ([v9]:List (List Int))).bind fun v11=>some (Sum.inl (w64 (s.1 + (1:Int)),v11))
 else
 some (Sum.inr (s.2))
def zeB (p0:Pool) (p1:Int):Option (Pool×Int) :=
 (zoK p0 p1).bind fun v2=>(let v4:Int:=(List.length (zaf p0):Int)
 (zaQ (zhD (zaf p0) v4) ((0:Int),([]:List (List Int))):Option (List (List Int))).bind fun v5=>some (v5):Option (List (List Int))).bind fun v3=>(if decide (v2=(0:Int)) then
 let v5:Int:=w64 (p1 + (1:Int))
 ((zGC (v3.length:Int) p1 v5 (v3.length:Int)).bind fun v7=>if decide (p1=v5) then
 some (((v3.length:Int),v3))
 else
 (rngO (v3.length:Int) (0:Int) p1).bind fun v11=>(rngO (v3.length:Int) v5 (v3.length:Int)).bind fun v13=>(subO v3 v5 v13).bind fun v14=>(zxA 24 v3 v11 v14).bind fun v15=>let v17:Int:=v11 + (v14.length:Int)
 let v18:Int:=v17 - (0:Int)
 (zzy (v15.length:Int) (0:Int) v18 (v3.length:Int)).bind fun v20=>let v21:Int:=(0:Int) + v18
 (subO v15 v21 v20).bind fun v22=>(zx9 v15 v21 v20 (List.replicate (v22.length) ([]:List Int))).bind fun v24=>some ((v17,v24)):Option (Int×(List (List Int)))).bind fun v6=>some ((v6.1,v6.2))
 else
 some (((v3.length:Int),v3)):Option (Int×(List (List Int)))).bind fun v5=>(subO v5.2 (0:Int) v5.1).bind fun v7=>some ((za5 v7,v2))
def zm9:FnT:=⟨[zb3,.int .i64],[zb3,.int .i64],fun x=>zeB x.1 x.2⟩
def ztY:TA :=
 .call 122 zpN (qv [0,1]) 1<|.sub0 [.sl (.sl (.int .u8))] (qf 0 0<|ql 3<|.sub0 [.sl (.sl (.int .u8))] (.loop [.int .i64,.sl (.sl (.int .u8))] [(qz 0),.c .nil] (qb .lss 5 4<|qe 7 (qg 3 5<|qc 1 8<|.mkL (.sl (.int .u8)) [.v 9]<|qa 24 6 10<|qk .add 5 1<|.jmp 0 true (qv [12,11])) (qj 1 6))) 1<|qj 0 5) 1<|qk .eql 2 0<|.sub0 [.int .i64,.sl (.sl (.int .u8))] (qe 4 (qk .add 1 1<|.sub0 [.int .i64,.sl (.sl (.int .u8))] (ql 3<|.prim .rng3 (qv [3,1,5,6])<|qb .eql 1 5<|qe 8 (ql 3<|.jmp 0 false (qv [9,3])) (ql 3<|ql 3<|.prim .rng [.v 3,(qz 0),.v 1]<|ql 3<|.prim .rng (qv [3,5,12])<|.prim .sub (qv [3,5,13])<|.prim (.appv 24) (qv [3,11,14])<|ql 14<|.prim .vadd (qv [11,16])<|.prim .vlen [(qz 0),.v 17]<|.prim .vlen [(qz 0),.v 17]<|.prim .rngv [.v 15,(qz 0),.v 18,.v 9]<|.prim .vadd [(qz 0),.v 18]<|.prim .sub (qv [15,21,20])<|.prim (.clr .nil) [.v 22]<|.prim .cpyv (qv [15,21,20,23])<|.jmp 0 false (qv [17,24]))) 2<|.jmp 0 false (qv [6,7])) (ql 3<|.jmp 0 false (qv [5,3]))) 2<|.prim .sub [.v 6,(qz 0),.v 5]<|.mkS zd8 [.v 7]<|.jmp 0 false (qv [8,2])
theorem zua:zaM cx 12 67=some ztY.erase:=by kernel_rfl
theorem zu8:FnOk cx 12 noC 67 zm9:=rf_ zua (.cons zwo .nil)
def zpg (x4:List (List Int)) (x5:Int) (s:(Int×(List (List Int)))):Option ((Int×(List (List Int)))⊕(List (List Int))) :=
 if decide (s.1<x5) then
 (getO x4 s.1).bind fun v9=>(zaS 1 v9).bind fun v10=>(appO 24 s.2 ([v10]:List (List Int))).bind fun v12=>some (Sum.inl (w64 (s.1 + (1:Int)),v12))
 else
 some (Sum.inr (s.2))
def zlR (p0:Pool) (p1 p2:Int):Option (Pool×Int) :=
 (zoK p0 p1).bind fun v3=>(let v5:Int:=(List.length (zaf p0):Int)
 (zaQ (zpg (zaf p0) v5) ((0:Int),([]:List (List Int))):Option (List (List Int))).bind fun v6=>some (v6):Option (List (List Int))).bind fun v4=>let v6:Int:=bif (decide (v3=(0:Int)))&&((decide (p2<(0:Int)))||(decide ((152:Int)≤p2))) then (1:Int) else v3
 (if decide (v6=(0:Int)) then
 (idxO (v4.length:Int) p1).bind fun v8=>(idxO (v4.length:Int) v8).bind fun v9=>(quoO .i64 p2 (8:Int)).bind fun v10=>(getO v4 v9).bind fun v11=>(idxO (v11.length:Int) v10).bind fun v12=>(getO v4 v9).bind fun v13=>(getO v13 v12).bind fun v14=>(remO p2 (8:Int)).bind fun v15=>(shlO .u8 (1:Int) v15).bind fun v16=>(getO v4 v9).bind fun v18=>(idxO (v18.length:Int) v10).bind fun v19=>(getO v4 v9).bind fun v20=>(setO v20 v19 (bXor .u8 v14 v16)).bind fun v21=>(setO v4 v9 v21).bind fun v22=>some (v22)
 else
 some (v4):Option (List (List Int))).bind fun v8=>some ((za5 v8,v6))
def zqJ:FnT:=⟨[zb3,.int .i64,.int .i64],[zb3,.int .i64],fun x=>zlR x.1 x.2.1 x.2.2⟩
def zrQ:TA :=
 .call 122 zpN (qv [0,1]) 1<|.sub0 [.sl (.sl (.int .u8))] (qf 0 0<|ql 4<|.sub0 [.sl (.sl (.int .u8))] (.loop [.int .i64,.sl (.sl (.int .u8))] [(qz 0),.c .nil] (qb .lss 6 5<|qe 8 (qg 4 6<|qc 1 9<|.mkL (.sl (.int .u8)) [.v 10]<|qa 24 7 11<|qk .add 6 1<|.jmp 0 true (qv [13,12])) (qj 1 7))) 1<|qj 0 6) 1<|.subp [.bool] (qk .eql 3 0<|qe 5 (qk .lss 2 0<|qe 6 (qt 0 true) (qk .geq 2 152<|qj 0 7)) (qt 0 false)) 1<|.subp [.int .i64] (qe 5 (.jmp 0 false [(qz 1)]) (qj 0 3)) 1<|qk .eql 6 0<|.sub0 [.sl (.sl (.int .u8))] (qe 7 (qi 4 1<|qi 4 8<|qk .quo 2 8<|qg 4 9<|qi 11 10<|qg 4 9<|qg 13 12<|qk .rem 2 8<|.prim (.bin .shl) [.c (.int .u8 1),.v 15]<|qb .xor 14 16<|qg 4 9<|qi 18 10<|qg 4 9<|qs 20 19 17<|qs 4 9 21<|qj 0 22) (qj 0 4)) 1<|.mkS zd8 [.v 8]<|.jmp 0 false (qv [9,6])
theorem zqP:zaM cx 12 68=some zrQ.erase:=by kernel_rfl
theorem zzO:FnOk cx 12 noC 68 zqJ:=rf_ zqP (.cons zwo .nil)
def zi9 (p0:Gate) (p1:Int) (p2:Told):Option (Gate×Int) :=
 ((zaS 24 (zas p0)).bind fun v4=>(zaS 16 (zbU p0)).bind fun v6=>some ((v4,v6)):Option ((List Held)×(List Told))).bind fun v3=>let v7:Int:=w64 ((List.length (zas p0):Int) - (1:Int))
 ((zdA p0).bind fun v8=>if !v8 then
 some (true)
 else
 if !(zdv p1) then
 some (true)
 else
 if decide ((0:Int)≤v7) then
 (getO (zas p0) v7).bind fun v14=>some ((decide (p1<(zcu v14))))
 else
 some (false):Option Bool).bind fun v8=>if v8 then
 some ((zdg v3.1 v3.2,(1:Int)))
 else
 if decide ((List.length (zas p0):Int)=(64:Int)) then
 some ((zdg v3.1 v3.2,(6:Int)))
 else
 (appO 24 v3.1 ([zlT p2 p1]:List Held)).bind fun v14=>some ((zdg v14 v3.2,(0:Int)))
def zov:FnT:=⟨[zdo,.int .i64,ziI],[zdo,.int .i64],fun x=>zi9 x.1 x.2.1 x.2.2⟩
def znW:TA :=
 .sub0 [.sl zuP,.sl ziI] (qf 0 0<|qc 24 3<|qf 1 0<|qc 16 5<|.jmp 0 false (qv [4,6])) 2<|qf 0 0<|ql 5<|qk .sub 6 1<|.sub0 [.bool] (.call 92 zd3 [.v 0] 1<|qn 8<|qe 9 (qt 0 true) (.callp 137 zeQ [.v 1] 1<|qn 10<|qe 11 (qt 0 true) (qk .geq 7 0<|qe 12 (qf 0 0<|qg 13 7<|qf 1 14<|qb .gtr 15 1<|qj 0 16) (qt 0 false)))) 1<|qe 8 (.mkS zqY (qv [3,4])<|.jmp 0 false [.v 9,(qz 1)]) (qf 0 0<|ql 9<|qk .eql 10 64<|qe 11 (.mkS zqY (qv [3,4])<|.jmp 0 false [.v 12,(qz 6)]) (.mkS zIa (qv [2,1])<|.mkL zuP [.v 12]<|qa 24 3 13<|.mkS zqY (qv [14,4])<|.jmp 0 false [.v 15,(qz 0)]))
theorem zpC:zaM cx 12 104=some znW.erase:=by kernel_rfl
theorem zxy:FnOk cx 12 noC 104 zov:=rf_ zpC (.cons zfG (.cons zgr .nil))
def zl5 (p0:Clock) (p1:Int):Option (Mark×Int) :=
 (zg2 p0 p1).bind fun v2=>if !v2 then
 some (((zcb (0:Int) (0:Int) ([]:List Core)),(1:Int)))
 else
 (zgT p0 p1).bind fun v5=>(getO (zao p0) v5).bind fun v6=>((zaS 48 (za9 v6)).bind fun v8=>some ((zaU v6,zbZ v6,v8)):Option (Int×Int×(List Core))).bind fun v7=>some ((zcb v7.1 v7.2.1 v7.2.2,(0:Int)))
def zre:FnT:=⟨[zbW,.int .i64],[zgc,.int .i64],fun x=>zl5 x.1 x.2⟩
def zr3:TA :=
 .call 162 zhn (qv [0,1]) 1<|qn 2<|qe 3 (.jmp 0 false [.c (.agg [(.int .i64 0),(.int .i64 0),.nil]),(qz 1)]) (qf 0 0<|.call 163 zhU (qv [0,1]) 1<|qg 4 5<|.sub0 [.int .i64,.int .i64,.sl zb2] (qf 2 6<|qc 48 7<|qN 3 0 6<|.jmp 0 false (qv [9,10,8])) 3<|.mkS zkA (qv [7,8,9])<|.jmp 0 false [.v 10,(qz 0)])
theorem zq9:zaM cx 12 114=some zr3.erase:=by kernel_rfl
theorem zzP:FnOk cx 12 noC 114 zre:=rf_ zq9 (.cons zjj (.cons zlo .nil))
def zfJ (x2:List Held) (x7 x8:Int) (s:(Int×(List Told))):Option ((Int×(List Told))⊕(List Told)) :=
 if decide (s.1<x8) then
 (zGx (0:Int) x7 s.1).bind fun v12=>(getO x2 v12).bind fun v13=>(appO 16 s.2 ([zbE v13]:List Told)).bind fun v16=>some (Sum.inl (w64 (s.1 + (1:Int)),v16))
 else
 some (Sum.inr (s.2))
def zi4 (p0:Gate) (p1:Int):Option (Gate×Int) :=
 ((zaS 24 (zas p0)).bind fun v3=>(zaS 16 (zbU p0)).bind fun v5=>some ((v3,v5)):Option ((List Held)×(List Told))).bind fun v2=>((zdA p0).bind fun v4=>if !v4 then
 some (true)
 else
 some ((!(zdv p1))):Option Bool).bind fun v4=>if v4 then
 some ((zdg v2.1 v2.2,(1:Int)))
 else
 (zfQ p0 p1).bind fun v5=>(rngO (List.length v2.1:Int) (0:Int) v5).bind fun v7=>let v8:Int:=v7 - (0:Int)
 (zaQ (zfJ v2.1 v7 v8) ((0:Int),v2.2):Option (List Told)).bind fun v9=>(rngO (List.length v2.1:Int) v5 (List.length v2.1:Int)).bind fun v11=>(subO v2.1 v5 v11).bind fun v12=>some ((zdg v12 v9,(0:Int)))
def zog:FnT:=⟨[zdo,.int .i64],[zdo,.int .i64],fun x=>zi4 x.1 x.2⟩
def zoB:TA :=
 .sub0 [.sl zuP,.sl ziI] (qf 0 0<|qc 24 2<|qf 1 0<|qc 16 4<|.jmp 0 false (qv [3,5])) 2<|.sub0 [.bool] (.call 92 zd3 [.v 0] 1<|qn 4<|qe 5 (qt 0 true) (.callp 137 zeQ [.v 1] 1<|qn 6<|qj 0 7)) 1<|qe 4 (.mkS zqY (qv [2,3])<|.jmp 0 false [.v 5,(qz 1)]) (.call 164 zik (qv [0,1]) 1<|ql 2<|.prim .rng [.v 2,(qz 0),.v 5]<|.prim .vlen [(qz 0),.v 7]<|.sub0 [.sl ziI] (.loop [.int .i64,.sl ziI] [(qz 0),.v 3] (qb .lss 9 8<|qe 11 (.prim .idxv [(qz 0),.v 7,.v 9]<|qg 2 12<|qf 0 13<|.mkL ziI [.v 14]<|qa 16 10 15<|qk .add 9 1<|.jmp 0 true (qv [17,16])) (qj 1 10))) 1<|ql 2<|.prim .rng (qv [2,5,10])<|.prim .sub (qv [2,5,11])<|.mkS zqY (qv [12,9])<|.jmp 0 false [.v 13,(qz 0)])
theorem zoP:zaM cx 12 115=some zoB.erase:=by kernel_rfl
theorem zx0:FnOk cx 12 noC 115 zog:=rf_ zoP (.cons zfG (.cons zgr (.cons zm3 .nil)))
def zcK (x2:List Mark) (x3:Int) (s:(Int×(List Mark))):Option ((Int×(List Mark))⊕(List Mark)) :=
 if decide (s.1<x3) then
 (getO x2 s.1).bind fun v7=>((zaS 48 (za9 v7)).bind fun v9=>some ((zaU v7,zbZ v7,v9)):Option (Int×Int×(List Core))).bind fun v8=>(appO 40 s.2 ([zcb v8.1 v8.2.1 v8.2.2]:List Mark)).bind fun v13=>some (Sum.inl (w64 (s.1 + (1:Int)),v13))
 else
 some (Sum.inr (s.2))
def zlE (p0:Clock) (p1:Int):Option (Clock×Int) :=
 (let v3:Int:=(List.length (zao p0):Int)
 (zaQ (zcK (zao p0) v3) ((0:Int),([]:List Mark)):Option (List Mark)).bind fun v4=>some ((zbA p0,v4)):Option (Int×(List Mark))).bind fun v2=>(zg2 p0 p1).bind fun v4=>if !v4 then
 some ((zbQ v2.2 v2.1,(1:Int)))
 else
 (zgT p0 p1).bind fun v6=>(rngO (List.length v2.2:Int) v6 (List.length v2.2:Int)).bind fun v8=>(subO v2.2 v6 v8).bind fun v9=>some ((zbQ v9 v2.1,(0:Int)))
def zqL:FnT:=⟨[zbW,.int .i64],[zbW,.int .i64],fun x=>zlE x.1 x.2⟩
def zrL:TA :=
 .sub0 [.int .i64,.sl zgc] (qf 0 0<|ql 2<|.sub0 [.sl zgc] (.loop [.int .i64,.sl zgc] [(qz 0),.c .nil] (qb .lss 4 3<|qe 6 (qg 2 4<|.sub0 [.int .i64,.int .i64,.sl zb2] (qf 2 7<|qc 48 8<|qN 3 0 7<|.jmp 0 false (qv [10,11,9])) 3<|.mkS zkA (qv [8,9,10])<|.mkL zgc [.v 11]<|qa 40 5 12<|qk .add 4 1<|.jmp 0 true (qv [14,13])) (qj 1 5))) 1<|qN 2 0 0<|.jmp 0 false (qv [6,4])) 2<|.call 162 zhn (qv [0,1]) 1<|qn 4<|qe 5 (.mkS zgl (qv [3,2])<|.jmp 0 false [.v 6,(qz 1)]) (.call 163 zhU (qv [0,1]) 1<|ql 3<|.prim .rng (qv [3,6,7])<|.prim .sub (qv [3,6,8])<|.mkS zgl (qv [9,2])<|.jmp 0 false [.v 10,(qz 0)])
theorem zqV:zaM cx 12 118=some zrL.erase:=by kernel_rfl
theorem zzr:FnOk cx 12 noC 118 zqL:=rf_ zqV (.cons zjj (.cons zlo .nil))
def zgJ (x2:List (List Int)) (x3:Int) (s:(Int×(List (List Int)))):Option ((Int×(List (List Int)))⊕(List (List Int))) :=
 if decide (s.1<x3) then
 (getO x2 s.1).bind fun v7=>(zaS 4 v7).bind fun v8=>(appO 24 s.2 ([v8]:List (List Int))).bind fun v10=>some (Sum.inl (w64 (s.1 + (1:Int)),v10))
 else
 some (Sum.inr (s.2))
def zl4 (p0:za4):Option (za4×Int) :=
 (let v2:List (List Int):=zac (zae p0)
 let v3:Int:=(v2.length:Int)
 (zaQ (zgJ v2 v3) ((0:Int),([]:List (List Int))):Option (List (List Int))).bind fun v4=>(zaS 4 (zat (zae p0))).bind fun v7=>(zaS 24 (zak p0)).bind fun v9=>some ((zaq (zae p0),zaj p0,zaD p0,v4,v7,v9)):Option (Int×Int×Int×(List (List Int))×(List Int)×(List Undo))).bind fun v1=>((zcN p0).bind fun v7=>if !v7 then
 some (true)
 else
 some ((decide ((zaD p0)=(1099511627776:Int)))):Option Bool).bind fun v7=>if v7 then
 some ((zaX (zaY v1.2.2.2.1 v1.2.2.2.2.1 v1.1) v1.2.1 v1.2.2.1 v1.2.2.2.2.2,(1:Int)))
 else
 some ((zaX (zaY v1.2.2.2.1 v1.2.2.2.2.1 v1.1) v1.2.1 (w64 (v1.2.2.1 + (1:Int))) v1.2.2.2.2.2,(0:Int)))
def zr0:FnT:=⟨[zbq],[zbq,.int .i64],fun x=>zl4 x⟩
def zq8:TA :=
 .sub0 [.int .i64,.int .i64,.int .i64,.sl (.sl (.int .u32)),.sl (.int .u32),.sl zk1] (qf 0 0<|qf 0 1<|ql 2<|.sub0 [.sl (.sl (.int .u32))] (.loop [.int .i64,.sl (.sl (.int .u32))] [(qz 0),.c .nil] (qb .lss 4 3<|qe 6 (qg 2 4<|qc 4 7<|.mkL (.sl (.int .u32)) [.v 8]<|qa 24 5 9<|qk .add 4 1<|.jmp 0 true (qv [11,10])) (qj 1 5))) 1<|qf 0 0<|qf 1 5<|qc 4 6<|qf 3 0<|qc 24 8<|qN 4 0 0<|qN 3 0 10<|.jmp 0 false (qv [16,11,12,4,7,9])) 6<|.sub0 [.bool] (.call 91 zcJ [.v 0] 1<|qn 7<|qe 8 (qt 0 true) (qf 2 0<|qk .eql 9 1099511627776<|qj 0 10)) 1<|qe 7 (.mkS zb7 (qv [4,5,1])<|.mkS zc8 (qv [8,2,3,6])<|.jmp 0 false [.v 9,(qz 1)]) (qk .add 3 1<|.mkS zb7 (qv [4,5,1])<|.mkS zc8 (qv [9,2,8,6])<|.jmp 0 false [.v 10,(qz 0)])
theorem zq7:zaM cx 12 120=some zq8.erase:=by kernel_rfl
theorem zyN:FnOk cx 12 noC 120 zr0:=rf_ zq7 (.cons zc7 .nil)
def zoF (x21:List Mark) (x22:Int) (s:(Int×(List Mark))):Option ((Int×(List Mark))⊕(List Mark)) :=
 if decide (s.1<x22) then
 (getO x21 s.1).bind fun v26=>((zaS 48 (za9 v26)).bind fun v28=>some ((zaU v26,zbZ v26,v28)):Option (Int×Int×(List Core))).bind fun v27=>(appO 40 s.2 ([zcb v27.1 v27.2.1 v27.2.2]:List Mark)).bind fun v32=>some (Sum.inl (w64 (s.1 + (1:Int)),v32))
 else
 some (Sum.inr (s.2))
def zpr (x4:List Mark) (x5:Int) (s:(Int×(List Mark))):Option ((Int×(List Mark))⊕(List Mark)) :=
 if decide (s.1<x5) then
 (getO x4 s.1).bind fun v9=>((zaS 48 (za9 v9)).bind fun v11=>some ((zaU v9,zbZ v9,v11)):Option (Int×Int×(List Core))).bind fun v10=>(appO 40 s.2 ([zcb v10.1 v10.2.1 v10.2.2]:List Mark)).bind fun v15=>some (Sum.inl (w64 (s.1 + (1:Int)),v15))
 else
 some (Sum.inr (s.2))
def zlJ (p0:Clock) (p1 p2:Int) (p3:List Core):Option (Clock×Int) :=
 (let v5:Int:=(List.length (zao p0):Int)
 (zaQ (zpr (zao p0) v5) ((0:Int),([]:List Mark)):Option (List Mark)).bind fun v6=>some ((zbA p0,v6)):Option (Int×(List Mark))).bind fun v4=>(zg2 p0 p2).bind fun v6=>if !v6 then
 some ((zbQ v4.2 v4.1,(1:Int)))
 else
 if decide ((List.length (zao p0):Int)=(8:Int)) then
 some ((zbQ v4.2 v4.1,(6:Int)))
 else
 let v11:Mark:=zcb p1 p2 p3
 ((zaS 48 (za9 v11)).bind fun v13=>some ((zaU v11,zbZ v11,v13)):Option (Int×Int×(List Core))).bind fun v12=>(appO 40 v4.2 ([zcb v12.1 v12.2.1 v12.2.2]:List Mark)).bind fun v17=>(zeg (zbQ v17 v4.1)).bind fun v19=>if !v19 then
 (let v22:Int:=(List.length (zao p0):Int)
 (zaQ (zoF (zao p0) v22) ((0:Int),([]:List Mark)):Option (List Mark)).bind fun v23=>some ((zbA p0,v23)):Option (Int×(List Mark))).bind fun v21=>some ((zbQ v21.2 v21.1,(1:Int)))
 else
 some ((zbQ v17 v4.1,(0:Int)))
def zrR:FnT:=⟨[zbW,.int .i64,.int .i64,.sl zb2],[zbW,.int .i64],fun x=>zlJ x.1 x.2.1 x.2.2.1 x.2.2.2⟩
def zrq:TA :=
 .sub0 [.int .i64,.sl zgc] (qf 0 0<|ql 4<|.sub0 [.sl zgc] (.loop [.int .i64,.sl zgc] [(qz 0),.c .nil] (qb .lss 6 5<|qe 8 (qg 4 6<|.sub0 [.int .i64,.int .i64,.sl zb2] (qf 2 9<|qc 48 10<|qN 3 0 9<|.jmp 0 false (qv [12,13,11])) 3<|.mkS zkA (qv [10,11,12])<|.mkL zgc [.v 13]<|qa 40 7 14<|qk .add 6 1<|.jmp 0 true (qv [16,15])) (qj 1 7))) 1<|qN 2 0 0<|.jmp 0 false (qv [8,6])) 2<|.call 162 zhn (qv [0,2]) 1<|qn 6<|qe 7 (.mkS zgl (qv [5,4])<|.jmp 0 false [.v 8,(qz 1)]) (qf 0 0<|ql 8<|qk .eql 9 8<|qe 10 (.mkS zgl (qv [5,4])<|.jmp 0 false [.v 11,(qz 6)]) (.mkS zkA (qv [1,2,3])<|.sub0 [.int .i64,.int .i64,.sl zb2] (qf 2 11<|qc 48 12<|qN 3 0 11<|.jmp 0 false (qv [14,15,13])) 3<|.mkS zkA (qv [12,13,14])<|.mkL zgc [.v 15]<|qa 40 5 16<|.mkS zgl (qv [17,4])<|.call 57 zeV [.v 18] 1<|qn 19<|qe 20 (.sub0 [.int .i64,.sl zgc] (qf 0 0<|ql 21<|.sub0 [.sl zgc] (.loop [.int .i64,.sl zgc] [(qz 0),.c .nil] (qb .lss 23 22<|qe 25 (qg 21 23<|.sub0 [.int .i64,.int .i64,.sl zb2] (qf 2 26<|qc 48 27<|qN 3 0 26<|.jmp 0 false (qv [29,30,28])) 3<|.mkS zkA (qv [27,28,29])<|.mkL zgc [.v 30]<|qa 40 24 31<|qk .add 23 1<|.jmp 0 true (qv [33,32])) (qj 1 24))) 1<|qN 2 0 0<|.jmp 0 false (qv [25,23])) 2<|.mkS zgl (qv [22,21])<|.jmp 0 false [.v 23,(qz 1)]) (.mkS zgl (qv [17,4])<|.jmp 0 false [.v 21,(qz 0)])))
theorem zrf:zaM cx 12 121=some zrq.erase:=by kernel_rfl
theorem zy4:FnOk cx 12 noC 121 zrR:=rf_ zrf (.cons zjj (.cons zgt .nil))
def zfu (x5:List (List Int)) (x6:Int) (s:(Int×(List (List Int)))):Option ((Int×(List (List Int)))⊕(List (List Int))) :=
 if decide (s.1<x6) then
 (getO x5 s.1).bind fun v10=>(zaS 4 v10).bind fun v11=>(appO 24 s.2 ([v11]:List (List Int))).bind fun v13=>some (Sum.inl (w64 (s.1 + (1:Int)),v13))
 else
 some (Sum.inr (s.2))
def zi0 (p0:zcn) (p1:Int):Option (zcn×Int) :=
 ((zaS 4 (zat p0)).bind fun v3=>let v6:Int:=(List.length (zac p0):Int)
 (zaQ (zfu (zac p0) v6) ((0:Int),([]:List (List Int))):Option (List (List Int))).bind fun v7=>some ((zaq p0,v7,v3)):Option (Int×(List (List Int))×(List Int))).bind fun v2=>(zgQ p0 p1).bind fun v5=>if !v5 then
 some ((zaY v2.2.1 v2.2.2 v2.1,(1:Int)))
 else
 if decide ((0:Int)<(zaq p0)) then
 some ((zaY v2.2.1 v2.2.2 v2.1,(8:Int)))
 else
 (idxO (List.length v2.2.1:Int) p1).bind fun v9=>(idxO (List.length v2.2.1:Int) v9).bind fun v10=>(getO v2.2.1 v10).bind fun v11=>(setO v2.2.1 v10 (List.replicate (v11.length) (0:Int))).bind fun v13=>some ((zaY v13 v2.2.2 (w64 (p1 + (1:Int))),(0:Int)))
def zn2:FnT:=⟨[zgU,.int .i64],[zgU,.int .i64],fun x=>zi0 x.1 x.2⟩
def zoJ:TA :=
 .sub0 [.int .i64,.sl (.sl (.int .u32)),.sl (.int .u32)] (qf 1 0<|qc 4 2<|qf 2 0<|qf 0 0<|ql 5<|.sub0 [.sl (.sl (.int .u32))] (.loop [.int .i64,.sl (.sl (.int .u32))] [(qz 0),.c .nil] (qb .lss 7 6<|qe 9 (qg 5 7<|qc 4 10<|.mkL (.sl (.int .u32)) [.v 11]<|qa 24 8 12<|qk .add 7 1<|.jmp 0 true (qv [14,13])) (qj 1 8))) 1<|.jmp 0 false (qv [4,7,3])) 3<|.call 175 zhL (qv [0,1]) 1<|qn 5<|qe 6 (.mkS zb7 (qv [3,4,2])<|.jmp 0 false [.v 7,(qz 1)]) (qf 2 0<|qk .gtr 7 0<|qe 8 (.mkS zb7 (qv [3,4,2])<|.jmp 0 false [.v 9,(qz 8)]) (qi 3 1<|qi 3 9<|qg 3 10<|.prim (.clr (.int .u32 0)) [.v 11]<|qs 3 10 12<|qk .add 1 1<|.mkS zb7 (qv [13,4,14])<|.jmp 0 false [.v 15,(qz 0)]))
theorem zpA:zaM cx 12 126=some zoJ.erase:=by kernel_rfl
theorem zxr:FnOk cx 12 noC 126 zn2:=rf_ zpA (.cons zk8 .nil)
def zgp (p0:za4):Option (za4×Int) :=
 (let v2:List (List Int):=zac (zae p0)
 let v3:Int:=(v2.length:Int)
 (zaQ (zgJ v2 v3) ((0:Int),([]:List (List Int))):Option (List (List Int))).bind fun v4=>(zaS 4 (zat (zae p0))).bind fun v7=>(zaS 24 (zak p0)).bind fun v9=>some ((zaq (zae p0),zaj p0,zaD p0,v4,v7,v9)):Option (Int×Int×Int×(List (List Int))×(List Int)×(List Undo))).bind fun v1=>(zcN p0).bind fun v7=>if !v7 then
 some ((zaX (zaY v1.2.2.2.1 v1.2.2.2.2.1 v1.1) v1.2.1 v1.2.2.1 v1.2.2.2.2.2,(1:Int)))
 else
 (zfC (zae p0)).bind fun v10=>some ((zaX v10.1 v1.2.1 v1.2.2.1 v1.2.2.2.2.2,v10.2))
def zlt:FnT:=⟨[zbq],[zbq,.int .i64],fun x=>zgp x⟩
def zln:TA :=
 .sub0 [.int .i64,.int .i64,.int .i64,.sl (.sl (.int .u32)),.sl (.int .u32),.sl zk1] (qf 0 0<|qf 0 1<|ql 2<|.sub0 [.sl (.sl (.int .u32))] (.loop [.int .i64,.sl (.sl (.int .u32))] [(qz 0),.c .nil] (qb .lss 4 3<|qe 6 (qg 2 4<|qc 4 7<|.mkL (.sl (.int .u32)) [.v 8]<|qa 24 5 9<|qk .add 4 1<|.jmp 0 true (qv [11,10])) (qj 1 5))) 1<|qf 0 0<|qf 1 5<|qc 4 6<|qf 3 0<|qc 24 8<|qN 4 0 0<|qN 3 0 10<|.jmp 0 false (qv [16,11,12,4,7,9])) 6<|.call 91 zcJ [.v 0] 1<|qn 7<|qe 8 (.mkS zb7 (qv [4,5,1])<|.mkS zc8 (qv [9,2,3,6])<|.jmp 0 false [.v 10,(qz 1)]) (qf 0 0<|.call 176 zj3 [.v 9] 2<|.mkS zc8 (qv [10,2,3,6])<|.jmp 0 false (qv [12,11]))
theorem zkL:zaM cx 12 127=some zln.erase:=by kernel_rfl
theorem ztP:FnOk cx 12 noC 127 zlt:=rf_ zkL (.cons zc7 (.cons zsa .nil))
def zdz (p0:zbe) (p1 p2:Int):Option Bool :=
 ((zdw p0).bind fun v3=>if v3 then
 if zbo p1 (List.length (zab p0):Int) then
 some ((zbo p2 (List.length (zad p0):Int)))
 else
 some (false)
 else
 some (false):Option Bool).bind fun v3=>some (v3)
def zdR:FnT:=⟨[zbD,.int .i64,.int .i64],[.bool],fun x=>zdz x.1 x.2.1 x.2.2⟩
def zo5:TA :=
 .sub0 [.bool] (.call 33 ze1 [.v 0] 1<|qe 3 (qf 2 0<|ql 4<|.callp 74 zcr (qv [1,5]) 1<|qe 6 (qf 3 0<|ql 7<|.callp 74 zcr (qv [2,8]) 1<|qj 0 9) (qt 0 false)) (qt 0 false)) 1<|qj 0 3
theorem znU:zaM cx 12 144=some zo5.erase:=by kernel_rfl
theorem zeX:FnOk cx 12 noC 144 zdR:=rf_ znU (.cons zgK (.cons zcP (.cons zcP .nil)))
def zes (p0:Clock) (p1:Int):Option (Clock×Mark×Int) :=
 (let v3:Int:=(List.length (zao p0):Int)
 (zaQ (zcK (zao p0) v3) ((0:Int),([]:List Mark)):Option (List Mark)).bind fun v4=>some ((zbA p0,v4)):Option (Int×(List Mark))).bind fun v2=>(zg2 p0 p1).bind fun v4=>if !v4 then
 some ((zbQ v2.2 v2.1,(zcb (0:Int) (0:Int) ([]:List Core)),(1:Int)))
 else
 (zgT p0 p1).bind fun v6=>(idxO (List.length v2.2:Int) v6).bind fun v7=>(getO v2.2 v7).bind fun v8=>((zaS 48 (za9 v8)).bind fun v11=>some ((zaU v8,zbZ v8,v11)):Option (Int×Int×(List Core))).bind fun v10=>some ((zbQ ([v8]:List Mark) v2.1,zcb v10.1 v10.2.1 v10.2.2,(0:Int)))
def zhW:FnT:=⟨[zbW,.int .i64],[zbW,zgc,.int .i64],fun x=>zes x.1 x.2⟩
def zrZ:TA :=
 .sub0 [.int .i64,.sl zgc] (qf 0 0<|ql 2<|.sub0 [.sl zgc] (.loop [.int .i64,.sl zgc] [(qz 0),.c .nil] (qb .lss 4 3<|qe 6 (qg 2 4<|.sub0 [.int .i64,.int .i64,.sl zb2] (qf 2 7<|qc 48 8<|qN 3 0 7<|.jmp 0 false (qv [10,11,9])) 3<|.mkS zkA (qv [8,9,10])<|.mkL zgc [.v 11]<|qa 40 5 12<|qk .add 4 1<|.jmp 0 true (qv [14,13])) (qj 1 5))) 1<|qN 2 0 0<|.jmp 0 false (qv [6,4])) 2<|.call 162 zhn (qv [0,1]) 1<|qn 4<|qe 5 (.mkS zgl (qv [3,2])<|.jmp 0 false [.v 6,.c (.agg [(.int .i64 0),(.int .i64 0),.nil]),(qz 1)]) (.call 163 zhU (qv [0,1]) 1<|qi 3 6<|qg 3 7<|.mkL zgc [.v 8]<|.sub0 [.int .i64,.int .i64,.sl zb2] (qf 2 8<|qc 48 10<|qN 3 0 8<|.jmp 0 false (qv [12,13,11])) 3<|.mkS zgl (qv [9,2])<|.mkS zkA (qv [10,11,12])<|.jmp 0 false [.v 13,.v 14,(qz 0)])
theorem zr2:zaM cx 12 155=some zrZ.erase:=by kernel_rfl
theorem zkK:FnOk cx 12 noC 155 zhW:=rf_ zr2 (.cons zjj (.cons zlo .nil))
def zdD (p0:Gate) (p1:Int):Option (Gate×Int) :=
 ((zaS 24 (zas p0)).bind fun v3=>(zaS 16 (zbU p0)).bind fun v5=>some ((v3,v5)):Option ((List Held)×(List Told))).bind fun v2=>((zdA p0).bind fun v4=>if !v4 then
 some (true)
 else
 some ((!(zdv p1))):Option Bool).bind fun v4=>if v4 then
 some ((zdg v2.1 v2.2,(1:Int)))
 else
 (zfQ p0 p1).bind fun v5=>(rngO (List.length v2.1:Int) (0:Int) v5).bind fun v7=>(subO v2.1 (0:Int) v7).bind fun v8=>some ((zdg v8 v2.2,(0:Int)))
def zgH:FnT:=⟨[zdo,.int .i64],[zdo,.int .i64],fun x=>zdD x.1 x.2⟩
def zpp:TA :=
 .sub0 [.sl zuP,.sl ziI] (qf 0 0<|qc 24 2<|qf 1 0<|qc 16 4<|.jmp 0 false (qv [3,5])) 2<|.sub0 [.bool] (.call 92 zd3 [.v 0] 1<|qn 4<|qe 5 (qt 0 true) (.callp 137 zeQ [.v 1] 1<|qn 6<|qj 0 7)) 1<|qe 4 (.mkS zqY (qv [2,3])<|.jmp 0 false [.v 5,(qz 1)]) (.call 164 zik (qv [0,1]) 1<|ql 2<|.prim .rng [.v 2,(qz 0),.v 5]<|.prim .sub [.v 2,(qz 0),.v 7]<|.mkS zqY (qv [8,3])<|.jmp 0 false [.v 9,(qz 0)])
theorem zoj:zaM cx 12 157=some zpp.erase:=by kernel_rfl
theorem zjf:FnOk cx 12 noC 157 zgH:=rf_ zoj (.cons zfG (.cons zgr (.cons zm3 .nil)))
def zih (x0:za4) (x3:Int) (s:(Int×(List Int))):Option ((Int×(List Int))⊕(List Int)) :=
 if decide (s.1<x3) then
 (zda x0 s.1).bind fun v7=>(getO (zac (zae x0)) v7.1).bind fun v11=>(getO v11 v7.2).bind fun v12=>(appO 4 s.2 ([v12]:List Int)).bind fun v14=>some (Sum.inl (w64 (s.1 + (1:Int)),v14))
 else
 some (Sum.inr (s.2))
def zc9 (p0:za4):Option (List Int) :=
 (zcN p0).bind fun v1=>if !v1 then
 some (([]:List Int))
 else
 (zaQ (zih p0 (zaj p0)) ((0:Int),([]:List Int)):Option (List Int)).bind fun v4=>some (v4)
def zgI:FnT:=⟨[zbq],[.sl (.int .u32)],fun x=>zc9 x⟩
def zo0:TA :=
 .call 91 zcJ [.v 0] 1<|qn 1<|qe 2 (.jmp 0 false [.c .nil]) (qf 1 0<|.sub0 [.sl (.int .u32)] (.loop [.int .i64,.sl (.int .u32)] [(qz 0),.c .nil] (qb .lss 4 3<|qe 6 (.call 204 ze0 (qv [0,4]) 2<|qf 0 0<|qf 0 9<|qg 10 7<|qg 11 8<|.mkL (.int .u32) [.v 12]<|qa 4 5 13<|qk .add 4 1<|.jmp 0 true (qv [15,14])) (qj 1 5))) 1<|qj 0 4)
theorem zpn:zaM cx 12 158=some zo0.erase:=by kernel_rfl
theorem zjt:FnOk cx 12 noC 158 zgI:=rf_ zpn (.cons zc7 (.cons zgG .nil))
def zgb (p0:za4) (p1:Int):Option Bool :=
 ((zcN p0).bind fun v2=>if v2 then
 if decide ((0:Int)≤p1) then
 some ((decide (p1≤(zaD p0))))
 else
 some (false)
 else
 some (false):Option Bool).bind fun v2=>some (v2)
def zil:FnT:=⟨[zbq,.int .i64],[.bool],fun x=>zgb x.1 x.2⟩
def zmZ:TA :=
 .sub0 [.bool] (.call 91 zcJ [.v 0] 1<|qe 2 (qk .geq 1 0<|qe 3 (qf 2 0<|qb .leq 1 4<|qj 0 5) (qt 0 false)) (qt 0 false)) 1<|qj 0 2
theorem zmA:zaM cx 12 169=some zmZ.erase:=by kernel_rfl
theorem zmE:FnOk cx 12 noC 169 zil:=rf_ zmA (.cons zc7 .nil)
def zlZ (p0:List Int):Option (Msg×Int) :=
 if decide ((p0.length:Int)<(19:Int)) then
 some (((zaT (0:Int) (0:Int) (0:Int) (0:Int) (0:Int) (0:Int) false (0:Int) (0:Int)),(3:Int)))
 else
 if decide ((19:Int)<(p0.length:Int)) then
 some (((zaT (0:Int) (0:Int) (0:Int) (0:Int) (0:Int) (0:Int) false (0:Int) (0:Int)),(4:Int)))
 else
 (subO p0 (15:Int) (p0.length:Int)).bind fun v6=>(zjy v6).bind fun v7=>(subO p0 (0:Int) (15:Int)).bind fun v9=>(zhp v9).bind fun v10=>if !decide (v7=v10) then
 some (((zaT (0:Int) (0:Int) (0:Int) (0:Int) (0:Int) (0:Int) false (0:Int) (0:Int)),(5:Int)))
 else
 (getO p0 (0:Int)).bind fun v12=>(getO p0 (1:Int)).bind fun v14=>(getO p0 (2:Int)).bind fun v16=>(getO p0 (3:Int)).bind fun v18=>(getO p0 (4:Int)).bind fun v20=>(getO p0 (5:Int)).bind fun v22=>(getO p0 (6:Int)).bind fun v24=>(subO p0 (7:Int) (p0.length:Int)).bind fun v27=>(zjy v27).bind fun v28=>(subO p0 (11:Int) (p0.length:Int)).bind fun v30=>(zjy v30).bind fun v31=>let v32:Msg:=zaT (w64 v12) (w64 v14) (w64 v16) (w64 v18) (w64 v20) (w64 v22) (decide (v24=(1:Int))) v28 v31
 ((ziP v32).bind fun v33=>if !v33 then
 some (true)
 else
 (ziT v32).bind fun v35=>(bytes_Equal v35 p0).bind fun v36=>some ((!v36)):Option Bool).bind fun v33=>if v33 then
 some (((zaT (0:Int) (0:Int) (0:Int) (0:Int) (0:Int) (0:Int) false (0:Int) (0:Int)),(2:Int)))
 else
 some ((v32,(0:Int)))
def zrC:FnT:=⟨[.sl (.int .u8)],[tMsg,.int .i64],fun x=>zlZ x⟩
def zru:TA :=
 ql 0<|qk .lss 1 19<|qe 2 (.jmp 0 false [.c (.agg [(.int .i64 0),(.int .i64 0),(.int .i64 0),(.int .i64 0),(.int .i64 0),(.int .i64 0),(.bool false),(.int .u32 0),(.int .u32 0)]),(qz 3)]) (ql 0<|qk .gtr 3 19<|qe 4 (.jmp 0 false [.c (.agg [(.int .i64 0),(.int .i64 0),(.int .i64 0),(.int .i64 0),(.int .i64 0),(.int .i64 0),(.bool false),(.int .u32 0),(.int .u32 0)]),(qz 4)]) (ql 0<|.prim .sub [.v 0,(qz 15),.v 5]<|.call 216 zpE [.v 6] 1<|ql 0<|.prim .sub [.v 0,(qz 0),(qz 15)]<|.call 217 zny [.v 9] 1<|qb .neq 7 10<|qe 11 (.jmp 0 false [.c (.agg [(.int .i64 0),(.int .i64 0),(.int .i64 0),(.int .i64 0),(.int .i64 0),(.int .i64 0),(.bool false),(.int .u32 0),(.int .u32 0)]),(qz 5)]) (.prim .get [.v 0,(qz 0)]<|.prim (.conv .i64) [.v 12]<|.prim .get [.v 0,(qz 1)]<|.prim (.conv .i64) [.v 14]<|.prim .get [.v 0,(qz 2)]<|.prim (.conv .i64) [.v 16]<|.prim .get [.v 0,(qz 3)]<|.prim (.conv .i64) [.v 18]<|.prim .get [.v 0,(qz 4)]<|.prim (.conv .i64) [.v 20]<|.prim .get [.v 0,(qz 5)]<|.prim (.conv .i64) [.v 22]<|.prim .get [.v 0,(qz 6)]<|.prim (.bin .eql) [.v 24,.c (.int .u8 1)]<|ql 0<|.prim .sub [.v 0,(qz 7),.v 26]<|.call 216 zpE [.v 27] 1<|ql 0<|.prim .sub [.v 0,(qz 11),.v 29]<|.call 216 zpE [.v 30] 1<|.mkS zmc (qv [13,15,17,19,21,23,25,28,31])<|.sub0 [.bool] (.call 218 znI [.v 32] 1<|qn 33<|qe 34 (qt 0 true) (.call 220 znC [.v 32] 1<|.call 219 zoY (qv [35,0]) 1<|qn 36<|qj 0 37)) 1<|qe 33 (.jmp 0 false [.c (.agg [(.int .i64 0),(.int .i64 0),(.int .i64 0),(.int .i64 0),(.int .i64 0),(.int .i64 0),(.bool false),(.int .u32 0),(.int .u32 0)]),(qz 2)]) (.jmp 0 false [.v 32,(qz 0)]))))
theorem zr6:zaM cx 12 195=some zru.erase:=by kernel_rfl
theorem zzB:FnOk cx 12 noC 195 zrC:=rf_ zr6 (.cons ztR (.cons zuo (.cons ztR (.cons ztR (.cons zt1 (.cons zvh (.cons zxa .nil)))))))
def zgW (p0:za4) (p1:Int):Option Bool :=
 ((zcN p0).bind fun v2=>if v2 then
 if decide ((0:Int)≤p1) then
 some ((decide (p1<(zaj p0))))
 else
 some (false)
 else
 some (false):Option Bool).bind fun v2=>some (v2)
def zjw:FnT:=⟨[zbq,.int .i64],[.bool],fun x=>zgW x.1 x.2⟩
def zpa:TA :=
 .sub0 [.bool] (.call 91 zcJ [.v 0] 1<|qe 2 (qk .geq 1 0<|qe 3 (qf 1 0<|qb .lss 1 4<|qj 0 5) (qt 0 false)) (qt 0 false)) 1<|qj 0 2
theorem zps:zaM cx 12 205=some zpa.erase:=by kernel_rfl
theorem zpd:FnOk cx 12 noC 205 zjw:=rf_ zps (.cons zc7 .nil)
def zhu (p0:zcn) (p1 p2:Int):Option (Int×Int) :=
 ((zgQ p0 p1).bind fun v3=>if !v3 then
 some (true)
 else
 if decide (p2<(0:Int)) then
 some (true)
 else
 some ((decide ((List.length (zat p0):Int)≤p2))):Option Bool).bind fun v3=>if v3 then
 some (((0:Int),(1:Int)))
 else
 if decide ((zaq p0)=(w64 (p1 + (1:Int)))) then
 some (((0:Int),(8:Int)))
 else
 (getO (zac p0) p1).bind fun v8=>(getO v8 p2).bind fun v9=>some ((v9,(0:Int)))
def zph:FnT:=⟨[zgU,.int .i64,.int .i64],[.int .u32,.int .i64],fun x=>zhu x.1 x.2.1 x.2.2⟩
def zoT:TA :=
 .sub0 [.bool] (.call 175 zhL (qv [0,1]) 1<|qn 3<|qe 4 (qt 0 true) (qk .lss 2 0<|qe 5 (qt 0 true) (qf 1 0<|ql 6<|qb .geq 2 7<|qj 0 8))) 1<|qe 3 (.jmp 0 false [.c (.int .u32 0),(qz 1)]) (qf 2 0<|qk .add 1 1<|qb .eql 4 5<|qe 6 (.jmp 0 false [.c (.int .u32 0),(qz 8)]) (qf 0 0<|qg 7 1<|qg 8 2<|.jmp 0 false [.v 9,(qz 0)]))
theorem zpm:zaM cx 12 206=some zoT.erase:=by kernel_rfl
theorem zx2:FnOk cx 12 noC 206 zph:=rf_ zpm (.cons zk8 .nil)
def za8 (x7:List (List Int)) (x8:Int) (s:(Int×(List (List Int)))):Option ((Int×(List (List Int)))⊕(List (List Int))) :=
 if decide (s.1<x8) then
 (getO x7 s.1).bind fun v12=>(zaS 4 v12).bind fun v13=>(appO 24 s.2 ([v13]:List (List Int))).bind fun v15=>some (Sum.inl (w64 (s.1 + (1:Int)),v15))
 else
 some (Sum.inr (s.2))
def zdu (p0:zcn) (p1 p2 p3:Int):Option (zcn×Int) :=
 ((zaS 4 (zat p0)).bind fun v5=>let v8:Int:=(List.length (zac p0):Int)
 (zaQ (za8 (zac p0) v8) ((0:Int),([]:List (List Int))):Option (List (List Int))).bind fun v9=>some ((zaq p0,v9,v5)):Option (Int×(List (List Int))×(List Int))).bind fun v4=>((zgQ p0 p1).bind fun v7=>if !v7 then
 some (true)
 else
 if decide (p2<(0:Int)) then
 some (true)
 else
 some ((decide ((List.length (zat p0):Int)≤p2))):Option Bool).bind fun v7=>if v7 then
 some ((zaY v4.2.1 v4.2.2 v4.1,(1:Int)))
 else
 if decide ((0:Int)<(zaq p0)) then
 some ((zaY v4.2.1 v4.2.2 v4.1,(8:Int)))
 else
 (idxO (List.length v4.2.2:Int) p2).bind fun v10=>(getO v4.2.2 v10).bind fun v11=>(idxO (List.length v4.2.1:Int) p1).bind fun v12=>(idxO (List.length v4.2.1:Int) v12).bind fun v13=>(getO v4.2.1 v13).bind fun v14=>(idxO (v14.length:Int) p2).bind fun v15=>(getO v4.2.1 v13).bind fun v16=>(getO v16 v15).bind fun v17=>(idxO (List.length v4.2.2:Int) p2).bind fun v20=>(setO v4.2.2 v20 (bXor .u32 v11 (bXor .u32 v17 p3))).bind fun v21=>(idxO (List.length v4.2.1:Int) p1).bind fun v22=>(idxO (List.length v4.2.1:Int) v22).bind fun v23=>(getO v4.2.1 v23).bind fun v24=>(idxO (v24.length:Int) p2).bind fun v25=>(getO v4.2.1 v23).bind fun v26=>(setO v26 v25 p3).bind fun v27=>(setO v4.2.1 v23 v27).bind fun v28=>some ((zaY v28 v21 v4.1,(0:Int)))
def zh6:FnT:=⟨[zgU,.int .i64,.int .i64,.int .u32],[zgU,.int .i64],fun x=>zdu x.1 x.2.1 x.2.2.1 x.2.2.2⟩
def zm4:TA :=
 .sub0 [.int .i64,.sl (.sl (.int .u32)),.sl (.int .u32)] (qf 1 0<|qc 4 4<|qf 2 0<|qf 0 0<|ql 7<|.sub0 [.sl (.sl (.int .u32))] (.loop [.int .i64,.sl (.sl (.int .u32))] [(qz 0),.c .nil] (qb .lss 9 8<|qe 11 (qg 7 9<|qc 4 12<|.mkL (.sl (.int .u32)) [.v 13]<|qa 24 10 14<|qk .add 9 1<|.jmp 0 true (qv [16,15])) (qj 1 10))) 1<|.jmp 0 false (qv [6,9,5])) 3<|.sub0 [.bool] (.call 175 zhL (qv [0,1]) 1<|qn 7<|qe 8 (qt 0 true) (qk .lss 2 0<|qe 9 (qt 0 true) (qf 1 0<|ql 10<|qb .geq 2 11<|qj 0 12))) 1<|qe 7 (.mkS zb7 (qv [5,6,4])<|.jmp 0 false [.v 8,(qz 1)]) (qf 2 0<|qk .gtr 8 0<|qe 9 (.mkS zb7 (qv [5,6,4])<|.jmp 0 false [.v 10,(qz 8)]) (qi 6 2<|qg 6 10<|qi 5 1<|qi 5 12<|qg 5 13<|qi 14 2<|qg 5 13<|qg 16 15<|qb .xor 17 3<|qb .xor 11 18<|qi 6 2<|qs 6 20 19<|qi 5 1<|qi 5 22<|qg 5 23<|qi 24 2<|qg 5 23<|qs 26 25 3<|qs 5 23 27<|.mkS zb7 (qv [28,21,4])<|.jmp 0 false [.v 29,(qz 0)]))
theorem zmt:zaM cx 12 228=some zm4.erase:=by kernel_rfl
theorem zm5:FnOk cx 12 noC 228 zh6:=rf_ zmt (.cons zk8 .nil)
def zis (p0:Msg):Option ((List Int)×Int) :=
 (ziP p0).bind fun v1=>if !v1 then
 some ((([]:List Int),(1:Int)))
 else
 (ziT p0).bind fun v3=>some ((v3,(0:Int)))
def ztM:FnT:=⟨[tMsg],[.sl (.int .u8),.int .i64],fun x=>zis x⟩
def ztm:TA :=
 .call 218 znI [.v 0] 1<|qn 1<|qe 2 (.jmp 0 false [.c .nil,(qz 1)]) (.call 220 znC [.v 0] 1<|.jmp 0 false [.v 3,(qz 0)])
theorem ztr:zaM cx 12 233=some ztm.erase:=by kernel_rfl
theorem zAY:FnOk cx 12 noC 233 ztM:=rf_ ztr (.cons zt1 (.cons zvh .nil))
def zkh (p0:List Ins):Option Bool :=
 (zkP p0).bind fun v1=>some ((!v1))
def zsJ:FnT:=⟨[.sl tIns],[.bool],fun x=>zkh x⟩
def zs3:TA :=
 .call 60 znd [.v 0] 1<|qn 1<|qj 0 2
theorem ztT:zaM cx 12 59=some zs3.erase:=by kernel_rfl
theorem zBa:FnOk cx 12 noC 59 zsJ:=rf_ ztT (.cons zts .nil)
def zdT (x3:List (List Int)) (x4:Int) (s:(Int×(List (List Int)))):Option ((Int×(List (List Int)))⊕(List (List Int))) :=
 if decide (s.1<x4) then
 (getO x3 s.1).bind fun v8=>(zaS 4 v8).bind fun v9=>(appO 24 s.2 ([v9]:List (List Int))).bind fun v11=>some (Sum.inl (w64 (s.1 + (1:Int)),v11))
 else
 some (Sum.inr (s.2))
def zlX (p0:za4) (p1:Int):Option (za4×Int) :=
 (let v3:List (List Int):=zac (zae p0)
 let v4:Int:=(v3.length:Int)
 (zaQ (zdT v3 v4) ((0:Int),([]:List (List Int))):Option (List (List Int))).bind fun v5=>(zaS 4 (zat (zae p0))).bind fun v8=>(zaS 24 (zak p0)).bind fun v10=>some ((zaq (zae p0),zaj p0,zaD p0,v5,v8,v10)):Option (Int×Int×Int×(List (List Int))×(List Int)×(List Undo))).bind fun v2=>(zcN p0).bind fun v8=>if !v8 then
 some ((zaX (zaY v2.2.2.2.1 v2.2.2.2.2.1 v2.1) v2.2.1 v2.2.2.1 v2.2.2.2.2.2,(1:Int)))
 else
 (zi0 (zae p0) p1).bind fun v11=>some ((zaX v11.1 v2.2.1 v2.2.2.1 v2.2.2.2.2.2,v11.2))
def zq2:FnT:=⟨[zbq,.int .i64],[zbq,.int .i64],fun x=>zlX x.1 x.2⟩
def zrH:TA :=
 .sub0 [.int .i64,.int .i64,.int .i64,.sl (.sl (.int .u32)),.sl (.int .u32),.sl zk1] (qf 0 0<|qf 0 2<|ql 3<|.sub0 [.sl (.sl (.int .u32))] (.loop [.int .i64,.sl (.sl (.int .u32))] [(qz 0),.c .nil] (qb .lss 5 4<|qe 7 (qg 3 5<|qc 4 8<|.mkL (.sl (.int .u32)) [.v 9]<|qa 24 6 10<|qk .add 5 1<|.jmp 0 true (qv [12,11])) (qj 1 6))) 1<|qf 0 0<|qf 1 6<|qc 4 7<|qf 3 0<|qc 24 9<|qN 4 0 0<|qN 3 0 11<|.jmp 0 false (qv [17,12,13,5,8,10])) 6<|.call 91 zcJ [.v 0] 1<|qn 8<|qe 9 (.mkS zb7 (qv [5,6,2])<|.mkS zc8 (qv [10,3,4,7])<|.jmp 0 false [.v 11,(qz 1)]) (qf 0 0<|.call 126 zn2 (qv [10,1]) 2<|.mkS zc8 (qv [11,3,4,7])<|.jmp 0 false (qv [13,12]))
theorem zqU:zaM cx 12 69=some zrH.erase:=by kernel_rfl
theorem zyV:FnOk cx 12 noC 69 zq2:=rf_ zqU (.cons zc7 (.cons zxr .nil))
def zeu (p0:List Ins) (p1:Core):Option Bool :=
 ((zkP p0).bind fun v2=>if v2 then
 if decide ((0:Int)≤(zcR p1)) then
 some ((decide ((zcR p1)<(p0.length:Int))))
 else
 some (false)
 else
 some (false):Option Bool).bind fun v2=>some (v2)
def zhQ:FnT:=⟨[.sl tIns,zb2],[.bool],fun x=>zeu x.1 x.2⟩
def zrE:TA :=
 .sub0 [.bool] (.call 60 znd [.v 0] 1<|qe 2 (qf 1 1<|qk .geq 3 0<|qe 4 (qf 1 1<|ql 0<|qb .lss 5 6<|qj 0 7) (qt 0 false)) (qt 0 false)) 1<|qj 0 2
theorem zqG:zaM cx 12 87=some zrE.erase:=by kernel_rfl
theorem zkm:FnOk cx 12 noC 87 zhQ:=rf_ zqG (.cons zts .nil)
def zo4 (p0:zbe) (p1 p2:Int) (p3:Bool):Option Bool :=
 ((zdz p0 p1 p2).bind fun v4=>if v4 then
 (zhy p0 p1 p2 p3).bind fun v5=>some (v5)
 else
 some (false):Option Bool).bind fun v4=>some (v4)
def ztu:FnT:=⟨[zbD,.int .i64,.int .i64,.bool],[.bool],fun x=>zo4 x.1 x.2.1 x.2.2.1 x.2.2.2⟩
def ztN:TA :=
 .sub0 [.bool] (.call 144 zdR (qv [0,1,2]) 1<|qe 4 (.call 145 zha (qv [0,1,2,3]) 1<|qj 0 5) (qt 0 false)) 1<|qj 0 4
theorem zsX:zaM cx 12 105=some ztN.erase:=by kernel_rfl
theorem zBk:FnOk cx 12 noC 105 ztu:=rf_ zsX (.cons zeX (.cons ziV .nil))
def zgx (x1:Int) (s:(Int×Int×(List Undo))):Option ((Int×Int×(List Undo))⊕(Int×(List Undo))) :=
 if decide (s.2.1<(List.length s.2.2:Int)) then
 (idxO (List.length s.2.2:Int) s.2.1).bind fun v18=>(getO s.2.2 v18).bind fun v19=>(if !(decide ((zaJ v19)<x1)) then
 (idxO (List.length s.2.2:Int) s.1).bind fun v22=>(setO s.2.2 v22 v19).bind fun v23=>some ((w64 (s.1 + (1:Int)),v23))
 else
 some ((s.1,s.2.2)):Option (Int×(List Undo))).bind fun v22=>some (Sum.inl (v22.1,w64 (s.2.1 + (1:Int)),v22.2))
 else
 some (Sum.inr ((s.1,s.2.2)))
def zgM (x1:Int) (x7:List Undo) (x10 s:Int):Option (Int⊕Unit⊕Int) :=
 if decide (s<x10) then
 (idxO (x7.length:Int) s).bind fun v13=>(getO x7 v13).bind fun v14=>if decide ((zaJ v14)<x1) then
 some (Sum.inr (Sum.inr (s)))
 else
 some (Sum.inl (w64 (s + (1:Int))))
 else
 some (Sum.inr (Sum.inl ()))
def zlC (p0:za4) (p1:Int):Option (za4×Int) :=
 (let v3:List (List Int):=zac (zae p0)
 let v4:Int:=(v3.length:Int)
 (zaQ (zdT v3 v4) ((0:Int),([]:List (List Int))):Option (List (List Int))).bind fun v5=>(zaS 4 (zat (zae p0))).bind fun v8=>(zaS 24 (zak p0)).bind fun v10=>some ((zaq (zae p0),zaj p0,zaD p0,v5,v8,v10)):Option (Int×Int×Int×(List (List Int))×(List Int)×(List Undo))).bind fun v2=>(zgb p0 p1).bind fun v8=>if !v8 then
 some ((zaX (zaY v2.2.2.2.1 v2.2.2.2.2.1 v2.1) v2.2.1 v2.2.2.1 v2.2.2.2.2.2,(1:Int)))
 else
 ((let v10:Int:=(List.length v2.2.2.2.2.2:Int)
 zbm (zaQ (zgM p1 v2.2.2.2.2.2 v10) (0:Int):Option (Unit⊕Int)) fun v11=>some ((-1:Int)):Option Int).bind fun v10=>if decide (v10=(-1:Int)) then
 some (((List.length v2.2.2.2.2.2:Int),v2.2.2.2.2.2))
 else
 (zaQ (zgx p1) (v10,w64 (v10 + (1:Int)),v2.2.2.2.2.2):Option (Int×(List Undo))).bind fun v13=>(rngO (List.length v13.2:Int) v13.1 (List.length v13.2:Int)).bind fun v16=>(subO v13.2 v13.1 v16).bind fun v17=>(zx9 v13.2 v13.1 v16 (List.replicate (v17.length) (zdS (0:Int) (0:Int) (0:Int)))).bind fun v19=>(rngO (v19.length:Int) (0:Int) v13.1).bind fun v21=>some ((v21,v19)):Option (Int×(List Undo))).bind fun v10=>(subO v10.2 (0:Int) v10.1).bind fun v13=>some ((zaX (zaY v2.2.2.2.1 v2.2.2.2.2.1 v2.1) v2.2.1 v2.2.2.1 v13,(0:Int)))
def zqq:FnT:=⟨[zbq,.int .i64],[zbq,.int .i64],fun x=>zlC x.1 x.2⟩
def zrU:TA :=
 .sub0 [.int .i64,.int .i64,.int .i64,.sl (.sl (.int .u32)),.sl (.int .u32),.sl zk1] (qf 0 0<|qf 0 2<|ql 3<|.sub0 [.sl (.sl (.int .u32))] (.loop [.int .i64,.sl (.sl (.int .u32))] [(qz 0),.c .nil] (qb .lss 5 4<|qe 7 (qg 3 5<|qc 4 8<|.mkL (.sl (.int .u32)) [.v 9]<|qa 24 6 10<|qk .add 5 1<|.jmp 0 true (qv [12,11])) (qj 1 6))) 1<|qf 0 0<|qf 1 6<|qc 4 7<|qf 3 0<|qc 24 9<|qN 4 0 0<|qN 3 0 11<|.jmp 0 false (qv [17,12,13,5,8,10])) 6<|.call 169 zil (qv [0,1]) 1<|qn 8<|qe 9 (.mkS zb7 (qv [5,6,2])<|.mkS zc8 (qv [10,3,4,7])<|.jmp 0 false [.v 11,(qz 1)]) (.sub0 [.int .i64,.sl zk1] (.sub0 [.int .i64] (ql 7<|.sub1 [] (.loop [.int .i64] [(qz 0)] (qb .lss 11 10<|qe 12 (qi 7 11<|qg 7 13<|.subp [.bool] (qf 0 14<|qb .lss 15 1<|qj 0 16) 1<|qe 15 (qj 2 11) (qk .add 11 1<|qr 0 16)) (qx 1))) 0<|.jmp 0 false [.c (.int .i64 (-1))]) 1<|.prim (.bin .eql) [.v 10,.c (.int .i64 (-1))]<|qe 11 (ql 7<|.jmp 0 false (qv [12,7])) (qk .add 10 1<|.sub0 [.int .i64,.sl zk1] (.loop [.int .i64,.int .i64,.sl zk1] (qv [10,12,7]) (ql 15<|qb .lss 14 16<|qe 17 (qi 15 14<|qg 15 18<|.subp [.bool] (qf 0 19<|qb .lss 20 1<|qj 0 21) 1<|qn 20<|.sub0 [.int .i64,.sl zk1] (qe 21 (qi 15 13<|qs 15 22 19<|qk .add 13 1<|.jmp 0 false (qv [24,23])) (.jmp 0 false (qv [13,15]))) 2<|qk .add 14 1<|.jmp 0 true (qv [22,24,23])) (.jmp 1 false (qv [13,15])))) 2<|ql 14<|.prim .rng (qv [14,13,15])<|.prim .sub (qv [14,13,16])<|.prim (.clr (.agg [(.int .i64 0),(.int .i64 0),(.int .u32 0)])) [.v 17]<|.prim .cpyv (qv [14,13,16,18])<|ql 19<|.prim .rng [.v 19,(qz 0),.v 13]<|.jmp 0 false (qv [21,19]))) 2<|.mkS zb7 (qv [5,6,2])<|.prim .sub [.v 11,(qz 0),.v 10]<|.mkS zc8 (qv [12,3,4,13])<|.jmp 0 false [.v 14,(qz 0)])
theorem zqw:zaM cx 12 119=some zrU.erase:=by kernel_rfl
theorem zz7:FnOk cx 12 noC 119 zqq:=rf_ zqw (.cons zmE .nil)
def zn8 (p0:zbe) (p1 p2:Int):Option (Int×Int) :=
 (zdz p0 p1 p2).bind fun v3=>if !v3 then
 some (((0:Int),(1:Int)))
 else
 (zhy p0 p1 p2 false).bind fun v5=>if !v5 then
 some (((0:Int),(8:Int)))
 else
 (getO (zam p0) p1).bind fun v8=>(getO v8 p2).bind fun v9=>some ((v9,(0:Int)))
def zt2:FnT:=⟨[zbD,.int .i64,.int .i64],[.int .u32,.int .i64],fun x=>zn8 x.1 x.2.1 x.2.2⟩
def zs9:TA :=
 .call 144 zdR (qv [0,1,2]) 1<|qn 3<|qe 4 (.jmp 0 false [.c (.int .u32 0),(qz 1)]) (.call 145 zha [.v 0,.v 1,.v 2,.c (.bool false)] 1<|qn 5<|qe 6 (.jmp 0 false [.c (.int .u32 0),(qz 8)]) (qf 1 0<|qg 7 1<|qg 8 2<|.jmp 0 false [.v 9,(qz 0)]))
theorem zuY:zaM cx 12 146=some zs9.erase:=by kernel_rfl
theorem zAP:FnOk cx 12 noC 146 zt2:=rf_ zuY (.cons zeX (.cons ziV .nil))
def zfO (x23:List (List Int)) (x24:Int) (s:(Int×(List (List Int)))):Option ((Int×(List (List Int)))⊕(List (List Int))) :=
 if decide (s.1<x24) then
 (getO x23 s.1).bind fun v28=>(zaS 1 v28).bind fun v29=>(appO 24 s.2 ([v29]:List (List Int))).bind fun v31=>some (Sum.inl (w64 (s.1 + (1:Int)),v31))
 else
 some (Sum.inr (s.2))
def zf5 (x18:List Entry) (x21:Int) (s:(Int×(List Entry))):Option ((Int×(List Entry))⊕(List Entry)) :=
 if decide (s.1<x21) then
 (getO x18 s.1).bind fun v25=>(zaS 1 (zan v25)).bind fun v28=>(appO 32 s.2 ([za6 (zav v25) v28]:List Entry)).bind fun v31=>some (Sum.inl (w64 (s.1 + (1:Int)),v31))
 else
 some (Sum.inr (s.2))
def zf9 (x6:List (List Int)) (x7:Int) (s:(Int×(List (List Int)))):Option ((Int×(List (List Int)))⊕(List (List Int))) :=
 if decide (s.1<x7) then
 (getO x6 s.1).bind fun v11=>(zaS 4 v11).bind fun v12=>(appO 24 s.2 ([v12]:List (List Int))).bind fun v14=>some (Sum.inl (w64 (s.1 + (1:Int)),v14))
 else
 some (Sum.inr (s.2))
def zf8 (x4:List (List Int)) (x5:Int) (s:(Int×(List (List Int)))):Option ((Int×(List (List Int)))⊕(List (List Int))) :=
 if decide (s.1<x5) then
 (getO x4 s.1).bind fun v9=>(zaS 8 v9).bind fun v10=>(appO 24 s.2 ([v10]:List (List Int))).bind fun v12=>some (Sum.inl (w64 (s.1 + (1:Int)),v12))
 else
 some (Sum.inr (s.2))
def zo3 (p0:zbe) (p1 p2 p3:Int):Option (zbe×Int) :=
 ((let v5:Int:=(List.length (zai p0):Int)
 (zaQ (zf8 (zai p0) v5) ((0:Int),([]:List (List Int))):Option (List (List Int))).bind fun v6=>some (v6):Option (List (List Int))).bind fun v5=>(let v7:Int:=(List.length (zam p0):Int)
 (zaQ (zf9 (zam p0) v7) ((0:Int),([]:List (List Int))):Option (List (List Int))).bind fun v8=>some (v8):Option (List (List Int))).bind fun v7=>(zaS 40 (zab p0)).bind fun v9=>(zaS 4 (zad p0)).bind fun v11=>(zaS 8 (zal p0)).bind fun v13=>let v21:Int:=(List.length (zay p0):Int)
 (zaQ (zf5 (zay p0) v21) ((0:Int),([]:List Entry)):Option (List Entry)).bind fun v22=>let v23:List (List Int):=zaf (zax p0)
 (let v24:Int:=(v23.length:Int)
 (zaQ (zfO v23 v24) ((0:Int),([]:List (List Int))):Option (List (List Int))).bind fun v25=>some (v25):Option (List (List Int))).bind fun v24=>some ((v5,v7,v9,v11,v22,v13,v24)):Option ((List (List Int))×(List (List Int))×(List Wait)×(List Int)×(List Entry)×(List Int)×(List (List Int)))).bind fun v4=>(zdz p0 p1 p2).bind fun v11=>if !v11 then
 some ((zaB v4.1 v4.2.1 v4.2.2.1 v4.2.2.2.1 v4.2.2.2.2.1 v4.2.2.2.2.2.1 (za5 v4.2.2.2.2.2.2),(1:Int)))
 else
 (zhy p0 p1 p2 true).bind fun v13=>if !v13 then
 some ((zaB v4.1 v4.2.1 v4.2.2.1 v4.2.2.2.1 v4.2.2.2.2.1 v4.2.2.2.2.2.1 (za5 v4.2.2.2.2.2.2),(8:Int)))
 else
 (idxO (List.length v4.2.1:Int) p1).bind fun v15=>(idxO (List.length v4.2.1:Int) v15).bind fun v16=>(idxO (List.length v4.1:Int) p1).bind fun v17=>(idxO (List.length v4.1:Int) v17).bind fun v18=>(getO v4.2.1 v16).bind fun v19=>(idxO (v19.length:Int) p2).bind fun v20=>(getO v4.2.1 v16).bind fun v21=>(setO v21 v20 p3).bind fun v22=>(setO v4.2.1 v16 v22).bind fun v23=>(getO v4.1 v18).bind fun v24=>(idxO (v24.length:Int) p2).bind fun v25=>(getO v4.1 v18).bind fun v26=>(setO v26 v25 (3:Int)).bind fun v27=>(setO v4.1 v18 v27).bind fun v28=>some ((zaB v28 v23 v4.2.2.1 v4.2.2.2.1 v4.2.2.2.2.1 v4.2.2.2.2.2.1 (za5 v4.2.2.2.2.2.2),(0:Int)))
def zuT:FnT:=⟨[zbD,.int .i64,.int .i64,.int .u32],[zbD,.int .i64],fun x=>zo3 x.1 x.2.1 x.2.2.1 x.2.2.2⟩
def zuB:TA :=
 .sub0 [.sl (.sl (.int .i64)),.sl (.sl (.int .u32)),.sl zd2,.sl (.int .u32),.sl zbF,.sl (.int .i64),.sl (.sl (.int .u8))] (qf 0 0<|.sub0 [.sl (.sl (.int .i64))] (ql 4<|.sub0 [.sl (.sl (.int .i64))] (.loop [.int .i64,.sl (.sl (.int .i64))] [(qz 0),.c .nil] (qb .lss 6 5<|qe 8 (qg 4 6<|qc 8 9<|.mkL (.sl (.int .i64)) [.v 10]<|qa 24 7 11<|qk .add 6 1<|.jmp 0 true (qv [13,12])) (qj 1 7))) 1<|qj 0 6) 1<|qf 1 0<|.sub0 [.sl (.sl (.int .u32))] (ql 6<|.sub0 [.sl (.sl (.int .u32))] (.loop [.int .i64,.sl (.sl (.int .u32))] [(qz 0),.c .nil] (qb .lss 8 7<|qe 10 (qg 6 8<|qc 4 11<|.mkL (.sl (.int .u32)) [.v 12]<|qa 24 9 13<|qk .add 8 1<|.jmp 0 true (qv [15,14])) (qj 1 9))) 1<|qj 0 8) 1<|qf 2 0<|qc 40 8<|qf 3 0<|qc 4 10<|qf 5 0<|qc 8 12<|qN 7 0 0<|ql 18<|.sub0 [.sl zbF] (.loop [.int .i64,.sl zbF] [(qz 0),.c .nil] (qb .lss 22 21<|qe 24 (qg 18 22<|qN 2 0 25<|qc 1 27<|.mkS zdY (qv [26,28])<|.mkL zbF [.v 29]<|qa 32 23 30<|qk .add 22 1<|.jmp 0 true (qv [32,31])) (qj 1 23))) 1<|qf 0 20<|.sub0 [.sl (.sl (.int .u8))] (ql 23<|.sub0 [.sl (.sl (.int .u8))] (.loop [.int .i64,.sl (.sl (.int .u8))] [(qz 0),.c .nil] (qb .lss 25 24<|qe 27 (qg 23 25<|qc 1 28<|.mkL (.sl (.int .u8)) [.v 29]<|qa 24 26 30<|qk .add 25 1<|.jmp 0 true (qv [32,31])) (qj 1 26))) 1<|qj 0 25) 1<|.jmp 0 false (qv [5,7,9,11,22,13,24])) 7<|.call 144 zdR (qv [0,1,2]) 1<|qn 11<|qe 12 (.mkS zd8 [.v 10]<|.mkS zcX (qv [4,5,6,7,8,9,13])<|.jmp 0 false [.v 14,(qz 1)]) (.call 145 zha [.v 0,.v 1,.v 2,.c (.bool true)] 1<|qn 13<|qe 14 (.mkS zd8 [.v 10]<|.mkS zcX (qv [4,5,6,7,8,9,15])<|.jmp 0 false [.v 16,(qz 8)]) (qi 5 1<|qi 5 15<|qi 4 1<|qi 4 17<|qg 5 16<|qi 19 2<|qg 5 16<|qs 21 20 3<|qs 5 16 22<|qg 4 18<|qi 24 2<|qg 4 18<|.prim .set [.v 26,.v 25,(qz 3)]<|qs 4 18 27<|.mkS zd8 [.v 10]<|.mkS zcX (qv [28,23,6,7,8,9,29])<|.jmp 0 false [.v 30,(qz 0)]))
theorem ztA:zaM cx 12 147=some zuB.erase:=by kernel_rfl
theorem zAD:FnOk cx 12 noC 147 zuT:=rf_ ztA (.cons zeX (.cons ziV .nil))
def ziq (p0:Pool) (p1:Int):Option (Pool×Msg×Int) :=
 (zeB p0 p1).bind fun v2=>if !decide (v2.2=(0:Int)) then
 some ((v2.1,(zaT (0:Int) (0:Int) (0:Int) (0:Int) (0:Int) (0:Int) false (0:Int) (0:Int)),v2.2))
 else
 (getO (zaf p0) p1).bind fun v6=>(zlZ v6).bind fun v7=>some ((v2.1,v7.1,v7.2))
def zuW:FnT:=⟨[zb3,.int .i64],[zb3,tMsg,.int .i64],fun x=>ziq x.1 x.2⟩
def ztd:TA :=
 .call 67 zm9 (qv [0,1]) 2<|qk .neq 3 0<|qe 4 (.jmp 0 false [.v 2,.c (.agg [(.int .i64 0),(.int .i64 0),(.int .i64 0),(.int .i64 0),(.int .i64 0),(.int .i64 0),(.bool false),(.int .u32 0),(.int .u32 0)]),.v 3]) (qf 0 0<|qg 5 1<|.call 195 zrC [.v 6] 2<|.jmp 0 false (qv [2,7,8]))
theorem ztt:zaM cx 12 150=some ztd.erase:=by kernel_rfl
theorem zBJ:FnOk cx 12 noC 150 zuW:=rf_ ztt (.cons zu8 (.cons zzB .nil))
def zeP (x1 x3 x4:Int) (x7 x13:List Undo) (s:(Int×(List (List Int))×(List Int)×Int×Int)):Option ((Int×(List (List Int))×(List Int)×Int×Int)⊕((List (List Int))×(List Int)×Int×Int)) :=
 if decide (s.1<(0:Int)) then
 some (Sum.inr ((s.2.1,s.2.2.1,s.2.2.2.1,s.2.2.2.2)))
 else
 (getO x13 s.1).bind fun v27=>if decide ((zaJ v27)<x1) then
 some (Sum.inr ((s.2.1,s.2.2.1,s.2.2.2.1,s.2.2.2.2)))
 else
 ((subO x7 (0:Int) s.2.2.2.2).bind fun v33=>(zda (zaX (zaY s.2.1 s.2.2.1 s.2.2.2.1) x3 x4 v33) (zaZ v27)).bind fun v35=>(zdu (zaY s.2.1 s.2.2.1 s.2.2.2.1) v35.1 v35.2 (ze4 v27)).bind fun v38=>some (v38.1):Option zcn).bind fun v32=>(zzy (x7.length:Int) (0:Int) (0:Int) (w64 ((s.2.2.2.2 - (0:Int)) - (1:Int)))).bind fun v36=>some (Sum.inl (w64 (s.1 - (1:Int)),zac v32,zat v32,zaq v32,v36))
def zet (p0:za4) (p1:Int):Option (za4×Int) :=
 (let v3:List (List Int):=zac (zae p0)
 let v4:Int:=(v3.length:Int)
 (zaQ (zdT v3 v4) ((0:Int),([]:List (List Int))):Option (List (List Int))).bind fun v5=>(zaS 4 (zat (zae p0))).bind fun v8=>(zaS 24 (zak p0)).bind fun v10=>some ((zaq (zae p0),zaj p0,zaD p0,v5,v8,v10)):Option (Int×Int×Int×(List (List Int))×(List Int)×(List Undo))).bind fun v2=>(zgb p0 p1).bind fun v8=>if !v8 then
 some ((zaX (zaY v2.2.2.2.1 v2.2.2.2.2.1 v2.1) v2.2.1 v2.2.2.1 v2.2.2.2.2.2,(1:Int)))
 else
 if decide ((0:Int)<(zaq (zae p0))) then
 some ((zaX (zaY v2.2.2.2.1 v2.2.2.2.2.1 v2.1) v2.2.1 v2.2.2.1 v2.2.2.2.2.2,(8:Int)))
 else
 (zaQ (zeP p1 v2.2.1 v2.2.2.1 v2.2.2.2.2.2 (zak p0)) (w64 ((List.length (zak p0):Int) - (1:Int)),v2.2.2.2.1,v2.2.2.2.2.1,v2.1,(List.length v2.2.2.2.2.2:Int)):Option ((List (List Int))×(List Int)×Int×Int)).bind fun v14=>(subO v2.2.2.2.2.2 (0:Int) v14.2.2.2).bind fun v19=>some ((zaX (zaY v14.1 v14.2.1 v14.2.2.1) v2.2.1 p1 v19,(0:Int)))
def zh1:FnT:=⟨[zbq,.int .i64],[zbq,.int .i64],fun x=>zet x.1 x.2⟩
def zq3:TA :=
 .sub0 [.int .i64,.int .i64,.int .i64,.sl (.sl (.int .u32)),.sl (.int .u32),.sl zk1] (qf 0 0<|qf 0 2<|ql 3<|.sub0 [.sl (.sl (.int .u32))] (.loop [.int .i64,.sl (.sl (.int .u32))] [(qz 0),.c .nil] (qb .lss 5 4<|qe 7 (qg 3 5<|qc 4 8<|.mkL (.sl (.int .u32)) [.v 9]<|qa 24 6 10<|qk .add 5 1<|.jmp 0 true (qv [12,11])) (qj 1 6))) 1<|qf 0 0<|qf 1 6<|qc 4 7<|qf 3 0<|qc 24 9<|qN 4 0 0<|qN 3 0 11<|.jmp 0 false (qv [17,12,13,5,8,10])) 6<|.call 169 zil (qv [0,1]) 1<|qn 8<|qe 9 (.mkS zb7 (qv [5,6,2])<|.mkS zc8 (qv [10,3,4,7])<|.jmp 0 false [.v 11,(qz 1)]) (qf 0 0<|qf 2 10<|qk .gtr 11 0<|qe 12 (.mkS zb7 (qv [5,6,2])<|.mkS zc8 (qv [13,3,4,7])<|.jmp 0 false [.v 14,(qz 8)]) (qf 3 0<|.subp [] (qx 0) 0<|.sub0 [.sl (.sl (.int .u32)),.sl (.int .u32),.int .i64,.int .i64] (ql 13<|qk .sub 14 1<|.subp [.int .i64,.sl (.sl (.int .u32)),.sl (.int .u32),.int .i64,.int .i64] (ql 7<|.jmp 0 false (qv [15,5,6,2,16])) 5<|.loop [.int .i64,.sl (.sl (.int .u32)),.sl (.int .u32),.int .i64,.int .i64] (qv [16,17,18,19,20]) (qk .lss 21 0<|qe 26 (.jmp 1 false (qv [22,23,24,25])) (qg 13 21<|qf 0 27<|qb .lss 28 1<|qe 29 (.jmp 1 false (qv [22,23,24,25])) (qN 2 1 27<|.sub0 [zgU] (.mkS zb7 (qv [22,23,24])<|.prim .sub [.v 7,(qz 0),.v 25]<|.mkS zc8 (qv [32,3,4,33])<|.call 204 ze0 (qv [34,30]) 2<|.mkS zb7 (qv [22,23,24])<|.call 228 zh6 (qv [37,35,36,31]) 2<|qj 0 38) 1<|.prim .vlen [(qz 0),.v 25]<|qk .sub 33 1<|.prim .vlen [(qz 0),.v 25]<|.prim .rngv [.v 7,(qz 0),(qz 0),.v 34]<|qk .sub 21 1<|qN 3 0 32<|.jmp 0 true (qv [37,38,39,40,36]))))) 4<|.mkS zb7 (qv [14,15,16])<|.prim .sub [.v 7,(qz 0),.v 17]<|.mkS zc8 (qv [18,3,1,19])<|.jmp 0 false [.v 20,(qz 0)]))
theorem zrc:zaM cx 12 156=some zq3.erase:=by kernel_rfl
theorem zkw:FnOk cx 12 noC 156 zh1:=rf_ zrc (.cons zmE (.cons zgG (.cons zm5 .nil)))
def ze9 (p0:za4) (p1:Int):Option (Int×Int) :=
 (zgW p0 p1).bind fun v2=>if !v2 then
 some (((0:Int),(1:Int)))
 else
 (zda p0 p1).bind fun v4=>(zhu (zae p0) v4.1 v4.2).bind fun v7=>some ((v7.1,v7.2))
def zhT:FnT:=⟨[zbq,.int .i64],[.int .u32,.int .i64],fun x=>ze9 x.1 x.2⟩
def zrP:TA :=
 .call 205 zjw (qv [0,1]) 1<|qn 2<|qe 3 (.jmp 0 false [.c (.int .u32 0),(qz 1)]) (.call 204 ze0 (qv [0,1]) 2<|qf 0 0<|.call 206 zph (qv [6,4,5]) 2<|.jmp 0 false (qv [7,8]))
theorem zqT:zaM cx 12 159=some zrP.erase:=by kernel_rfl
theorem zlk:FnOk cx 12 noC 159 zhT:=rf_ zqT (.cons zpd (.cons zgG (.cons zx2 .nil)))
def zlr (x5:List (List Int)) (x6:Int) (s:(Int×(List (List Int)))):Option ((Int×(List (List Int)))⊕(List (List Int))) :=
 if decide (s.1<x6) then
 (getO x5 s.1).bind fun v10=>(zaS 1 v10).bind fun v11=>(appO 24 s.2 ([v11]:List (List Int))).bind fun v13=>some (Sum.inl (w64 (s.1 + (1:Int)),v13))
 else
 some (Sum.inr (s.2))
def za1 (p0:Pool) (p1:Msg):Option (Pool×Int) :=
 (zis p1).bind fun v2=>((zfg p0).bind fun v4=>if !v4 then
 some (true)
 else
 some ((!decide (v2.2=(0:Int)))):Option Bool).bind fun v4=>if v4 then
 (let v6:Int:=(List.length (zaf p0):Int)
 (zaQ (zlr (zaf p0) v6) ((0:Int),([]:List (List Int))):Option (List (List Int))).bind fun v7=>some (v7):Option (List (List Int))).bind fun v5=>some ((za5 v5,(1:Int)))
 else
 (let v6:Int:=(List.length (zaf p0):Int)
 (zaQ (zlr (zaf p0) v6) ((0:Int),([]:List (List Int))):Option (List (List Int))).bind fun v7=>some (v7):Option (List (List Int))).bind fun v5=>((zeW (za5 v5)).bind fun v7=>if decide (v7=(0:Int)) then
 some (((6:Int),v5))
 else
 (zaS 1 v2.1).bind fun v9=>(appO 24 v5 ([v9]:List (List Int))).bind fun v11=>some (((0:Int),v11)):Option (Int×(List (List Int)))).bind fun v6=>some ((za5 v6.2,v6.1))
def zbM:FnT:=⟨[zb3,tMsg],[zb3,.int .i64],fun x=>za1 x.1 x.2⟩
def zuA:TA :=
 .call 233 ztM [.v 1] 2<|.sub0 [.bool] (.call 73 zga [.v 0] 1<|qn 4<|qe 5 (qt 0 true) (qk .neq 3 0<|qj 0 6)) 1<|qe 4 (.sub0 [.sl (.sl (.int .u8))] (qf 0 0<|ql 5<|.sub0 [.sl (.sl (.int .u8))] (.loop [.int .i64,.sl (.sl (.int .u8))] [(qz 0),.c .nil] (qb .lss 7 6<|qe 9 (qg 5 7<|qc 1 10<|.mkL (.sl (.int .u8)) [.v 11]<|qa 24 8 12<|qk .add 7 1<|.jmp 0 true (qv [14,13])) (qj 1 8))) 1<|qj 0 7) 1<|.mkS zd8 [.v 5]<|.jmp 0 false [.v 6,(qz 1)]) (.sub0 [.sl (.sl (.int .u8))] (qf 0 0<|ql 5<|.sub0 [.sl (.sl (.int .u8))] (.loop [.int .i64,.sl (.sl (.int .u8))] [(qz 0),.c .nil] (qb .lss 7 6<|qe 9 (qg 5 7<|qc 1 10<|.mkL (.sl (.int .u8)) [.v 11]<|qa 24 8 12<|qk .add 7 1<|.jmp 0 true (qv [14,13])) (qj 1 8))) 1<|qj 0 7) 1<|.sub0 [.int .i64,.sl (.sl (.int .u8))] (.mkS zd8 [.v 5]<|.call 151 zhk [.v 6] 1<|qk .eql 7 0<|qe 8 (.jmp 0 false [(qz 6),.v 5]) (qc 1 2<|.mkL (.sl (.int .u8)) [.v 9]<|qa 24 5 10<|.jmp 0 false [(qz 0),.v 11])) 2<|.mkS zd8 [.v 7]<|.jmp 0 false (qv [8,6]))
theorem ztH:zaM cx 12 221=some zuA.erase:=by kernel_rfl
theorem zbX:FnOk cx 12 noC 221 zbM:=rf_ ztH (.cons zAY (.cons zh0 (.cons zje .nil)))
end Go.Proofs.YtplfgkjjgflhkaaGreat
