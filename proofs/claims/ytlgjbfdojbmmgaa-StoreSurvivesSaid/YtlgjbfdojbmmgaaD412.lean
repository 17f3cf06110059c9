/- More functions of this cut as functions of plain typed data. Printed by a program of this claim's prover; each is checked here to be what the executor makes of the code. -/
import Derived.Test.YtlgjbfdojbmmgaaD411
set_option linter.unusedVariables false
set_option maxRecDepth 100000
noncomputable section
namespace Go.Proofs.Ytlgjbfdojbmmgaa
open Go.SX
def zd3 (x0:Vault) (x3:Int) (s:(Int×(List Int))):Option ((Int×(List Int))⊕(List Int)) :=
 if decide (s.1<x3) then
 (zbd x0 s.1).bind fun v7=>(getO (Banks.Rows (Vault.Banks x0)) v7.1).bind fun v11=>(getO v11 v7.2).bind fun v12=>(appO 4 s.2 ([v12]:List Int)).bind fun v14=>some (Sum.inl (w64 (s.1 + (1:Int)),v14))
 else
 some (Sum.inr (s.2))
def zaG (p0:Vault):Option (List Int) :=
 (zaT p0).bind fun v1=>if !v1 then
 some (([]:List Int))
 else
 (zaz (zd3 p0 (Vault.Words p0)) ((0:Int),([]:List Int)):Option (List Int)).bind fun v4=>some (v4)
def zaC:FnT:=⟨[zas],[.sl (.int .u32)],fun x=>zaG x⟩
def zhp:TA :=
 .call 24 zal [.v 0] 1<|.prim (.un .not) [.v 1]<|.ite (.v 2) (.jmp 0 false [.c .nil]) (.prim (.fld 1) [.v 0]<|.sub0 [.sl (.int .u32)] (.loop [.int .i64,.sl (.int .u32)] [.c (.int .i64 0),.c .nil] (.prim (.bin .lss) [.v 4,.v 3]<|.ite (.v 6) (.call 71 zaQ [.v 0,.v 4] 2<|.prim (.fld 0) [.v 0]<|.prim (.fld 0) [.v 9]<|.prim .get [.v 10,.v 7]<|.prim .get [.v 11,.v 8]<|.mkL (.int .u32) [.v 12]<|.prim (.app 4) [.v 5,.v 13]<|.prim (.bin .add) [.v 4,.c (.int .i64 1)]<|.jmp 0 true [.v 15,.v 14]) (.jmp 1 false [.v 5]))) 1<|.jmp 0 false [.v 4])
theorem zl3:zaH cx 12 26=some zhp.erase:=by kernel_rfl
theorem zb8:FnOk cx 12 noC 26 zaC:=zci (t:=zhp) zl3 (fun _=>rfl) (zb7 [(24,zal),(71,zaQ)] (by kernel_rfl) (.cons zbe (.cons zc4 .nil))) (fun x=>by kernel_rfl)
def zc7 (x2:List (List Int)) (x3:Int) (s:(Int×(List (List Int)))):Option ((Int×(List (List Int)))⊕(List (List Int))) :=
 if decide (s.1<x3) then
 (getO x2 s.1).bind fun v7=>(zaO 4 v7).bind fun v8=>(appO 24 s.2 ([v8]:List (List Int))).bind fun v10=>some (Sum.inl (w64 (s.1 + (1:Int)),v10))
 else
 some (Sum.inr (s.2))
def zer (p0:Vault):Option (Vault×Int) :=
 (let v2:List (List Int):=Banks.Rows (Vault.Banks p0)
 let v3:Int:=(List.length v2:Int)
 (zaz (zc7 v2 v3) ((0:Int),([]:List (List Int))):Option (List (List Int))).bind fun v4=>(zaO 4 (Banks.Par (Vault.Banks p0))).bind fun v7=>(zaO 24 (Vault.Lst p0)).bind fun v9=>some ((Banks.Lost (Vault.Banks p0),Vault.Words p0,Vault.Span p0,v4,v7,v9)):Option (Int×Int×Int×(List (List Int))×(List Int)×(List Undo))).bind fun v1=>((zaT p0).bind fun v7=>if !v7 then
 some (true)
 else
 some ((decide ((Vault.Span p0)=(1099511627776:Int)))):Option Bool).bind fun v7=>if v7 then
 some ((Vault.mk (Banks.mk v1.2.2.2.1 v1.2.2.2.2.1 v1.1) v1.2.1 v1.2.2.1 v1.2.2.2.2.2,(1:Int)))
 else
 some ((Vault.mk (Banks.mk v1.2.2.2.1 v1.2.2.2.2.1 v1.1) v1.2.1 (w64 (v1.2.2.1 + (1:Int))) v1.2.2.2.2.2,(0:Int)))
def zfp:FnT:=⟨[zas],[zas,.int .i64],fun x=>zer x⟩
def zix:TA :=
 .sub0 [.int .i64,.int .i64,.int .i64,.sl (.sl (.int .u32)),.sl (.int .u32),.sl zcK] (.prim (.fld 0) [.v 0]<|.prim (.fld 0) [.v 1]<|.prim .len [.v 2]<|.sub0 [.sl (.sl (.int .u32))] (.loop [.int .i64,.sl (.sl (.int .u32))] [.c (.int .i64 0),.c .nil] (.prim (.bin .lss) [.v 4,.v 3]<|.ite (.v 6) (.prim .get [.v 2,.v 4]<|.prim (.clone 4) [.v 7]<|.mkL (.sl (.int .u32)) [.v 8]<|.prim (.app 24) [.v 5,.v 9]<|.prim (.bin .add) [.v 4,.c (.int .i64 1)]<|.jmp 0 true [.v 11,.v 10]) (.jmp 1 false [.v 5]))) 1<|.prim (.fld 0) [.v 0]<|.prim (.fld 1) [.v 5]<|.prim (.clone 4) [.v 6]<|.prim (.fld 3) [.v 0]<|.prim (.clone 24) [.v 8]<|.prim (.fld 0) [.v 0]<|.prim (.fld 1) [.v 0]<|.prim (.fld 2) [.v 0]<|.prim (.fld 3) [.v 0]<|.prim (.fld 0) [.v 10]<|.prim (.fld 1) [.v 10]<|.prim (.fld 2) [.v 10]<|.jmp 0 false [.v 16,.v 11,.v 12,.v 4,.v 7,.v 9]) 6<|.sub0 [.bool] (.call 24 zal [.v 0] 1<|.prim (.un .not) [.v 7]<|.ite (.v 8) (.jmp 0 false [.c (.bool true)]) (.prim (.fld 2) [.v 0]<|.prim (.bin .eql) [.v 9,.c (.int .i64 1099511627776)]<|.jmp 0 false [.v 10])) 1<|.ite (.v 7) (.mkS zaF [.v 4,.v 5,.v 1]<|.mkS zbf [.v 8,.v 2,.v 3,.v 6]<|.jmp 0 false [.v 9,.c (.int .i64 1)]) (.prim (.bin .add) [.v 3,.c (.int .i64 1)]<|.mkS zaF [.v 4,.v 5,.v 1]<|.mkS zbf [.v 9,.v 2,.v 8,.v 6]<|.jmp 0 false [.v 10,.c (.int .i64 0)])
theorem zot:zaH cx 12 28=some zix.erase:=by kernel_rfl
theorem zn7:FnOk cx 12 noC 28 zfp:=zci (t:=zix) zot (fun _=>rfl) (zb7 [(24,zal)] (by kernel_rfl) (.cons zbe .nil)) (fun x=>by kernel_rfl)
def zb3 (p0:Vault):Option (Vault×Int) :=
 (let v2:List (List Int):=Banks.Rows (Vault.Banks p0)
 let v3:Int:=(List.length v2:Int)
 (zaz (zc7 v2 v3) ((0:Int),([]:List (List Int))):Option (List (List Int))).bind fun v4=>(zaO 4 (Banks.Par (Vault.Banks p0))).bind fun v7=>(zaO 24 (Vault.Lst p0)).bind fun v9=>some ((Banks.Lost (Vault.Banks p0),Vault.Words p0,Vault.Span p0,v4,v7,v9)):Option (Int×Int×Int×(List (List Int))×(List Int)×(List Undo))).bind fun v1=>(zaT p0).bind fun v7=>if !v7 then
 some ((Vault.mk (Banks.mk v1.2.2.2.1 v1.2.2.2.2.1 v1.1) v1.2.1 v1.2.2.1 v1.2.2.2.2.2,(1:Int)))
 else
 (zbO (Vault.Banks p0)).bind fun v10=>some ((Vault.mk v10.1 v1.2.1 v1.2.2.1 v1.2.2.2.2.2,v10.2))
def zdA:FnT:=⟨[zas],[zas,.int .i64],fun x=>zb3 x⟩
def zfb:TA :=
 .sub0 [.int .i64,.int .i64,.int .i64,.sl (.sl (.int .u32)),.sl (.int .u32),.sl zcK] (.prim (.fld 0) [.v 0]<|.prim (.fld 0) [.v 1]<|.prim .len [.v 2]<|.sub0 [.sl (.sl (.int .u32))] (.loop [.int .i64,.sl (.sl (.int .u32))] [.c (.int .i64 0),.c .nil] (.prim (.bin .lss) [.v 4,.v 3]<|.ite (.v 6) (.prim .get [.v 2,.v 4]<|.prim (.clone 4) [.v 7]<|.mkL (.sl (.int .u32)) [.v 8]<|.prim (.app 24) [.v 5,.v 9]<|.prim (.bin .add) [.v 4,.c (.int .i64 1)]<|.jmp 0 true [.v 11,.v 10]) (.jmp 1 false [.v 5]))) 1<|.prim (.fld 0) [.v 0]<|.prim (.fld 1) [.v 5]<|.prim (.clone 4) [.v 6]<|.prim (.fld 3) [.v 0]<|.prim (.clone 24) [.v 8]<|.prim (.fld 0) [.v 0]<|.prim (.fld 1) [.v 0]<|.prim (.fld 2) [.v 0]<|.prim (.fld 3) [.v 0]<|.prim (.fld 0) [.v 10]<|.prim (.fld 1) [.v 10]<|.prim (.fld 2) [.v 10]<|.jmp 0 false [.v 16,.v 11,.v 12,.v 4,.v 7,.v 9]) 6<|.call 24 zal [.v 0] 1<|.prim (.un .not) [.v 7]<|.ite (.v 8) (.mkS zaF [.v 4,.v 5,.v 1]<|.mkS zbf [.v 9,.v 2,.v 3,.v 6]<|.jmp 0 false [.v 10,.c (.int .i64 1)]) (.prim (.fld 0) [.v 0]<|.call 79 zcU [.v 9] 2<|.mkS zbf [.v 10,.v 2,.v 3,.v 6]<|.jmp 0 false [.v 12,.v 11])
theorem zkE:zaH cx 12 30=some zfb.erase:=by kernel_rfl
theorem zjC:FnOk cx 12 noC 30 zdA:=zci (t:=zfb) zkE (fun _=>rfl) (zb7 [(24,zal),(79,zcU)] (by kernel_rfl) (.cons zbe (.cons ziW .nil))) (fun x=>by kernel_rfl)
def zdu (p0:Vault) (p1:Int):Option Bool :=
 ((zaT p0).bind fun v2=>if v2 then
 if decide ((0:Int)≤p1) then
 some ((decide (p1<(Vault.Words p0))))
 else
 some (false)
 else
 some (false):Option Bool).bind fun v2=>some (v2)
def zcc:FnT:=⟨[zas,.int .i64],[.bool],fun x=>zdu x.1 x.2⟩
def zgM:TA :=
 .sub0 [.bool] (.call 24 zal [.v 0] 1<|.ite (.v 2) (.prim (.bin .geq) [.v 1,.c (.int .i64 0)]<|.ite (.v 3) (.prim (.fld 1) [.v 0]<|.prim (.bin .lss) [.v 1,.v 4]<|.jmp 0 false [.v 5]) (.jmp 0 false [.c (.bool false)])) (.jmp 0 false [.c (.bool false)])) 1<|.jmp 0 false [.v 2]
theorem zmz:zaH cx 12 54=some zgM.erase:=by kernel_rfl
theorem zgT:FnOk cx 12 noC 54 zcc:=zci (t:=zgM) zmz (fun _=>rfl) (zb7 [(24,zal)] (by kernel_rfl) (.cons zbe .nil)) (fun x=>by kernel_rfl)
def zcF (p0:Vault) (p1:Int):Option Bool :=
 ((zaT p0).bind fun v2=>if v2 then
 if decide ((0:Int)≤p1) then
 some ((decide (p1≤(Vault.Span p0))))
 else
 some (false)
 else
 some (false):Option Bool).bind fun v2=>some (v2)
def zbP:FnT:=⟨[zas,.int .i64],[.bool],fun x=>zcF x.1 x.2⟩
def zf3:TA :=
 .sub0 [.bool] (.call 24 zal [.v 0] 1<|.ite (.v 2) (.prim (.bin .geq) [.v 1,.c (.int .i64 0)]<|.ite (.v 3) (.prim (.fld 2) [.v 0]<|.prim (.bin .leq) [.v 1,.v 4]<|.jmp 0 false [.v 5]) (.jmp 0 false [.c (.bool false)])) (.jmp 0 false [.c (.bool false)])) 1<|.jmp 0 false [.v 2]
theorem zkV:zaH cx 12 62=some zf3.erase:=by kernel_rfl
theorem zfZ:FnOk cx 12 noC 62 zbP:=zci (t:=zf3) zkV (fun _=>rfl) (zb7 [(24,zal)] (by kernel_rfl) (.cons zbe .nil)) (fun x=>by kernel_rfl)
def zdy (p0:Banks) (p1:Int) (p2:Int):Option (Int×Int) :=
 ((zdh p0 p1).bind fun v3=>if !v3 then
 some (true)
 else
 if decide (p2<(0:Int)) then
 some (true)
 else
 some ((decide ((List.length (Banks.Par p0):Int)≤p2))):Option Bool).bind fun v3=>if v3 then
 some (((0:Int),(1:Int)))
 else
 if decide ((Banks.Lost p0)=(w64 (p1 + (1:Int)))) then
 some (((0:Int),(8:Int)))
 else
 (getO (Banks.Rows p0) p1).bind fun v8=>(getO v8 p2).bind fun v9=>some ((v9,(0:Int)))
def zeN:FnT:=⟨[zan,.int .i64,.int .i64],[.int .u32,.int .i64],fun x=>zdy x.1 x.2.1 x.2.2⟩
def zgJ:TA :=
 .sub0 [.bool] (.call 114 zbr [.v 0,.v 1] 1<|.prim (.un .not) [.v 3]<|.ite (.v 4) (.jmp 0 false [.c (.bool true)]) (.prim (.bin .lss) [.v 2,.c (.int .i64 0)]<|.ite (.v 5) (.jmp 0 false [.c (.bool true)]) (.prim (.fld 1) [.v 0]<|.prim .len [.v 6]<|.prim (.bin .geq) [.v 2,.v 7]<|.jmp 0 false [.v 8]))) 1<|.ite (.v 3) (.jmp 0 false [.c (.int .u32 0),.c (.int .i64 1)]) (.prim (.fld 2) [.v 0]<|.prim (.bin .add) [.v 1,.c (.int .i64 1)]<|.prim (.bin .eql) [.v 4,.v 5]<|.ite (.v 6) (.jmp 0 false [.c (.int .u32 0),.c (.int .i64 8)]) (.prim (.fld 0) [.v 0]<|.prim .get [.v 7,.v 1]<|.prim .get [.v 8,.v 2]<|.jmp 0 false [.v 9,.c (.int .i64 0)]))
theorem zmn:zaH cx 12 72=some zgJ.erase:=by kernel_rfl
theorem zmC:FnOk cx 12 noC 72 zeN:=zci (t:=zgJ) zmn (fun _=>rfl) (zb7 [(114,zbr)] (by kernel_rfl) (.cons zfr .nil)) (fun x=>by kernel_rfl)
def zf9 (x5:List (List Int)) (x6:Int) (s:(Int×(List (List Int)))):Option ((Int×(List (List Int)))⊕(List (List Int))) :=
 if decide (s.1<x6) then
 (getO x5 s.1).bind fun v10=>(zaO 4 v10).bind fun v11=>(appO 24 s.2 ([v11]:List (List Int))).bind fun v13=>some (Sum.inl (w64 (s.1 + (1:Int)),v13))
 else
 some (Sum.inr (s.2))
def zdp (p0:Banks) (p1:Int):Option (Banks×Int) :=
 ((zaO 4 (Banks.Par p0)).bind fun v3=>let v6:Int:=(List.length (Banks.Rows p0):Int)
 (zaz (zf9 (Banks.Rows p0) v6) ((0:Int),([]:List (List Int))):Option (List (List Int))).bind fun v7=>some ((Banks.Lost p0,v7,v3)):Option (Int×(List (List Int))×(List Int))).bind fun v2=>(zdh p0 p1).bind fun v5=>if !v5 then
 some ((Banks.mk v2.2.1 v2.2.2 v2.1,(1:Int)))
 else
 if decide ((0:Int)<(Banks.Lost p0)) then
 some ((Banks.mk v2.2.1 v2.2.2 v2.1,(8:Int)))
 else
 (idxO (List.length v2.2.1:Int) p1).bind fun v9=>(idxO (List.length v2.2.1:Int) v9).bind fun v10=>(getO v2.2.1 v10).bind fun v11=>(setO v2.2.1 v10 (List.replicate (List.length v11) (0:Int))).bind fun v13=>some ((Banks.mk v13 v2.2.2 (w64 (p1 + (1:Int))),(0:Int)))
def zeR:FnT:=⟨[zan,.int .i64],[zan,.int .i64],fun x=>zdp x.1 x.2⟩
def zha:TA :=
 .sub0 [.int .i64,.sl (.sl (.int .u32)),.sl (.int .u32)] (.prim (.fld 1) [.v 0]<|.prim (.clone 4) [.v 2]<|.prim (.fld 2) [.v 0]<|.prim (.fld 0) [.v 0]<|.prim .len [.v 5]<|.sub0 [.sl (.sl (.int .u32))] (.loop [.int .i64,.sl (.sl (.int .u32))] [.c (.int .i64 0),.c .nil] (.prim (.bin .lss) [.v 7,.v 6]<|.ite (.v 9) (.prim .get [.v 5,.v 7]<|.prim (.clone 4) [.v 10]<|.mkL (.sl (.int .u32)) [.v 11]<|.prim (.app 24) [.v 8,.v 12]<|.prim (.bin .add) [.v 7,.c (.int .i64 1)]<|.jmp 0 true [.v 14,.v 13]) (.jmp 1 false [.v 8]))) 1<|.jmp 0 false [.v 4,.v 7,.v 3]) 3<|.call 114 zbr [.v 0,.v 1] 1<|.prim (.un .not) [.v 5]<|.ite (.v 6) (.mkS zaF [.v 3,.v 4,.v 2]<|.jmp 0 false [.v 7,.c (.int .i64 1)]) (.prim (.fld 2) [.v 0]<|.prim (.bin .gtr) [.v 7,.c (.int .i64 0)]<|.ite (.v 8) (.mkS zaF [.v 3,.v 4,.v 2]<|.jmp 0 false [.v 9,.c (.int .i64 8)]) (.prim .idx [.v 3,.v 1]<|.prim .idx [.v 3,.v 9]<|.prim .get [.v 3,.v 10]<|.prim (.clr (.int .u32 0)) [.v 11]<|.prim .set [.v 3,.v 10,.v 12]<|.prim (.bin .add) [.v 1,.c (.int .i64 1)]<|.mkS zaF [.v 13,.v 4,.v 14]<|.jmp 0 false [.v 15,.c (.int .i64 0)]))
theorem zmk:zaH cx 12 78=some zha.erase:=by kernel_rfl
theorem zmD:FnOk cx 12 noC 78 zeR:=zci (t:=zha) zmk (fun _=>rfl) (zb7 [(114,zbr)] (by kernel_rfl) (.cons zfr .nil)) (fun x=>by kernel_rfl)
def zae (x7:List (List Int)) (x8:Int) (s:(Int×(List (List Int)))):Option ((Int×(List (List Int)))⊕(List (List Int))) :=
 if decide (s.1<x8) then
 (getO x7 s.1).bind fun v12=>(zaO 4 v12).bind fun v13=>(appO 24 s.2 ([v13]:List (List Int))).bind fun v15=>some (Sum.inl (w64 (s.1 + (1:Int)),v15))
 else
 some (Sum.inr (s.2))
def zbw (p0:Banks) (p1:Int) (p2:Int) (p3:Int):Option (Banks×Int) :=
 ((zaO 4 (Banks.Par p0)).bind fun v5=>let v8:Int:=(List.length (Banks.Rows p0):Int)
 (zaz (zae (Banks.Rows p0) v8) ((0:Int),([]:List (List Int))):Option (List (List Int))).bind fun v9=>some ((Banks.Lost p0,v9,v5)):Option (Int×(List (List Int))×(List Int))).bind fun v4=>((zdh p0 p1).bind fun v7=>if !v7 then
 some (true)
 else
 if decide (p2<(0:Int)) then
 some (true)
 else
 some ((decide ((List.length (Banks.Par p0):Int)≤p2))):Option Bool).bind fun v7=>if v7 then
 some ((Banks.mk v4.2.1 v4.2.2 v4.1,(1:Int)))
 else
 if decide ((0:Int)<(Banks.Lost p0)) then
 some ((Banks.mk v4.2.1 v4.2.2 v4.1,(8:Int)))
 else
 (idxO (List.length v4.2.2:Int) p2).bind fun v10=>(getO v4.2.2 v10).bind fun v11=>(idxO (List.length v4.2.1:Int) p1).bind fun v12=>(idxO (List.length v4.2.1:Int) v12).bind fun v13=>(getO v4.2.1 v13).bind fun v14=>(idxO (List.length v14:Int) p2).bind fun v15=>(getO v4.2.1 v13).bind fun v16=>(getO v16 v15).bind fun v17=>(idxO (List.length v4.2.2:Int) p2).bind fun v20=>(setO v4.2.2 v20 (bXor .u32 v11 (bXor .u32 v17 p3))).bind fun v21=>(idxO (List.length v4.2.1:Int) p1).bind fun v22=>(idxO (List.length v4.2.1:Int) v22).bind fun v23=>(getO v4.2.1 v23).bind fun v24=>(idxO (List.length v24:Int) p2).bind fun v25=>(getO v4.2.1 v23).bind fun v26=>(setO v26 v25 p3).bind fun v27=>(setO v4.2.1 v23 v27).bind fun v28=>some ((Banks.mk v28 v21 v4.1,(0:Int)))
def zbK:FnT:=⟨[zan,.int .i64,.int .i64,.int .u32],[zan,.int .i64],fun x=>zbw x.1 x.2.1 x.2.2.1 x.2.2.2⟩
def zf0:TA :=
 .sub0 [.int .i64,.sl (.sl (.int .u32)),.sl (.int .u32)] (.prim (.fld 1) [.v 0]<|.prim (.clone 4) [.v 4]<|.prim (.fld 2) [.v 0]<|.prim (.fld 0) [.v 0]<|.prim .len [.v 7]<|.sub0 [.sl (.sl (.int .u32))] (.loop [.int .i64,.sl (.sl (.int .u32))] [.c (.int .i64 0),.c .nil] (.prim (.bin .lss) [.v 9,.v 8]<|.ite (.v 11) (.prim .get [.v 7,.v 9]<|.prim (.clone 4) [.v 12]<|.mkL (.sl (.int .u32)) [.v 13]<|.prim (.app 24) [.v 10,.v 14]<|.prim (.bin .add) [.v 9,.c (.int .i64 1)]<|.jmp 0 true [.v 16,.v 15]) (.jmp 1 false [.v 10]))) 1<|.jmp 0 false [.v 6,.v 9,.v 5]) 3<|.sub0 [.bool] (.call 114 zbr [.v 0,.v 1] 1<|.prim (.un .not) [.v 7]<|.ite (.v 8) (.jmp 0 false [.c (.bool true)]) (.prim (.bin .lss) [.v 2,.c (.int .i64 0)]<|.ite (.v 9) (.jmp 0 false [.c (.bool true)]) (.prim (.fld 1) [.v 0]<|.prim .len [.v 10]<|.prim (.bin .geq) [.v 2,.v 11]<|.jmp 0 false [.v 12]))) 1<|.ite (.v 7) (.mkS zaF [.v 5,.v 6,.v 4]<|.jmp 0 false [.v 8,.c (.int .i64 1)]) (.prim (.fld 2) [.v 0]<|.prim (.bin .gtr) [.v 8,.c (.int .i64 0)]<|.ite (.v 9) (.mkS zaF [.v 5,.v 6,.v 4]<|.jmp 0 false [.v 10,.c (.int .i64 8)]) (.prim .idx [.v 6,.v 2]<|.prim .get [.v 6,.v 10]<|.prim .idx [.v 5,.v 1]<|.prim .idx [.v 5,.v 12]<|.prim .get [.v 5,.v 13]<|.prim .idx [.v 14,.v 2]<|.prim .get [.v 5,.v 13]<|.prim .get [.v 16,.v 15]<|.prim (.bin .xor) [.v 17,.v 3]<|.prim (.bin .xor) [.v 11,.v 18]<|.prim .idx [.v 6,.v 2]<|.prim .set [.v 6,.v 20,.v 19]<|.prim .idx [.v 5,.v 1]<|.prim .idx [.v 5,.v 22]<|.prim .get [.v 5,.v 23]<|.prim .idx [.v 24,.v 2]<|.prim .get [.v 5,.v 23]<|.prim .set [.v 26,.v 25,.v 3]<|.prim .set [.v 5,.v 23,.v 27]<|.mkS zaF [.v 28,.v 21,.v 4]<|.jmp 0 false [.v 29,.c (.int .i64 0)]))
theorem zk1:zaH cx 12 110=some zf0.erase:=by kernel_rfl
theorem zfY:FnOk cx 12 noC 110 zbK:=zci (t:=zf0) zk1 (fun _=>rfl) (zb7 [(114,zbr)] (by kernel_rfl) (.cons zfr .nil)) (fun x=>by kernel_rfl)
def zca (x1:Int) (x3:Int) (x4:Int) (x7:List Undo) (x13:List Undo) (s:(Int×(List (List Int))×(List Int)×Int×Int)):Option ((Int×(List (List Int))×(List Int)×Int×Int)⊕((List (List Int))×(List Int)×Int×Int)) :=
 if decide (s.1<(0:Int)) then
 some (Sum.inr ((s.2.1,s.2.2.1,s.2.2.2.1,s.2.2.2.2)))
 else
 (getO x13 s.1).bind fun v27=>if decide ((Undo.Span v27)<x1) then
 some (Sum.inr ((s.2.1,s.2.2.1,s.2.2.2.1,s.2.2.2.2)))
 else
 ((subO x7 (0:Int) s.2.2.2.2).bind fun v33=>(zbd (Vault.mk (Banks.mk s.2.1 s.2.2.1 s.2.2.2.1) x3 x4 v33) (Undo.At v27)).bind fun v35=>(zbw (Banks.mk s.2.1 s.2.2.1 s.2.2.2.1) v35.1 v35.2 (Undo.Val v27)).bind fun v38=>some (v38.1):Option Banks).bind fun v32=>(zsb (List.length x7:Int) (0:Int) (0:Int) (w64 ((s.2.2.2.2 - (0:Int)) - (1:Int)))).bind fun v36=>some (Sum.inl (w64 (s.1 - (1:Int)),Banks.Rows v32,Banks.Par v32,Banks.Lost v32,v36))
def zbA (x3:List (List Int)) (x4:Int) (s:(Int×(List (List Int)))):Option ((Int×(List (List Int)))⊕(List (List Int))) :=
 if decide (s.1<x4) then
 (getO x3 s.1).bind fun v8=>(zaO 4 v8).bind fun v9=>(appO 24 s.2 ([v9]:List (List Int))).bind fun v11=>some (Sum.inl (w64 (s.1 + (1:Int)),v11))
 else
 some (Sum.inr (s.2))
def zcm (p0:Vault) (p1:Int):Option (Vault×Int) :=
 (let v3:List (List Int):=Banks.Rows (Vault.Banks p0)
 let v4:Int:=(List.length v3:Int)
 (zaz (zbA v3 v4) ((0:Int),([]:List (List Int))):Option (List (List Int))).bind fun v5=>(zaO 4 (Banks.Par (Vault.Banks p0))).bind fun v8=>(zaO 24 (Vault.Lst p0)).bind fun v10=>some ((Banks.Lost (Vault.Banks p0),Vault.Words p0,Vault.Span p0,v5,v8,v10)):Option (Int×Int×Int×(List (List Int))×(List Int)×(List Undo))).bind fun v2=>(zcF p0 p1).bind fun v8=>if !v8 then
 some ((Vault.mk (Banks.mk v2.2.2.2.1 v2.2.2.2.2.1 v2.1) v2.2.1 v2.2.2.1 v2.2.2.2.2.2,(1:Int)))
 else
 if decide ((0:Int)<(Banks.Lost (Vault.Banks p0))) then
 some ((Vault.mk (Banks.mk v2.2.2.2.1 v2.2.2.2.2.1 v2.1) v2.2.1 v2.2.2.1 v2.2.2.2.2.2,(8:Int)))
 else
 (zaz (zca p1 v2.2.1 v2.2.2.1 v2.2.2.2.2.2 (Vault.Lst p0)) (w64 ((List.length (Vault.Lst p0):Int) - (1:Int)),v2.2.2.2.1,v2.2.2.2.2.1,v2.1,(List.length v2.2.2.2.2.2:Int)):Option ((List (List Int))×(List Int)×Int×Int)).bind fun v14=>(subO v2.2.2.2.2.2 (0:Int) v14.2.2.2).bind fun v19=>some ((Vault.mk (Banks.mk v14.1 v14.2.1 v14.2.2.1) v2.2.1 p1 v19,(0:Int)))
def zcJ:FnT:=⟨[zas,.int .i64],[zas,.int .i64],fun x=>zcm x.1 x.2⟩
def ziu:TA :=
 .sub0 [.int .i64,.int .i64,.int .i64,.sl (.sl (.int .u32)),.sl (.int .u32),.sl zcK] (.prim (.fld 0) [.v 0]<|.prim (.fld 0) [.v 2]<|.prim .len [.v 3]<|.sub0 [.sl (.sl (.int .u32))] (.loop [.int .i64,.sl (.sl (.int .u32))] [.c (.int .i64 0),.c .nil] (.prim (.bin .lss) [.v 5,.v 4]<|.ite (.v 7) (.prim .get [.v 3,.v 5]<|.prim (.clone 4) [.v 8]<|.mkL (.sl (.int .u32)) [.v 9]<|.prim (.app 24) [.v 6,.v 10]<|.prim (.bin .add) [.v 5,.c (.int .i64 1)]<|.jmp 0 true [.v 12,.v 11]) (.jmp 1 false [.v 6]))) 1<|.prim (.fld 0) [.v 0]<|.prim (.fld 1) [.v 6]<|.prim (.clone 4) [.v 7]<|.prim (.fld 3) [.v 0]<|.prim (.clone 24) [.v 9]<|.prim (.fld 0) [.v 0]<|.prim (.fld 1) [.v 0]<|.prim (.fld 2) [.v 0]<|.prim (.fld 3) [.v 0]<|.prim (.fld 0) [.v 11]<|.prim (.fld 1) [.v 11]<|.prim (.fld 2) [.v 11]<|.jmp 0 false [.v 17,.v 12,.v 13,.v 5,.v 8,.v 10]) 6<|.call 62 zbP [.v 0,.v 1] 1<|.prim (.un .not) [.v 8]<|.ite (.v 9) (.mkS zaF [.v 5,.v 6,.v 2]<|.mkS zbf [.v 10,.v 3,.v 4,.v 7]<|.jmp 0 false [.v 11,.c (.int .i64 1)]) (.prim (.fld 0) [.v 0]<|.prim (.fld 2) [.v 10]<|.prim (.bin .gtr) [.v 11,.c (.int .i64 0)]<|.ite (.v 12) (.mkS zaF [.v 5,.v 6,.v 2]<|.mkS zbf [.v 13,.v 3,.v 4,.v 7]<|.jmp 0 false [.v 14,.c (.int .i64 8)]) (.prim (.fld 3) [.v 0]<|.subp [] (.jmp 0 false []) 0<|.sub0 [.sl (.sl (.int .u32)),.sl (.int .u32),.int .i64,.int .i64] (.prim .len [.v 13]<|.prim (.bin .sub) [.v 14,.c (.int .i64 1)]<|.subp [.int .i64,.sl (.sl (.int .u32)),.sl (.int .u32),.int .i64,.int .i64] (.prim .len [.v 7]<|.jmp 0 false [.v 15,.v 5,.v 6,.v 2,.v 16]) 5<|.loop [.int .i64,.sl (.sl (.int .u32)),.sl (.int .u32),.int .i64,.int .i64] [.v 16,.v 17,.v 18,.v 19,.v 20] (.prim (.bin .lss) [.v 21,.c (.int .i64 0)]<|.ite (.v 26) (.jmp 1 false [.v 22,.v 23,.v 24,.v 25]) (.prim .get [.v 13,.v 21]<|.prim (.fld 0) [.v 27]<|.prim (.bin .lss) [.v 28,.v 1]<|.ite (.v 29) (.jmp 1 false [.v 22,.v 23,.v 24,.v 25]) (.prim (.fld 1) [.v 27]<|.prim (.fld 2) [.v 27]<|.sub0 [zan] (.mkS zaF [.v 22,.v 23,.v 24]<|.prim .sub [.v 7,.c (.int .i64 0),.v 25]<|.mkS zbf [.v 32,.v 3,.v 4,.v 33]<|.call 71 zaQ [.v 34,.v 30] 2<|.mkS zaF [.v 22,.v 23,.v 24]<|.call 110 zbK [.v 37,.v 35,.v 36,.v 31] 2<|.jmp 0 false [.v 38]) 1<|.prim .vlen [.c (.int .i64 0),.v 25]<|.prim (.bin .sub) [.v 33,.c (.int .i64 1)]<|.prim .vlen [.c (.int .i64 0),.v 25]<|.prim .rngv [.v 7,.c (.int .i64 0),.c (.int .i64 0),.v 34]<|.prim (.bin .sub) [.v 21,.c (.int .i64 1)]<|.prim (.fld 0) [.v 32]<|.prim (.fld 1) [.v 32]<|.prim (.fld 2) [.v 32]<|.jmp 0 true [.v 37,.v 38,.v 39,.v 40,.v 36])))) 4<|.mkS zaF [.v 14,.v 15,.v 16]<|.prim .sub [.v 7,.c (.int .i64 0),.v 17]<|.mkS zbf [.v 18,.v 3,.v 1,.v 19]<|.jmp 0 false [.v 20,.c (.int .i64 0)]))
theorem znQ:zaH cx 12 15=some ziu.erase:=by kernel_rfl
theorem zil:FnOk cx 12 noC 15 zcJ:=zci (t:=ziu) znQ (fun _=>rfl) (zb7 [(62,zbP),(71,zaQ),(110,zbK)] (by kernel_rfl) (.cons zfZ (.cons zc4 (.cons zfY .nil)))) (fun x=>by kernel_rfl)
def zda (x1:Int) (s:(Int×Int×(List Undo))):Option ((Int×Int×(List Undo))⊕(Int×(List Undo))) :=
 if decide (s.2.1<(List.length s.2.2:Int)) then
 (idxO (List.length s.2.2:Int) s.2.1).bind fun v18=>(getO s.2.2 v18).bind fun v19=>(if !(decide ((Undo.Span v19)<x1)) then
 (idxO (List.length s.2.2:Int) s.1).bind fun v22=>(setO s.2.2 v22 v19).bind fun v23=>some ((w64 (s.1 + (1:Int)),v23))
 else
 some ((s.1,s.2.2)):Option (Int×(List Undo))).bind fun v22=>some (Sum.inl (v22.1,w64 (s.2.1 + (1:Int)),v22.2))
 else
 some (Sum.inr ((s.1,s.2.2)))
def zc5 (x1:Int) (x7:List Undo) (x10:Int) (s:Int):Option (Int⊕Unit⊕Int) :=
 if decide (s<x10) then
 (idxO (List.length x7:Int) s).bind fun v13=>(getO x7 v13).bind fun v14=>if decide ((Undo.Span v14)<x1) then
 some (Sum.inr (Sum.inr (s)))
 else
 some (Sum.inl (w64 (s + (1:Int))))
 else
 some (Sum.inr (Sum.inl ()))
def zep (p0:Vault) (p1:Int):Option (Vault×Int) :=
 (let v3:List (List Int):=Banks.Rows (Vault.Banks p0)
 let v4:Int:=(List.length v3:Int)
 (zaz (zbA v3 v4) ((0:Int),([]:List (List Int))):Option (List (List Int))).bind fun v5=>(zaO 4 (Banks.Par (Vault.Banks p0))).bind fun v8=>(zaO 24 (Vault.Lst p0)).bind fun v10=>some ((Banks.Lost (Vault.Banks p0),Vault.Words p0,Vault.Span p0,v5,v8,v10)):Option (Int×Int×Int×(List (List Int))×(List Int)×(List Undo))).bind fun v2=>(zcF p0 p1).bind fun v8=>if !v8 then
 some ((Vault.mk (Banks.mk v2.2.2.2.1 v2.2.2.2.2.1 v2.1) v2.2.1 v2.2.2.1 v2.2.2.2.2.2,(1:Int)))
 else
 ((let v10:Int:=(List.length v2.2.2.2.2.2:Int)
 zbc (zaz (zc5 p1 v2.2.2.2.2.2 v10) (0:Int):Option (Unit⊕Int)) fun v11=>some ((-1:Int)):Option Int).bind fun v10=>if decide (v10=(-1:Int)) then
 some (((List.length v2.2.2.2.2.2:Int),v2.2.2.2.2.2))
 else
 (zaz (zda p1) (v10,w64 (v10 + (1:Int)),v2.2.2.2.2.2):Option (Int×(List Undo))).bind fun v13=>(rngO (List.length v13.2:Int) v13.1 (List.length v13.2:Int)).bind fun v16=>(subO v13.2 v13.1 v16).bind fun v17=>(zrw v13.2 v13.1 v16 (List.replicate (List.length v17) (Undo.mk (0:Int) (0:Int) (0:Int)))).bind fun v19=>(rngO (List.length v19:Int) (0:Int) v13.1).bind fun v21=>some ((v21,v19)):Option (Int×(List Undo))).bind fun v10=>(subO v10.2 (0:Int) v10.1).bind fun v13=>some ((Vault.mk (Banks.mk v2.2.2.2.1 v2.2.2.2.2.1 v2.1) v2.2.1 v2.2.2.1 v13,(0:Int)))
def zfl:FnT:=⟨[zas,.int .i64],[zas,.int .i64],fun x=>zep x.1 x.2⟩
def ziK:TA :=
 .sub0 [.int .i64,.int .i64,.int .i64,.sl (.sl (.int .u32)),.sl (.int .u32),.sl zcK] (.prim (.fld 0) [.v 0]<|.prim (.fld 0) [.v 2]<|.prim .len [.v 3]<|.sub0 [.sl (.sl (.int .u32))] (.loop [.int .i64,.sl (.sl (.int .u32))] [.c (.int .i64 0),.c .nil] (.prim (.bin .lss) [.v 5,.v 4]<|.ite (.v 7) (.prim .get [.v 3,.v 5]<|.prim (.clone 4) [.v 8]<|.mkL (.sl (.int .u32)) [.v 9]<|.prim (.app 24) [.v 6,.v 10]<|.prim (.bin .add) [.v 5,.c (.int .i64 1)]<|.jmp 0 true [.v 12,.v 11]) (.jmp 1 false [.v 6]))) 1<|.prim (.fld 0) [.v 0]<|.prim (.fld 1) [.v 6]<|.prim (.clone 4) [.v 7]<|.prim (.fld 3) [.v 0]<|.prim (.clone 24) [.v 9]<|.prim (.fld 0) [.v 0]<|.prim (.fld 1) [.v 0]<|.prim (.fld 2) [.v 0]<|.prim (.fld 3) [.v 0]<|.prim (.fld 0) [.v 11]<|.prim (.fld 1) [.v 11]<|.prim (.fld 2) [.v 11]<|.jmp 0 false [.v 17,.v 12,.v 13,.v 5,.v 8,.v 10]) 6<|.call 62 zbP [.v 0,.v 1] 1<|.prim (.un .not) [.v 8]<|.ite (.v 9) (.mkS zaF [.v 5,.v 6,.v 2]<|.mkS zbf [.v 10,.v 3,.v 4,.v 7]<|.jmp 0 false [.v 11,.c (.int .i64 1)]) (.sub0 [.int .i64,.sl zcK] (.sub0 [.int .i64] (.prim .len [.v 7]<|.sub1 [] (.loop [.int .i64] [.c (.int .i64 0)] (.prim (.bin .lss) [.v 11,.v 10]<|.ite (.v 12) (.prim .idx [.v 7,.v 11]<|.prim .get [.v 7,.v 13]<|.subp [.bool] (.prim (.fld 0) [.v 14]<|.prim (.bin .lss) [.v 15,.v 1]<|.jmp 0 false [.v 16]) 1<|.ite (.v 15) (.jmp 2 false [.v 11]) (.prim (.bin .add) [.v 11,.c (.int .i64 1)]<|.jmp 0 true [.v 16])) (.jmp 1 false []))) 0<|.jmp 0 false [.c (.int .i64 (-1))]) 1<|.prim (.bin .eql) [.v 10,.c (.int .i64 (-1))]<|.ite (.v 11) (.prim .len [.v 7]<|.jmp 0 false [.v 12,.v 7]) (.prim (.bin .add) [.v 10,.c (.int .i64 1)]<|.sub0 [.int .i64,.sl zcK] (.loop [.int .i64,.int .i64,.sl zcK] [.v 10,.v 12,.v 7] (.prim .len [.v 15]<|.prim (.bin .lss) [.v 14,.v 16]<|.ite (.v 17) (.prim .idx [.v 15,.v 14]<|.prim .get [.v 15,.v 18]<|.subp [.bool] (.prim (.fld 0) [.v 19]<|.prim (.bin .lss) [.v 20,.v 1]<|.jmp 0 false [.v 21]) 1<|.prim (.un .not) [.v 20]<|.sub0 [.int .i64,.sl zcK] (.ite (.v 21) (.prim .idx [.v 15,.v 13]<|.prim .set [.v 15,.v 22,.v 19]<|.prim (.bin .add) [.v 13,.c (.int .i64 1)]<|.jmp 0 false [.v 24,.v 23]) (.jmp 0 false [.v 13,.v 15])) 2<|.prim (.bin .add) [.v 14,.c (.int .i64 1)]<|.jmp 0 true [.v 22,.v 24,.v 23]) (.jmp 1 false [.v 13,.v 15]))) 2<|.prim .len [.v 14]<|.prim .rng [.v 14,.v 13,.v 15]<|.prim .sub [.v 14,.v 13,.v 16]<|.prim (.clr (.agg [(.int .i64 0),(.int .i64 0),(.int .u32 0)])) [.v 17]<|.prim .cpyv [.v 14,.v 13,.v 16,.v 18]<|.prim .len [.v 19]<|.prim .rng [.v 19,.c (.int .i64 0),.v 13]<|.jmp 0 false [.v 21,.v 19])) 2<|.mkS zaF [.v 5,.v 6,.v 2]<|.prim .sub [.v 11,.c (.int .i64 0),.v 10]<|.mkS zbf [.v 12,.v 3,.v 4,.v 13]<|.jmp 0 false [.v 14,.c (.int .i64 0)])
theorem znf:zaH cx 12 17=some ziK.erase:=by kernel_rfl
theorem zoz:FnOk cx 12 noC 17 zfl:=zci (t:=ziK) znf (fun _=>rfl) (zb7 [(62,zbP)] (by kernel_rfl) (.cons zfZ .nil)) (fun x=>by kernel_rfl)
def zfT (p0:Vault) (p1:Int):Option (Int×Int) :=
 (zdu p0 p1).bind fun v2=>if !v2 then
 some (((0:Int),(1:Int)))
 else
 (zbd p0 p1).bind fun v4=>(zdy (Vault.Banks p0) v4.1 v4.2).bind fun v7=>some ((v7.1,v7.2))
def zfq:FnT:=⟨[zas,.int .i64],[.int .u32,.int .i64],fun x=>zfT x.1 x.2⟩
def ziQ:TA :=
 .call 54 zcc [.v 0,.v 1] 1<|.prim (.un .not) [.v 2]<|.ite (.v 3) (.jmp 0 false [.c (.int .u32 0),.c (.int .i64 1)]) (.call 71 zaQ [.v 0,.v 1] 2<|.prim (.fld 0) [.v 0]<|.call 72 zeN [.v 6,.v 4,.v 5] 2<|.jmp 0 false [.v 7,.v 8])
theorem zn8:zaH cx 12 21=some ziQ.erase:=by kernel_rfl
theorem znp:FnOk cx 12 noC 21 zfq:=zci (t:=ziQ) zn8 (fun _=>rfl) (zb7 [(54,zcc),(71,zaQ),(72,zeN)] (by kernel_rfl) (.cons zgT (.cons zc4 (.cons zmC .nil)))) (fun x=>by kernel_rfl)
def zen (p0:Vault) (p1:Int):Option (Vault×Int) :=
 (let v3:List (List Int):=Banks.Rows (Vault.Banks p0)
 let v4:Int:=(List.length v3:Int)
 (zaz (zbA v3 v4) ((0:Int),([]:List (List Int))):Option (List (List Int))).bind fun v5=>(zaO 4 (Banks.Par (Vault.Banks p0))).bind fun v8=>(zaO 24 (Vault.Lst p0)).bind fun v10=>some ((Banks.Lost (Vault.Banks p0),Vault.Words p0,Vault.Span p0,v5,v8,v10)):Option (Int×Int×Int×(List (List Int))×(List Int)×(List Undo))).bind fun v2=>(zaT p0).bind fun v8=>if !v8 then
 some ((Vault.mk (Banks.mk v2.2.2.2.1 v2.2.2.2.2.1 v2.1) v2.2.1 v2.2.2.1 v2.2.2.2.2.2,(1:Int)))
 else
 (zdp (Vault.Banks p0) p1).bind fun v11=>some ((Vault.mk v11.1 v2.2.1 v2.2.2.1 v2.2.2.2.2.2,v11.2))
def zfk:FnT:=⟨[zas,.int .i64],[zas,.int .i64],fun x=>zen x.1 x.2⟩
def ziH:TA :=
 .sub0 [.int .i64,.int .i64,.int .i64,.sl (.sl (.int .u32)),.sl (.int .u32),.sl zcK] (.prim (.fld 0) [.v 0]<|.prim (.fld 0) [.v 2]<|.prim .len [.v 3]<|.sub0 [.sl (.sl (.int .u32))] (.loop [.int .i64,.sl (.sl (.int .u32))] [.c (.int .i64 0),.c .nil] (.prim (.bin .lss) [.v 5,.v 4]<|.ite (.v 7) (.prim .get [.v 3,.v 5]<|.prim (.clone 4) [.v 8]<|.mkL (.sl (.int .u32)) [.v 9]<|.prim (.app 24) [.v 6,.v 10]<|.prim (.bin .add) [.v 5,.c (.int .i64 1)]<|.jmp 0 true [.v 12,.v 11]) (.jmp 1 false [.v 6]))) 1<|.prim (.fld 0) [.v 0]<|.prim (.fld 1) [.v 6]<|.prim (.clone 4) [.v 7]<|.prim (.fld 3) [.v 0]<|.prim (.clone 24) [.v 9]<|.prim (.fld 0) [.v 0]<|.prim (.fld 1) [.v 0]<|.prim (.fld 2) [.v 0]<|.prim (.fld 3) [.v 0]<|.prim (.fld 0) [.v 11]<|.prim (.fld 1) [.v 11]<|.prim (.fld 2) [.v 11]<|.jmp 0 false [.v 17,.v 12,.v 13,.v 5,.v 8,.v 10]) 6<|.call 24 zal [.v 0] 1<|.prim (.un .not) [.v 8]<|.ite (.v 9) (.mkS zaF [.v 5,.v 6,.v 2]<|.mkS zbf [.v 10,.v 3,.v 4,.v 7]<|.jmp 0 false [.v 11,.c (.int .i64 1)]) (.prim (.fld 0) [.v 0]<|.call 78 zeR [.v 10,.v 1] 2<|.mkS zbf [.v 11,.v 3,.v 4,.v 7]<|.jmp 0 false [.v 13,.v 12])
theorem znN:zaH cx 12 29=some ziH.erase:=by kernel_rfl
theorem znt:FnOk cx 12 noC 29 zfk:=zci (t:=ziH) znN (fun _=>rfl) (zb7 [(24,zal),(78,zeR)] (by kernel_rfl) (.cons zbe (.cons zmD .nil))) (fun x=>by kernel_rfl)
def zcx (x0:Vault) (x1:Int) (x14:List Undo) (x15:Int) (s:Int):Option (Int⊕Unit⊕Int) :=
 if decide (s<x15) then
 (getO x14 s).bind fun v18=>if (decide ((Undo.Span v18)=(Vault.Span x0)))&&(decide ((Undo.At v18)=x1)) then
 some (Sum.inr (Sum.inr (s)))
 else
 some (Sum.inl (w64 (s + (1:Int))))
 else
 some (Sum.inr (Sum.inl ()))
def zbX (p0:Vault) (p1:Int) (p2:Int):Option (Vault×Int) :=
 (let v4:List (List Int):=Banks.Rows (Vault.Banks p0)
 let v5:Int:=(List.length v4:Int)
 (zaz (zbB v4 v5) ((0:Int),([]:List (List Int))):Option (List (List Int))).bind fun v6=>(zaO 4 (Banks.Par (Vault.Banks p0))).bind fun v9=>(zaO 24 (Vault.Lst p0)).bind fun v11=>some ((Banks.Lost (Vault.Banks p0),Vault.Words p0,Vault.Span p0,v6,v9,v11)):Option (Int×Int×Int×(List (List Int))×(List Int)×(List Undo))).bind fun v3=>(zdu p0 p1).bind fun v9=>if !v9 then
 some ((Vault.mk (Banks.mk v3.2.2.2.1 v3.2.2.2.2.1 v3.1) v3.2.1 v3.2.2.1 v3.2.2.2.2.2,(1:Int)))
 else
 if decide ((0:Int)<(Banks.Lost (Vault.Banks p0))) then
 some ((Vault.mk (Banks.mk v3.2.2.2.1 v3.2.2.2.2.1 v3.1) v3.2.1 v3.2.2.1 v3.2.2.2.2.2,(8:Int)))
 else
 ((let v15:Int:=(List.length (Vault.Lst p0):Int)
 zbc (zaz (zcx p0 p1 (Vault.Lst p0) v15) (0:Int):Option (Unit⊕Int)) fun v16=>some ((-1:Int)):Option Int).bind fun v15=>some ((decide ((0:Int)≤v15))):Option Bool).bind fun v15=>if (!v15)&&(decide ((List.length (Vault.Lst p0):Int)=(256:Int))) then
 some ((Vault.mk (Banks.mk v3.2.2.2.1 v3.2.2.2.2.1 v3.1) v3.2.1 v3.2.2.1 v3.2.2.2.2.2,(6:Int)))
 else
 (if !v15 then
 (zfT p0 p1).bind fun v18=>(appO 24 v3.2.2.2.2.2 ([Undo.mk (Vault.Span p0) p1 v18.1]:List Undo)).bind fun v23=>some (v23)
 else
 some (v3.2.2.2.2.2):Option (List Undo)).bind fun v18=>((zbd (Vault.mk (Banks.mk v3.2.2.2.1 v3.2.2.2.2.1 v3.1) v3.2.1 v3.2.2.1 v18) p1).bind fun v21=>(zbw (Banks.mk v3.2.2.2.1 v3.2.2.2.2.1 v3.1) v21.1 v21.2 p2).bind fun v24=>some (v24.1):Option Banks).bind fun v19=>some ((Vault.mk v19 v3.2.1 v3.2.2.1 v18,(0:Int)))
def zb4:FnT:=⟨[zas,.int .i64,.int .u32],[zas,.int .i64],fun x=>zbX x.1 x.2.1 x.2.2⟩
def zhd:TA :=
 .sub0 [.int .i64,.int .i64,.int .i64,.sl (.sl (.int .u32)),.sl (.int .u32),.sl zcK] (.prim (.fld 0) [.v 0]<|.prim (.fld 0) [.v 3]<|.prim .len [.v 4]<|.sub0 [.sl (.sl (.int .u32))] (.loop [.int .i64,.sl (.sl (.int .u32))] [.c (.int .i64 0),.c .nil] (.prim (.bin .lss) [.v 6,.v 5]<|.ite (.v 8) (.prim .get [.v 4,.v 6]<|.prim (.clone 4) [.v 9]<|.mkL (.sl (.int .u32)) [.v 10]<|.prim (.app 24) [.v 7,.v 11]<|.prim (.bin .add) [.v 6,.c (.int .i64 1)]<|.jmp 0 true [.v 13,.v 12]) (.jmp 1 false [.v 7]))) 1<|.prim (.fld 0) [.v 0]<|.prim (.fld 1) [.v 7]<|.prim (.clone 4) [.v 8]<|.prim (.fld 3) [.v 0]<|.prim (.clone 24) [.v 10]<|.prim (.fld 0) [.v 0]<|.prim (.fld 1) [.v 0]<|.prim (.fld 2) [.v 0]<|.prim (.fld 3) [.v 0]<|.prim (.fld 0) [.v 12]<|.prim (.fld 1) [.v 12]<|.prim (.fld 2) [.v 12]<|.jmp 0 false [.v 18,.v 13,.v 14,.v 6,.v 9,.v 11]) 6<|.call 54 zcc [.v 0,.v 1] 1<|.prim (.un .not) [.v 9]<|.ite (.v 10) (.mkS zaF [.v 6,.v 7,.v 3]<|.mkS zbf [.v 11,.v 4,.v 5,.v 8]<|.jmp 0 false [.v 12,.c (.int .i64 1)]) (.prim (.fld 0) [.v 0]<|.prim (.fld 2) [.v 11]<|.prim (.bin .gtr) [.v 12,.c (.int .i64 0)]<|.ite (.v 13) (.mkS zaF [.v 6,.v 7,.v 3]<|.mkS zbf [.v 14,.v 4,.v 5,.v 8]<|.jmp 0 false [.v 15,.c (.int .i64 8)]) (.prim (.fld 3) [.v 0]<|.sub0 [.bool] (.sub0 [.int .i64] (.prim .len [.v 14]<|.sub1 [] (.loop [.int .i64] [.c (.int .i64 0)] (.prim (.bin .lss) [.v 16,.v 15]<|.ite (.v 17) (.prim .get [.v 14,.v 16]<|.subp [.bool] (.subp [.bool] (.prim (.fld 0) [.v 18]<|.prim (.fld 2) [.v 0]<|.prim (.bin .eql) [.v 19,.v 20]<|.ite (.v 21) (.prim (.fld 1) [.v 18]<|.prim (.bin .eql) [.v 22,.v 1]<|.jmp 0 false [.v 23]) (.jmp 0 false [.c (.bool false)])) 1<|.jmp 0 false [.v 19]) 1<|.ite (.v 19) (.jmp 2 false [.v 16]) (.prim (.bin .add) [.v 16,.c (.int .i64 1)]<|.jmp 0 true [.v 20])) (.jmp 1 false []))) 0<|.jmp 0 false [.c (.int .i64 (-1))]) 1<|.prim (.bin .geq) [.v 15,.c (.int .i64 0)]<|.jmp 0 false [.v 16]) 1<|.subp [.bool] (.prim (.un .not) [.v 15]<|.ite (.v 16) (.prim (.fld 3) [.v 0]<|.prim .len [.v 17]<|.prim (.bin .eql) [.v 18,.c (.int .i64 256)]<|.jmp 0 false [.v 19]) (.jmp 0 false [.c (.bool false)])) 1<|.ite (.v 16) (.mkS zaF [.v 6,.v 7,.v 3]<|.mkS zbf [.v 17,.v 4,.v 5,.v 8]<|.jmp 0 false [.v 18,.c (.int .i64 6)]) (.prim (.un .not) [.v 15]<|.sub0 [.sl zcK] (.ite (.v 17) (.call 21 zfq [.v 0,.v 1] 2<|.prim (.fld 2) [.v 0]<|.mkS zuR [.v 20,.v 1,.v 18]<|.mkL zcK [.v 21]<|.prim (.app 24) [.v 8,.v 22]<|.jmp 0 false [.v 23]) (.jmp 0 false [.v 8])) 1<|.sub0 [zan] (.mkS zaF [.v 6,.v 7,.v 3]<|.mkS zbf [.v 19,.v 4,.v 5,.v 18]<|.call 71 zaQ [.v 20,.v 1] 2<|.mkS zaF [.v 6,.v 7,.v 3]<|.call 110 zbK [.v 23,.v 21,.v 22,.v 2] 2<|.jmp 0 false [.v 24]) 1<|.mkS zbf [.v 19,.v 4,.v 5,.v 18]<|.jmp 0 false [.v 20,.c (.int .i64 0)])))
theorem zmL:zaH cx 12 12=some zhd.erase:=by kernel_rfl
theorem zg7:FnOk cx 12 noC 12 zb4:=zci (t:=zhd) zmL (fun _=>rfl) (zb7 [(54,zcc),(21,zfq),(71,zaQ),(110,zbK)] (by kernel_rfl) (.cons zgT (.cons znp (.cons zc4 (.cons zfY .nil))))) (fun x=>by kernel_rfl)
def zjM:Bool:=true
def zga:PnT:=⟨[],[.bool],fun _=>zjM⟩
theorem zoU:FnOk cx 12 noC 10 zga.fn:=fun ds x r hx hr=>by
 have hx:ds=[]:=hx
 subst hx
 exact ⟨[.bool true],zui 100 12 (by kernel_rfl),.bool true,rfl,congrArg D.bool (Option.some.inj hr)⟩
end Go.Proofs.Ytlgjbfdojbmmgaa
