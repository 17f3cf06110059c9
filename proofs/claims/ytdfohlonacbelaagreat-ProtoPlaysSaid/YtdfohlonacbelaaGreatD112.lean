import Derived.Test.YtdfohlonacbelaaGreatD111
set_option linter.unusedVariables false
set_option maxRecDepth 100000
noncomputable section
namespace Go.Proofs.YtdfohlonacbelaaGreat
open Go.SX
def zmn (p0:Entry) (p1:Int):Option (Entry×Int) :=
 (zkL p0 p1).bind fun v2=>if !v2 then
 some (p0,1)
 else
 if !decide ((Entry.Owner p0)=(w64 (p1 + (1:Int)))) then
 some (p0,7)
 else
 some ((Entry.mk (0:Int) (Entry.Share p0),(0:Int)))
def zlv:FnT:=⟨[zan,.int .i64],[zan,.int .i64],fun x=>zmn x.1 x.2⟩
def zkK:TA :=
 .call 109 zd2 [.v 0,.v 1] 1<|.prim (.un .not) [.v 2]<|.ite (.v 3) (.jmp 0 false [.v 0,.c (.int .i64 1)]) (.prim (.fld 0) [.v 0]<|.prim (.bin .add) [.v 1,.c (.int .i64 1)]<|.prim (.bin .neq) [.v 4,.v 5]<|.ite (.v 6) (.jmp 0 false [.v 0,.c (.int .i64 7)]) (.prim (.fld 1) [.v 0]<|.mkS zbl [.c (.int .i64 0),.v 7]<|.jmp 0 false [.v 8,.c (.int .i64 0)]))
theorem zql:zad cx 12 77=some zkK.erase:=by kernel_rfl
theorem zwx:zAH cx 12 noC 77 zlv:=zaA (t:=zkK) zql (fun _=>rfl) (zau [(109,zd2)] (by kernel_rfl) (.cons znZ .nil)) (fun x=>by kernel_rfl)
def zdO (p0:Pool) (p1:Int):Option Int :=
 (zcZ p0).bind fun v2=>if !v2 then
 some ((1:Int))
 else
 if (decide (p1<(0:Int)))||(decide ((List.length (Pool.Frames p0):Int)≤p1)) then
 some ((7:Int))
 else
 some ((0:Int))
def zlq:FnT:=⟨[zaJ,.int .i64],[.int .i64],fun x=>zdO x.1 x.2⟩
def zlG:TA :=
 .call 48 zbi [.v 0] 1<|.prim (.un .not) [.v 2]<|.ite (.v 3) (.jmp 0 false [.c (.int .i64 1)]) (.subp [.bool] (.prim (.bin .lss) [.v 1,.c (.int .i64 0)]<|.ite (.v 4) (.jmp 0 false [.c (.bool true)]) (.prim (.fld 0) [.v 0]<|.prim .len [.v 5]<|.prim (.bin .geq) [.v 1,.v 6]<|.jmp 0 false [.v 7])) 1<|.ite (.v 4) (.jmp 0 false [.c (.int .i64 7)]) (.jmp 0 false [.c (.int .i64 0)]))
theorem zpM:zad cx 12 88=some zlG.erase:=by kernel_rfl
theorem zv0:zAH cx 12 noC 88 zlq:=zaA (t:=zlG) zpM (fun _=>rfl) (zau [(48,zbi)] (by kernel_rfl) (.cons zeG .nil)) (fun x=>by kernel_rfl)
def zeM (x6:List Int) (x7:Int) (s:Int):Option (Int⊕Unit⊕Int) :=
 if decide (s<x7) then
 (zAG (x6.length:Int) s).bind fun v10=>(zAF x6 v10).bind fun v11=>if ziK v11 then
 some (Sum.inr (Sum.inr (s)))
 else
 some (Sum.inl (w64 (s + (1:Int))))
 else
 some (Sum.inr (Sum.inl ()))
def zfE (p0:Msg):Option Bool :=
 let v6:List Int:=([Msg.From p0,Msg.To p0,Msg.Line p0,Msg.For p0,Msg.Acks p0]:List Int)
 ((let v7:Int:=(v6.length:Int)
 zaO (zaf (zeM v6 v7) (0:Int):Option (Unit⊕Int)) fun v8=>some ((-1:Int)):Option Int).bind fun v7=>some ((decide ((0:Int)≤v7))):Option Bool).bind fun v7=>some (((!v7)&&((decide ((1:Int)≤(Msg.Kind p0)))&&(decide ((Msg.Kind p0)≤(11:Int))))))
def zeo:FnT:=⟨[zAR],[.bool],fun x=>zfE x⟩
def ziP:TA :=
 .prim (.fld 1) [.v 0]<|.prim (.fld 2) [.v 0]<|.prim (.fld 3) [.v 0]<|.prim (.fld 4) [.v 0]<|.prim (.fld 5) [.v 0]<|.mkL (.int .i64) [.v 1,.v 2,.v 3,.v 4,.v 5]<|.sub0 [.bool] (.sub0 [.int .i64] (.prim .len [.v 6]<|.sub1 [] (.loop [.int .i64] [.c (.int .i64 0)] (.prim (.bin .lss) [.v 8,.v 7]<|.ite (.v 9) (.prim .idx [.v 6,.v 8]<|.prim .get [.v 6,.v 10]<|.callp 116 zfQ [.v 11] 1<|.ite (.v 12) (.jmp 2 false [.v 8]) (.prim (.bin .add) [.v 8,.c (.int .i64 1)]<|.jmp 0 true [.v 13])) (.jmp 1 false []))) 0<|.jmp 0 false [.c (.int .i64 (-1))]) 1<|.prim (.bin .geq) [.v 7,.c (.int .i64 0)]<|.jmp 0 false [.v 8]) 1<|.prim (.un .not) [.v 7]<|.subp [.bool] (.ite (.v 8) (.prim (.fld 0) [.v 0]<|.prim (.bin .geq) [.v 9,.c (.int .i64 1)]<|.ite (.v 10) (.prim (.fld 0) [.v 0]<|.prim (.bin .leq) [.v 11,.c (.int .i64 11)]<|.jmp 0 false [.v 12]) (.jmp 0 false [.c (.bool false)])) (.jmp 0 false [.c (.bool false)])) 1<|.jmp 0 false [.v 9]
theorem znz:zad cx 12 93=some ziP.erase:=by kernel_rfl
theorem zok:zAH cx 12 noC 93 zeo:=zaA (t:=ziP) znz (fun _=>rfl) (zau [(116,zfQ.fn)] (by kernel_rfl) (.cons zrm .nil)) (fun x=>by kernel_rfl)
def zik (x1:Int) (x3:List Bool) (x7:Int) (s:(Int×(List Int))):Option ((Int×(List Int))⊕(List Int)) :=
 if decide (s.1<x7) then
 (zAG (x3.length:Int) s.1).bind fun v11=>(zAF x3 v11).bind fun v12=>(if v12&&(!decide (s.1=x1)) then
 (zAK 8 s.2 ([s.1]:List Int)).bind fun v15=>some v15
 else
 some (s.2):Option (List Int)).bind fun v14=>some (Sum.inl (w64 (s.1 + (1:Int)),v14))
 else
 some (Sum.inr (s.2))
def zck (p0:Entry) (p1:Int):Option (Entry×Int×(List Int)×Int) :=
 ((zaC 1 (Entry.Share p0)).bind fun v3=>some ((Entry.Owner p0,v3)):Option (Int×(List Bool))).bind fun v2=>(ze5 (Entry.mk v2.1 v2.2) p1).bind fun v5=>if !v5 then
 some ((Entry.mk v2.1 v2.2,(0:Int),([]:List Int),(1:Int)))
 else
 (let v7:Int:=(List.length v2.2:Int)
 (zaf (zik p1 v2.2 v7) ((0:Int),([]:List Int)):Option (List Int)).bind fun v8=>some (v8):Option (List Int)).bind fun v7=>some ((Entry.mk (w64 (p1 + (1:Int))) (List.replicate (List.length v2.2) false),v2.1,v7,(0:Int)))
def zfI:FnT:=⟨[zan,.int .i64],[zan,.int .i64,.sl (.int .i64),.int .i64],fun x=>zck x.1 x.2⟩
def zgn:TA :=
 .sub0 [.int .i64,.sl .bool] (.prim (.fld 1) [.v 0]<|.prim (.clone 1) [.v 2]<|.prim (.fld 0) [.v 0]<|.prim (.fld 1) [.v 0]<|.jmp 0 false [.v 4,.v 3]) 2<|.mkS zbl [.v 2,.v 3]<|.call 101 zco [.v 4,.v 1] 1<|.prim (.un .not) [.v 5]<|.ite (.v 6) (.mkS zbl [.v 2,.v 3]<|.jmp 0 false [.v 7,.c (.int .i64 0),.c .nil,.c (.int .i64 1)]) (.sub0 [.sl (.int .i64)] (.prim .len [.v 3]<|.sub0 [.sl (.int .i64)] (.loop [.int .i64,.sl (.int .i64)] [.c (.int .i64 0),.c .nil] (.prim (.bin .lss) [.v 8,.v 7]<|.ite (.v 10) (.prim .idx [.v 3,.v 8]<|.prim .get [.v 3,.v 11]<|.subp [.bool] (.ite (.v 12) (.prim (.bin .neq) [.v 8,.v 1]<|.jmp 0 false [.v 13]) (.jmp 0 false [.c (.bool false)])) 1<|.sub0 [.sl (.int .i64)] (.ite (.v 13) (.mkL (.int .i64) [.v 8]<|.prim (.app 8) [.v 9,.v 14]<|.jmp 0 false [.v 15]) (.jmp 0 false [.v 9])) 1<|.prim (.bin .add) [.v 8,.c (.int .i64 1)]<|.jmp 0 true [.v 15,.v 14]) (.jmp 1 false [.v 9]))) 1<|.jmp 0 false [.v 8]) 1<|.prim (.bin .add) [.v 1,.c (.int .i64 1)]<|.prim (.clr (.bool false)) [.v 3]<|.mkS zbl [.v 8,.v 9]<|.jmp 0 false [.v 10,.v 2,.v 7,.c (.int .i64 0)])
theorem zjL:zad cx 12 97=some zgn.erase:=by kernel_rfl
theorem zqU:zAH cx 12 noC 97 zfI:=zaA (t:=zgn) zjL (fun _=>rfl) (zau [(101,zco)] (by kernel_rfl) (.cons ziI .nil)) (fun x=>by kernel_rfl)
def zb3 (x1:Int) (x3:List Bool) (x8:Int) (s:(Int×(List Int))):Option ((Int×(List Int))⊕(List Int)) :=
 if decide (s.1<x8) then
 (zAG (x3.length:Int) s.1).bind fun v12=>(zAF x3 v12).bind fun v13=>(if v13&&(!decide (s.1=x1)) then
 (zAK 8 s.2 ([s.1]:List Int)).bind fun v16=>some v16
 else
 some (s.2):Option (List Int)).bind fun v15=>some (Sum.inl (w64 (s.1 + (1:Int)),v15))
 else
 some (Sum.inr (s.2))
def zc5 (p0:Entry) (p1:Int):Option (Entry×Int×Int) :=
 ((zaC 1 (Entry.Share p0)).bind fun v3=>some ((Entry.Owner p0,v3)):Option (Int×(List Bool))).bind fun v2=>(ze5 (Entry.mk v2.1 v2.2) p1).bind fun v5=>if !v5 then
 some ((Entry.mk v2.1 v2.2,(0:Int),(1:Int)))
 else
 (if decide (v2.1=(0:Int)) then
 (let v8:Int:=(List.length v2.2:Int)
 (zaf (zb3 p1 v2.2 v8) ((0:Int),([]:List Int)):Option (List Int)).bind fun v9=>some (v9):Option (List Int)).bind fun v8=>some ((decide ((v8.length:Int)=(0:Int))))
 else
 some (false):Option Bool).bind fun v7=>(if v7 then
 (zAG (List.length v2.2:Int) p1).bind fun v9=>(zAI v2.2 v9 false).bind fun v10=>some ((w64 (p1 + (1:Int)),v10))
 else
 (if !decide (v2.1=(w64 (p1 + (1:Int)))) then
 (zAG (List.length v2.2:Int) p1).bind fun v10=>(zAI v2.2 v10 true).bind fun v11=>some v11
 else
 some (v2.2):Option (List Bool)).bind fun v10=>some ((v2.1,v10)):Option (Int×(List Bool))).bind fun v8=>some ((Entry.mk v8.1 v8.2,v2.1,(0:Int)))
def zg7:FnT:=⟨[zan,.int .i64],[zan,.int .i64,.int .i64],fun x=>zc5 x.1 x.2⟩
def zg0:TA :=
 .sub0 [.int .i64,.sl .bool] (.prim (.fld 1) [.v 0]<|.prim (.clone 1) [.v 2]<|.prim (.fld 0) [.v 0]<|.prim (.fld 1) [.v 0]<|.jmp 0 false [.v 4,.v 3]) 2<|.mkS zbl [.v 2,.v 3]<|.call 101 zco [.v 4,.v 1] 1<|.prim (.un .not) [.v 5]<|.ite (.v 6) (.mkS zbl [.v 2,.v 3]<|.jmp 0 false [.v 7,.c (.int .i64 0),.c (.int .i64 1)]) (.sub0 [.bool] (.prim (.bin .eql) [.v 2,.c (.int .i64 0)]<|.ite (.v 7) (.sub0 [.sl (.int .i64)] (.prim .len [.v 3]<|.sub0 [.sl (.int .i64)] (.loop [.int .i64,.sl (.int .i64)] [.c (.int .i64 0),.c .nil] (.prim (.bin .lss) [.v 9,.v 8]<|.ite (.v 11) (.prim .idx [.v 3,.v 9]<|.prim .get [.v 3,.v 12]<|.subp [.bool] (.ite (.v 13) (.prim (.bin .neq) [.v 9,.v 1]<|.jmp 0 false [.v 14]) (.jmp 0 false [.c (.bool false)])) 1<|.sub0 [.sl (.int .i64)] (.ite (.v 14) (.mkL (.int .i64) [.v 9]<|.prim (.app 8) [.v 10,.v 15]<|.jmp 0 false [.v 16]) (.jmp 0 false [.v 10])) 1<|.prim (.bin .add) [.v 9,.c (.int .i64 1)]<|.jmp 0 true [.v 16,.v 15]) (.jmp 1 false [.v 10]))) 1<|.jmp 0 false [.v 9]) 1<|.prim .len [.v 8]<|.prim (.bin .eql) [.v 9,.c (.int .i64 0)]<|.jmp 0 false [.v 10]) (.jmp 0 false [.c (.bool false)])) 1<|.sub0 [.int .i64,.sl .bool] (.ite (.v 7) (.prim (.bin .add) [.v 1,.c (.int .i64 1)]<|.prim .idx [.v 3,.v 1]<|.prim .set [.v 3,.v 9,.c (.bool false)]<|.jmp 0 false [.v 8,.v 10]) (.prim (.bin .add) [.v 1,.c (.int .i64 1)]<|.prim (.bin .neq) [.v 2,.v 8]<|.sub0 [.sl .bool] (.ite (.v 9) (.prim .idx [.v 3,.v 1]<|.prim .set [.v 3,.v 10,.c (.bool true)]<|.jmp 0 false [.v 11]) (.jmp 0 false [.v 3])) 1<|.jmp 0 false [.v 2,.v 10])) 2<|.mkS zbl [.v 8,.v 9]<|.jmp 0 false [.v 10,.v 2,.c (.int .i64 0)])
theorem zl3:zad cx 12 98=some zg0.erase:=by kernel_rfl
theorem zs4:zAH cx 12 noC 98 zg7:=zaA (t:=zg0) zl3 (fun _=>rfl) (zau [(101,zco)] (by kernel_rfl) (.cons ziI .nil)) (fun x=>by kernel_rfl)
def zbT (p0:Entry):Option Bool :=
 ((zfb p0 (List.length (Entry.Share p0):Int)).bind fun v3=>if v3 then
 if decide ((0:Int)<(Entry.Owner p0)) then
 (zaX (Entry.Share p0) true).bind fun v7=>some ((!v7))
 else
 some (false)
 else
 some (false):Option Bool).bind fun v1=>some v1
def zgw:FnT:=⟨[zan],[.bool],fun x=>zbT x⟩
def zgr:TA :=
 .sub0 [.bool] (.prim (.fld 1) [.v 0]<|.prim .len [.v 1]<|.call 52 zct [.v 0,.v 2] 1<|.ite (.v 3) (.prim (.fld 0) [.v 0]<|.prim (.bin .gtr) [.v 4,.c (.int .i64 0)]<|.ite (.v 5) (.prim (.fld 1) [.v 0]<|.call 123 zbe [.v 6,.c (.bool true)] 1<|.prim (.un .not) [.v 7]<|.jmp 0 false [.v 8]) (.jmp 0 false [.c (.bool false)])) (.jmp 0 false [.c (.bool false)])) 1<|.jmp 0 false [.v 1]
theorem zjz:zad cx 12 99=some zgr.erase:=by kernel_rfl
theorem zqo:zAH cx 12 noC 99 zgw:=zaA (t:=zgr) zjz (fun _=>rfl) (zau [(52,zct),(123,zbe)] (by kernel_rfl) (.cons ziZ (.cons zd6 .nil))) (fun x=>by kernel_rfl)
def zmu (p0:Entry) (p1:Int):Option (Entry×Int×Int) :=
 (zkL p0 p1).bind fun v2=>if !v2 then
 some ((p0,(0:Int),(1:Int)))
 else
 (if decide ((Entry.Owner p0)=(0:Int)) then
 (zcD p0 p1).bind fun v6=>some ((decide ((v6.length:Int)=(0:Int))))
 else
 some (false):Option Bool).bind fun v4=>if v4 then
 let v7:Int:=(List.length (Entry.Share p0):Int)
 (zA2 false 1 v7 v7).bind fun v8=>some ((Entry.mk (w64 (p1 + (1:Int))) v8,(0:Int),(0:Int)))
 else
 if decide ((Entry.Owner p0)=(w64 (p1 + (1:Int)))) then
 some ((p0,w64 (p1 + (1:Int)),(0:Int)))
 else
 (zqM (Entry.Share p0) p1 true).bind fun v10=>some ((Entry.mk (Entry.Owner p0) v10,Entry.Owner p0,(0:Int)))
def zk5:FnT:=⟨[zan,.int .i64],[zan,.int .i64,.int .i64],fun x=>zmu x.1 x.2⟩
def zlz:TA :=
 .call 109 zd2 [.v 0,.v 1] 1<|.prim (.un .not) [.v 2]<|.ite (.v 3) (.jmp 0 false [.v 0,.c (.int .i64 0),.c (.int .i64 1)]) (.sub0 [.bool] (.prim (.fld 0) [.v 0]<|.prim (.bin .eql) [.v 4,.c (.int .i64 0)]<|.ite (.v 5) (.call 107 zbP [.v 0,.v 1] 1<|.prim .len [.v 6]<|.prim (.bin .eql) [.v 7,.c (.int .i64 0)]<|.jmp 0 false [.v 8]) (.jmp 0 false [.c (.bool false)])) 1<|.ite (.v 4) (.prim (.bin .add) [.v 1,.c (.int .i64 1)]<|.prim (.fld 1) [.v 0]<|.prim .len [.v 6]<|.primH (.rep (.bool false) 1) (.sl .bool) [.v 7,.v 7]<|.mkS zbl [.v 5,.v 8]<|.jmp 0 false [.v 9,.c (.int .i64 0),.c (.int .i64 0)]) (.prim (.fld 0) [.v 0]<|.prim (.bin .add) [.v 1,.c (.int .i64 1)]<|.prim (.bin .eql) [.v 5,.v 6]<|.ite (.v 7) (.prim (.bin .add) [.v 1,.c (.int .i64 1)]<|.jmp 0 false [.v 0,.v 8,.c (.int .i64 0)]) (.prim (.fld 0) [.v 0]<|.prim (.fld 1) [.v 0]<|.call 124 zm6 [.v 9,.v 1,.c (.bool true)] 1<|.mkS zbl [.v 8,.v 10]<|.prim (.fld 0) [.v 0]<|.jmp 0 false [.v 11,.v 12,.c (.int .i64 0)])))
theorem zpj:zad cx 12 105=some zlz.erase:=by kernel_rfl
theorem zwp:zAH cx 12 noC 105 zk5:=zaA (t:=zlz) zpj (fun _=>rfl) (zau [(109,zd2),(107,zbP),(124,zm6)] (by kernel_rfl) (.cons znZ (.cons zgK (.cons zxD .nil)))) (fun x=>by kernel_rfl)
def zhb (p0:Entry) (p1:Int):Option (Entry×Int×(List Int)×Int) :=
 (zkL p0 p1).bind fun v2=>if !v2 then
 some ((p0,(0:Int),([]:List Int),(1:Int)))
 else
 let v6:Int:=(List.length (Entry.Share p0):Int)
 (zA2 false 1 v6 v6).bind fun v7=>(zcD p0 p1).bind fun v9=>some ((Entry.mk (w64 (p1 + (1:Int))) v7,Entry.Owner p0,v9,(0:Int)))
def zja:FnT:=⟨[zan,.int .i64],[zan,.int .i64,.sl (.int .i64),.int .i64],fun x=>zhb x.1 x.2⟩
def zi1:TA :=
 .call 109 zd2 [.v 0,.v 1] 1<|.prim (.un .not) [.v 2]<|.ite (.v 3) (.jmp 0 false [.v 0,.c (.int .i64 0),.c .nil,.c (.int .i64 1)]) (.prim (.bin .add) [.v 1,.c (.int .i64 1)]<|.prim (.fld 1) [.v 0]<|.prim .len [.v 5]<|.primH (.rep (.bool false) 1) (.sl .bool) [.v 6,.v 6]<|.prim (.fld 0) [.v 0]<|.call 107 zbP [.v 0,.v 1] 1<|.mkS zbl [.v 4,.v 7]<|.jmp 0 false [.v 10,.v 8,.v 9,.c (.int .i64 0)])
theorem zot:zad cx 12 106=some zi1.erase:=by kernel_rfl
theorem ztv:zAH cx 12 noC 106 zja:=zaA (t:=zi1) zot (fun _=>rfl) (zau [(109,zd2),(107,zbP)] (by kernel_rfl) (.cons znZ (.cons zgK .nil))) (fun x=>by kernel_rfl)
def zmw (p0:Pool) (p1:Msg):Option (Pool×Int) :=
 (zll p1).bind fun v2=>((zfg p0).bind fun v4=>if !v4 then
 some (true)
 else
 some ((!decide (v2.2=(0:Int)))):Option Bool).bind fun v4=>if v4 then
 some (p0,1)
 else
 (zq9 p0 v2.1).bind fun v5=>some ((v5.1,v5.2))
def zkw:FnT:=⟨[zaJ,zAR],[zaJ,.int .i64],fun x=>zmw x.1 x.2⟩
def zkX:TA :=
 .call 125 zmG [.v 1] 2<|.sub0 [.bool] (.call 53 zcp [.v 0] 1<|.prim (.un .not) [.v 4]<|.ite (.v 5) (.jmp 0 false [.c (.bool true)]) (.prim (.bin .neq) [.v 3,.c (.int .i64 0)]<|.jmp 0 false [.v 6])) 1<|.ite (.v 4) (.jmp 0 false [.v 0,.c (.int .i64 1)]) (.call 126 zoA [.v 0,.v 2] 2<|.jmp 0 false [.v 5,.v 6])
theorem zp2:zad cx 12 108=some zkX.erase:=by kernel_rfl
theorem zwy:zAH cx 12 noC 108 zkw:=zaA (t:=zkX) zp2 (fun _=>rfl) (zau [(125,zmG),(53,zcp),(126,zoA)] (by kernel_rfl) (.cons zx5 (.cons zjm (.cons zxc .nil)))) (fun x=>by kernel_rfl)
def znV (p0:Proto) (p1:Int) (p2:Int) (p3:Bool):Option Bool :=
 ((zet p0 p1 p2).bind fun v4=>if !v4 then
 some (true)
 else
 (zAF (Proto.Wait p0) p1).bind fun v7=>some ((decide ((Wait.Line v7)=(w64 (p2 + (1:Int)))))):Option Bool).bind fun v4=>if v4 then
 some (false)
 else
 (zAF (Proto.State p0) p1).bind fun v6=>(zAF v6 p2).bind fun v7=>some (((decide (v7=(2:Int)))||((decide (v7=(3:Int)))||((!p3)&&(!decide (v7=(0:Int)))))))
def zgS:FnT:=⟨[zab,.int .i64,.int .i64,.bool],[.bool],fun x=>znV x.1 x.2.1 x.2.2.1 x.2.2.2⟩
def znI:TA :=
 .sub0 [.bool] (.call 42 zbB [.v 0,.v 1,.v 2] 1<|.prim (.un .not) [.v 4]<|.ite (.v 5) (.jmp 0 false [.c (.bool true)]) (.prim (.fld 2) [.v 0]<|.prim .get [.v 6,.v 1]<|.prim (.fld 0) [.v 7]<|.prim (.bin .add) [.v 2,.c (.int .i64 1)]<|.prim (.bin .eql) [.v 8,.v 9]<|.jmp 0 false [.v 10])) 1<|.ite (.v 4) (.jmp 0 false [.c (.bool false)]) (.prim (.fld 0) [.v 0]<|.prim .get [.v 5,.v 1]<|.prim .get [.v 6,.v 2]<|.subp [.bool] (.prim (.bin .eql) [.v 7,.c (.int .i64 2)]<|.ite (.v 8) (.jmp 0 false [.c (.bool true)]) (.prim (.bin .eql) [.v 7,.c (.int .i64 3)]<|.ite (.v 9) (.jmp 0 false [.c (.bool true)]) (.prim (.un .not) [.v 3]<|.ite (.v 10) (.prim (.bin .neq) [.v 7,.c (.int .i64 0)]<|.jmp 0 false [.v 11]) (.jmp 0 false [.c (.bool false)])))) 1<|.jmp 0 false [.v 8])
theorem ztj:zad cx 12 17=some znI.erase:=by kernel_rfl
theorem zsL:zAH cx 12 noC 17 zgS:=zaA (t:=znI) ztj (fun _=>rfl) (zau [(42,zbB)] (by kernel_rfl) (.cons zf6 .nil)) (fun x=>by kernel_rfl)
def zfM (p0:Pool) (p1:Int):Option (Pool×Msg×Int) :=
 (zgY p0 p1).bind fun v2=>if !decide (v2=(0:Int)) then
 some ((p0,(Msg.mk (0:Int) (0:Int) (0:Int) (0:Int) (0:Int) (0:Int) false (0:Int) (0:Int)),v2))
 else
 (zkh p0 p1).bind fun v4=>(zAF (Pool.Frames p0) p1).bind fun v7=>(zmx v7).bind fun v8=>some ((v4.1,v8.1,v8.2))
def zlh:FnT:=⟨[zaJ,.int .i64],[zaJ,zAR,.int .i64],fun x=>zfM x.1 x.2⟩
def zkH:TA :=
 .call 72 zek [.v 0,.v 1] 1<|.prim (.bin .neq) [.v 2,.c (.int .i64 0)]<|.ite (.v 3) (.jmp 0 false [.v 0,.c (.agg [(.int .i64 0),(.int .i64 0),(.int .i64 0),(.int .i64 0),(.int .i64 0),(.int .i64 0),(.bool false),(.int .u32 0),(.int .u32 0)]),.v 2]) (.call 73 zkS [.v 0,.v 1] 2<|.prim (.fld 0) [.v 0]<|.prim .get [.v 6,.v 1]<|.call 74 zle [.v 7] 2<|.jmp 0 false [.v 4,.v 8,.v 9])
theorem zp6:zad cx 12 32=some zkH.erase:=by kernel_rfl
theorem zwk:zAH cx 12 noC 32 zlh:=zaA (t:=zkH) zp6 (fun _=>rfl) (zau [(72,zek),(73,zkS),(74,zle)] (by kernel_rfl) (.cons znf (.cons zv4 (.cons zwf .nil)))) (fun x=>by kernel_rfl)
def zc2 (p0:Proto) (p1:Int) (p2:Int):Option Bool :=
 ((zcl p0).bind fun v3=>if v3 then
 if zav p1 (List.length (Proto.Wait p0):Int) then
 some ((zav p2 (List.length (Proto.Home p0):Int)))
 else
 some (false)
 else
 some (false):Option Bool).bind fun v3=>some v3
def zbb:FnT:=⟨[zab,.int .i64,.int .i64],[.bool],fun x=>zc2 x.1 x.2.1 x.2.2⟩
def zge:TA :=
 .sub0 [.bool] (.call 19 zby [.v 0] 1<|.ite (.v 3) (.prim (.fld 2) [.v 0]<|.prim .len [.v 4]<|.callp 49 zaw [.v 1,.v 5] 1<|.ite (.v 6) (.prim (.fld 3) [.v 0]<|.prim .len [.v 7]<|.callp 49 zaw [.v 2,.v 8] 1<|.jmp 0 false [.v 9]) (.jmp 0 false [.c (.bool false)])) (.jmp 0 false [.c (.bool false)])) 1<|.jmp 0 false [.v 3]
theorem zjX:zad cx 12 39=some zge.erase:=by kernel_rfl
theorem zgq:zAH cx 12 noC 39 zbb:=zaA (t:=zge) zjX (fun _=>rfl) (zau [(19,zby),(49,zaw.fn),(49,zaw.fn)] (by kernel_rfl) (.cons zfS (.cons zbn (.cons zbn .nil)))) (fun x=>by kernel_rfl)
def zg4 (x3:List (List Int)) (x4:Int) (s:(Int×(List (List Int)))):Option ((Int×(List (List Int)))⊕(List (List Int))) :=
 if decide (s.1<x4) then
 (zAF x3 s.1).bind fun v8=>(zaC 1 v8).bind fun v9=>(zAK 24 s.2 ([v9]:List (List Int))).bind fun v11=>some (Sum.inl (w64 (s.1 + (1:Int)),v11))
 else
 some (Sum.inr (s.2))
def zfG (p0:Pool) (p1:Int):Option (Pool×Int) :=
 (zdO p0 p1).bind fun v2=>(let v4:Int:=(List.length (Pool.Frames p0):Int)
 (zaf (zg4 (Pool.Frames p0) v4) ((0:Int),([]:List (List Int))):Option (List (List Int))).bind fun v5=>some (v5):Option (List (List Int))).bind fun v3=>(if decide (v2=(0:Int)) then
 let v5:Int:=w64 (p1 + (1:Int))
 ((zxW (v3.length:Int) p1 v5 (v3.length:Int)).bind fun v7=>if decide (p1=v5) then
 some (((v3.length:Int),v3))
 else
 (zBg (v3.length:Int) (0:Int) p1).bind fun v11=>(zBg (v3.length:Int) v5 (v3.length:Int)).bind fun v13=>(zAO v3 v5 v13).bind fun v14=>(zqJ 24 v3 v11 v14).bind fun v15=>let v17:Int:=v11 + (v14.length:Int)
 let v18:Int:=v17 - (0:Int)
 (zwD (v15.length:Int) (0:Int) v18 (v3.length:Int)).bind fun v20=>let v21:Int:=(0:Int) + v18
 (zAO v15 v21 v20).bind fun v22=>(zxK v15 v21 v20 (List.replicate (v22.length) ([]:List Int))).bind fun v24=>some ((v17,v24)):Option (Int×(List (List Int)))).bind fun v6=>some ((v6.1,v6.2))
 else
 some (((v3.length:Int),v3)):Option (Int×(List (List Int)))).bind fun v5=>(zAO v5.2 (0:Int) v5.1).bind fun v7=>some ((Pool.mk v7,v2))
def ziD:FnT:=⟨[zaJ,.int .i64],[zaJ,.int .i64],fun x=>zfG x.1 x.2⟩
def zi2:TA :=
 .call 88 zlq [.v 0,.v 1] 1<|.sub0 [.sl (.sl (.int .u8))] (.prim (.fld 0) [.v 0]<|.prim .len [.v 3]<|.sub0 [.sl (.sl (.int .u8))] (.loop [.int .i64,.sl (.sl (.int .u8))] [.c (.int .i64 0),.c .nil] (.prim (.bin .lss) [.v 5,.v 4]<|.ite (.v 7) (.prim .get [.v 3,.v 5]<|.prim (.clone 1) [.v 8]<|.mkL (.sl (.int .u8)) [.v 9]<|.prim (.app 24) [.v 6,.v 10]<|.prim (.bin .add) [.v 5,.c (.int .i64 1)]<|.jmp 0 true [.v 12,.v 11]) (.jmp 1 false [.v 6]))) 1<|.jmp 0 false [.v 5]) 1<|.prim (.bin .eql) [.v 2,.c (.int .i64 0)]<|.sub0 [.int .i64,.sl (.sl (.int .u8))] (.ite (.v 4) (.prim (.bin .add) [.v 1,.c (.int .i64 1)]<|.sub0 [.int .i64,.sl (.sl (.int .u8))] (.prim .len [.v 3]<|.prim .rng3 [.v 3,.v 1,.v 5,.v 6]<|.prim (.bin .eql) [.v 1,.v 5]<|.ite (.v 8) (.prim .len [.v 3]<|.jmp 0 false [.v 9,.v 3]) (.prim .len [.v 3]<|.prim .len [.v 3]<|.prim .rng [.v 3,.c (.int .i64 0),.v 1]<|.prim .len [.v 3]<|.prim .rng [.v 3,.v 5,.v 12]<|.prim .sub [.v 3,.v 5,.v 13]<|.prim (.appv 24) [.v 3,.v 11,.v 14]<|.prim .len [.v 14]<|.prim .vadd [.v 11,.v 16]<|.prim .vlen [.c (.int .i64 0),.v 17]<|.prim .vlen [.c (.int .i64 0),.v 17]<|.prim .rngv [.v 15,.c (.int .i64 0),.v 18,.v 9]<|.prim .vadd [.c (.int .i64 0),.v 18]<|.prim .sub [.v 15,.v 21,.v 20]<|.prim (.clr .nil) [.v 22]<|.prim .cpyv [.v 15,.v 21,.v 20,.v 23]<|.jmp 0 false [.v 17,.v 24])) 2<|.jmp 0 false [.v 6,.v 7]) (.prim .len [.v 3]<|.jmp 0 false [.v 5,.v 3])) 2<|.prim .sub [.v 6,.c (.int .i64 0),.v 5]<|.mkS zb6 [.v 7]<|.jmp 0 false [.v 8,.v 2]
theorem zmR:zad cx 12 64=some zi2.erase:=by kernel_rfl
theorem ztL:zAH cx 12 noC 64 ziD:=zaA (t:=zi2) zmR (fun _=>rfl) (zau [(88,zlq)] (by kernel_rfl) (.cons zv0 .nil)) (fun x=>by kernel_rfl)
def zhK (p0:List Int):Option (Msg×Int) :=
 if decide ((p0.length:Int)<(19:Int)) then
 some (((Msg.mk (0:Int) (0:Int) (0:Int) (0:Int) (0:Int) (0:Int) false (0:Int) (0:Int)),(3:Int)))
 else
 if decide ((19:Int)<(p0.length:Int)) then
 some (((Msg.mk (0:Int) (0:Int) (0:Int) (0:Int) (0:Int) (0:Int) false (0:Int) (0:Int)),(4:Int)))
 else
 (zAO p0 (15:Int) (p0.length:Int)).bind fun v6=>(zgu v6).bind fun v7=>(zAO p0 (0:Int) (15:Int)).bind fun v9=>(zd7 v9).bind fun v10=>if !decide (v7=v10) then
 some (((Msg.mk (0:Int) (0:Int) (0:Int) (0:Int) (0:Int) (0:Int) false (0:Int) (0:Int)),(5:Int)))
 else
 (zAF p0 (0:Int)).bind fun v12=>(zAF p0 (1:Int)).bind fun v14=>(zAF p0 (2:Int)).bind fun v16=>(zAF p0 (3:Int)).bind fun v18=>(zAF p0 (4:Int)).bind fun v20=>(zAF p0 (5:Int)).bind fun v22=>(zAF p0 (6:Int)).bind fun v24=>(zAO p0 (7:Int) (p0.length:Int)).bind fun v27=>(zgu v27).bind fun v28=>(zAO p0 (11:Int) (p0.length:Int)).bind fun v30=>(zgu v30).bind fun v31=>let v32:Msg:=Msg.mk (w64 v12) (w64 v14) (w64 v16) (w64 v18) (w64 v20) (w64 v22) (decide (v24=(1:Int))) v28 v31
 ((zfE v32).bind fun v33=>if !v33 then
 some (true)
 else
 (zfl v32).bind fun v35=>(bytes_Equal v35 p0).bind fun v36=>some ((!v36)):Option Bool).bind fun v33=>if v33 then
 some (((Msg.mk (0:Int) (0:Int) (0:Int) (0:Int) (0:Int) (0:Int) false (0:Int) (0:Int)),(2:Int)))
 else
 some (v32,0)
def zgQ:FnT:=⟨[.sl (.int .u8)],[zAR,.int .i64],fun x=>zhK x⟩
def zhl:TA :=
 .prim .len [.v 0]<|.prim (.bin .lss) [.v 1,.c (.int .i64 19)]<|.ite (.v 2) (.jmp 0 false [.c (.agg [(.int .i64 0),(.int .i64 0),(.int .i64 0),(.int .i64 0),(.int .i64 0),(.int .i64 0),(.bool false),(.int .u32 0),(.int .u32 0)]),.c (.int .i64 3)]) (.prim .len [.v 0]<|.prim (.bin .gtr) [.v 3,.c (.int .i64 19)]<|.ite (.v 4) (.jmp 0 false [.c (.agg [(.int .i64 0),(.int .i64 0),(.int .i64 0),(.int .i64 0),(.int .i64 0),(.int .i64 0),(.bool false),(.int .u32 0),(.int .u32 0)]),.c (.int .i64 4)]) (.prim .len [.v 0]<|.prim .sub [.v 0,.c (.int .i64 15),.v 5]<|.call 91 zes [.v 6] 1<|.prim .len [.v 0]<|.prim .sub [.v 0,.c (.int .i64 0),.c (.int .i64 15)]<|.call 92 zd8 [.v 9] 1<|.prim (.bin .neq) [.v 7,.v 10]<|.ite (.v 11) (.jmp 0 false [.c (.agg [(.int .i64 0),(.int .i64 0),(.int .i64 0),(.int .i64 0),(.int .i64 0),(.int .i64 0),(.bool false),(.int .u32 0),(.int .u32 0)]),.c (.int .i64 5)]) (.prim .get [.v 0,.c (.int .i64 0)]<|.prim (.conv .i64) [.v 12]<|.prim .get [.v 0,.c (.int .i64 1)]<|.prim (.conv .i64) [.v 14]<|.prim .get [.v 0,.c (.int .i64 2)]<|.prim (.conv .i64) [.v 16]<|.prim .get [.v 0,.c (.int .i64 3)]<|.prim (.conv .i64) [.v 18]<|.prim .get [.v 0,.c (.int .i64 4)]<|.prim (.conv .i64) [.v 20]<|.prim .get [.v 0,.c (.int .i64 5)]<|.prim (.conv .i64) [.v 22]<|.prim .get [.v 0,.c (.int .i64 6)]<|.prim (.bin .eql) [.v 24,.c (.int .u8 1)]<|.prim .len [.v 0]<|.prim .sub [.v 0,.c (.int .i64 7),.v 26]<|.call 91 zes [.v 27] 1<|.prim .len [.v 0]<|.prim .sub [.v 0,.c (.int .i64 11),.v 29]<|.call 91 zes [.v 30] 1<|.mkS zcy [.v 13,.v 15,.v 17,.v 19,.v 21,.v 23,.v 25,.v 28,.v 31]<|.sub0 [.bool] (.call 93 zeo [.v 32] 1<|.prim (.un .not) [.v 33]<|.ite (.v 34) (.jmp 0 false [.c (.bool true)]) (.call 95 zd0 [.v 32] 1<|.call 94 zf4 [.v 35,.v 0] 1<|.prim (.un .not) [.v 36]<|.jmp 0 false [.v 37])) 1<|.ite (.v 33) (.jmp 0 false [.c (.agg [(.int .i64 0),(.int .i64 0),(.int .i64 0),(.int .i64 0),(.int .i64 0),(.int .i64 0),(.bool false),(.int .u32 0),(.int .u32 0)]),.c (.int .i64 2)]) (.jmp 0 false [.v 32,.c (.int .i64 0)]))))
theorem zlR:zad cx 12 65=some zhl.erase:=by kernel_rfl
theorem zsf:zAH cx 12 noC 65 zgQ:=zaA (t:=zhl) zlR (fun _=>rfl) (zau [(91,zes),(92,zd8),(91,zes),(91,zes),(93,zeo),(95,zd0),(94,zf4)] (by kernel_rfl) (.cons zox (.cons zoK (.cons zox (.cons zox (.cons zok (.cons znp (.cons zqs .nil)))))))) (fun x=>by kernel_rfl)
def zaZ (p0:Proto) (p1:Msg):Option Proto :=
 (zmw (Proto.Pool p0) p1).bind fun v3=>some ((Proto.setPool p0 v3.1))
def zam:FnT:=⟨[zab,zAR],[zab],fun x=>zaZ x.1 x.2⟩
def zkM:TA :=
 .prim (.fld 6) [.v 0]<|.call 108 zkw [.v 2,.v 1] 2<|.prim (.setf 6) [.v 0,.v 3]<|.jmp 0 false [.v 5]
theorem zpL:zad cx 12 76=some zkM.erase:=by kernel_rfl
theorem za3:zAH cx 12 noC 76 zam:=zaA (t:=zkM) zpL (fun _=>rfl) (zau [(108,zkw)] (by kernel_rfl) (.cons zwy .nil)) (fun x=>by kernel_rfl)
def zfx (p0:Msg):Option ((List Int)×Int) :=
 (zfE p0).bind fun v1=>if !v1 then
 some ((([]:List Int),(1:Int)))
 else
 (zfl p0).bind fun v3=>some (v3,0)
def ziS:FnT:=⟨[zAR],[.sl (.int .u8),.int .i64],fun x=>zfx x⟩
def zi0:TA :=
 .call 93 zeo [.v 0] 1<|.prim (.un .not) [.v 1]<|.ite (.v 2) (.jmp 0 false [.c .nil,.c (.int .i64 1)]) (.call 95 zd0 [.v 0] 1<|.jmp 0 false [.v 3,.c (.int .i64 0)])
theorem znk:zad cx 12 120=some zi0.erase:=by kernel_rfl
theorem ztS:zAH cx 12 noC 120 ziS:=zaA (t:=zi0) znk (fun _=>rfl) (zau [(93,zeo),(95,zd0)] (by kernel_rfl) (.cons zok (.cons znp .nil))) (fun x=>by kernel_rfl)
def zdf (x23:List (List Int)) (x24:Int) (s:(Int×(List (List Int)))):Option ((Int×(List (List Int)))⊕(List (List Int))) :=
 if decide (s.1<x24) then
 (zAF x23 s.1).bind fun v28=>(zaC 1 v28).bind fun v29=>(zAK 24 s.2 ([v29]:List (List Int))).bind fun v31=>some (Sum.inl (w64 (s.1 + (1:Int)),v31))
 else
 some (Sum.inr (s.2))
def zdu (x18:List Entry) (x21:Int) (s:(Int×(List Entry))):Option ((Int×(List Entry))⊕(List Entry)) :=
 if decide (s.1<x21) then
 (zAF x18 s.1).bind fun v25=>(zaC 1 (Entry.Share v25)).bind fun v28=>(zAK 32 s.2 ([Entry.mk (Entry.Owner v25) v28]:List Entry)).bind fun v31=>some (Sum.inl (w64 (s.1 + (1:Int)),v31))
 else
 some (Sum.inr (s.2))
def zdo (x6:List (List Int)) (x7:Int) (s:(Int×(List (List Int)))):Option ((Int×(List (List Int)))⊕(List (List Int))) :=
 if decide (s.1<x7) then
 (zAF x6 s.1).bind fun v11=>(zaC 4 v11).bind fun v12=>(zAK 24 s.2 ([v12]:List (List Int))).bind fun v14=>some (Sum.inl (w64 (s.1 + (1:Int)),v14))
 else
 some (Sum.inr (s.2))
def zdi (x4:List (List Int)) (x5:Int) (s:(Int×(List (List Int)))):Option ((Int×(List (List Int)))⊕(List (List Int))) :=
 if decide (s.1<x5) then
 (zAF x4 s.1).bind fun v9=>(zaC 8 v9).bind fun v10=>(zAK 24 s.2 ([v10]:List (List Int))).bind fun v12=>some (Sum.inl (w64 (s.1 + (1:Int)),v12))
 else
 some (Sum.inr (s.2))
def zka (p0:Proto) (p1:Int) (p2:Int) (p3:Int):Option (Proto×Int) :=
 ((let v5:Int:=(List.length (Proto.State p0):Int)
 (zaf (zdi (Proto.State p0) v5) ((0:Int),([]:List (List Int))):Option (List (List Int))).bind fun v6=>some (v6):Option (List (List Int))).bind fun v5=>(let v7:Int:=(List.length (Proto.Val p0):Int)
 (zaf (zdo (Proto.Val p0) v7) ((0:Int),([]:List (List Int))):Option (List (List Int))).bind fun v8=>some (v8):Option (List (List Int))).bind fun v7=>(zaC 40 (Proto.Wait p0)).bind fun v9=>(zaC 4 (Proto.Home p0)).bind fun v11=>(zaC 8 (Proto.Busy p0)).bind fun v13=>let v21:Int:=(List.length (Proto.Dir p0):Int)
 (zaf (zdu (Proto.Dir p0) v21) ((0:Int),([]:List Entry)):Option (List Entry)).bind fun v22=>let v23:List (List Int):=Pool.Frames (Proto.Pool p0)
 (let v24:Int:=(v23.length:Int)
 (zaf (zdf v23 v24) ((0:Int),([]:List (List Int))):Option (List (List Int))).bind fun v25=>some (v25):Option (List (List Int))).bind fun v24=>some ((v5,v7,v9,v11,v22,v13,v24)):Option ((List (List Int))×(List (List Int))×(List Wait)×(List Int)×(List Entry)×(List Int)×(List (List Int)))).bind fun v4=>(zc2 p0 p1 p2).bind fun v11=>if !v11 then
 some ((Proto.mk v4.1 v4.2.1 v4.2.2.1 v4.2.2.2.1 v4.2.2.2.2.1 v4.2.2.2.2.2.1 (Pool.mk v4.2.2.2.2.2.2),(1:Int)))
 else
 (zgV p0 p1 p2 true).bind fun v13=>if !v13 then
 some ((Proto.mk v4.1 v4.2.1 v4.2.2.1 v4.2.2.2.1 v4.2.2.2.2.1 v4.2.2.2.2.2.1 (Pool.mk v4.2.2.2.2.2.2),(8:Int)))
 else
 (zAG (List.length v4.2.1:Int) p1).bind fun v15=>(zAG (List.length v4.2.1:Int) v15).bind fun v16=>(zAG (List.length v4.1:Int) p1).bind fun v17=>(zAG (List.length v4.1:Int) v17).bind fun v18=>(zAF v4.2.1 v16).bind fun v19=>(zAG (v19.length:Int) p2).bind fun v20=>(zAF v4.2.1 v16).bind fun v21=>(zAI v21 v20 p3).bind fun v22=>(zAI v4.2.1 v16 v22).bind fun v23=>(zAF v4.1 v18).bind fun v24=>(zAG (v24.length:Int) p2).bind fun v25=>(zAF v4.1 v18).bind fun v26=>(zAI v26 v25 (3:Int)).bind fun v27=>(zAI v4.1 v18 v27).bind fun v28=>some ((Proto.mk v28 v23 v4.2.2.1 v4.2.2.2.1 v4.2.2.2.2.1 v4.2.2.2.2.2.1 (Pool.mk v4.2.2.2.2.2.2),(0:Int)))
def zjt:FnT:=⟨[zab,.int .i64,.int .i64,.int .u32],[zab,.int .i64],fun x=>zka x.1 x.2.1 x.2.2.1 x.2.2.2⟩
def ziY:TA :=
 .sub0 [.sl (.sl (.int .i64)),.sl (.sl (.int .u32)),.sl zbX,.sl (.int .u32),.sl zan,.sl (.int .i64),.sl (.sl (.int .u8))] (.prim (.fld 0) [.v 0]<|.sub0 [.sl (.sl (.int .i64))] (.prim .len [.v 4]<|.sub0 [.sl (.sl (.int .i64))] (.loop [.int .i64,.sl (.sl (.int .i64))] [.c (.int .i64 0),.c .nil] (.prim (.bin .lss) [.v 6,.v 5]<|.ite (.v 8) (.prim .get [.v 4,.v 6]<|.prim (.clone 8) [.v 9]<|.mkL (.sl (.int .i64)) [.v 10]<|.prim (.app 24) [.v 7,.v 11]<|.prim (.bin .add) [.v 6,.c (.int .i64 1)]<|.jmp 0 true [.v 13,.v 12]) (.jmp 1 false [.v 7]))) 1<|.jmp 0 false [.v 6]) 1<|.prim (.fld 1) [.v 0]<|.sub0 [.sl (.sl (.int .u32))] (.prim .len [.v 6]<|.sub0 [.sl (.sl (.int .u32))] (.loop [.int .i64,.sl (.sl (.int .u32))] [.c (.int .i64 0),.c .nil] (.prim (.bin .lss) [.v 8,.v 7]<|.ite (.v 10) (.prim .get [.v 6,.v 8]<|.prim (.clone 4) [.v 11]<|.mkL (.sl (.int .u32)) [.v 12]<|.prim (.app 24) [.v 9,.v 13]<|.prim (.bin .add) [.v 8,.c (.int .i64 1)]<|.jmp 0 true [.v 15,.v 14]) (.jmp 1 false [.v 9]))) 1<|.jmp 0 false [.v 8]) 1<|.prim (.fld 2) [.v 0]<|.prim (.clone 40) [.v 8]<|.prim (.fld 3) [.v 0]<|.prim (.clone 4) [.v 10]<|.prim (.fld 5) [.v 0]<|.prim (.clone 8) [.v 12]<|.prim (.fld 0) [.v 0]<|.prim (.fld 1) [.v 0]<|.prim (.fld 2) [.v 0]<|.prim (.fld 3) [.v 0]<|.prim (.fld 4) [.v 0]<|.prim (.fld 5) [.v 0]<|.prim (.fld 6) [.v 0]<|.prim .len [.v 18]<|.sub0 [.sl zan] (.loop [.int .i64,.sl zan] [.c (.int .i64 0),.c .nil] (.prim (.bin .lss) [.v 22,.v 21]<|.ite (.v 24) (.prim .get [.v 18,.v 22]<|.prim (.fld 0) [.v 25]<|.prim (.fld 1) [.v 25]<|.prim (.clone 1) [.v 27]<|.mkS zbl [.v 26,.v 28]<|.mkL zan [.v 29]<|.prim (.app 32) [.v 23,.v 30]<|.prim (.bin .add) [.v 22,.c (.int .i64 1)]<|.jmp 0 true [.v 32,.v 31]) (.jmp 1 false [.v 23]))) 1<|.prim (.fld 0) [.v 20]<|.sub0 [.sl (.sl (.int .u8))] (.prim .len [.v 23]<|.sub0 [.sl (.sl (.int .u8))] (.loop [.int .i64,.sl (.sl (.int .u8))] [.c (.int .i64 0),.c .nil] (.prim (.bin .lss) [.v 25,.v 24]<|.ite (.v 27) (.prim .get [.v 23,.v 25]<|.prim (.clone 1) [.v 28]<|.mkL (.sl (.int .u8)) [.v 29]<|.prim (.app 24) [.v 26,.v 30]<|.prim (.bin .add) [.v 25,.c (.int .i64 1)]<|.jmp 0 true [.v 32,.v 31]) (.jmp 1 false [.v 26]))) 1<|.jmp 0 false [.v 25]) 1<|.jmp 0 false [.v 5,.v 7,.v 9,.v 11,.v 22,.v 13,.v 24]) 7<|.call 39 zbb [.v 0,.v 1,.v 2] 1<|.prim (.un .not) [.v 11]<|.ite (.v 12) (.mkS zb6 [.v 10]<|.mkS za7 [.v 4,.v 5,.v 6,.v 7,.v 8,.v 9,.v 13]<|.jmp 0 false [.v 14,.c (.int .i64 1)]) (.call 40 zcj [.v 0,.v 1,.v 2,.c (.bool true)] 1<|.prim (.un .not) [.v 13]<|.ite (.v 14) (.mkS zb6 [.v 10]<|.mkS za7 [.v 4,.v 5,.v 6,.v 7,.v 8,.v 9,.v 15]<|.jmp 0 false [.v 16,.c (.int .i64 8)]) (.prim .idx [.v 5,.v 1]<|.prim .idx [.v 5,.v 15]<|.prim .idx [.v 4,.v 1]<|.prim .idx [.v 4,.v 17]<|.prim .get [.v 5,.v 16]<|.prim .idx [.v 19,.v 2]<|.prim .get [.v 5,.v 16]<|.prim .set [.v 21,.v 20,.v 3]<|.prim .set [.v 5,.v 16,.v 22]<|.prim .get [.v 4,.v 18]<|.prim .idx [.v 24,.v 2]<|.prim .get [.v 4,.v 18]<|.prim .set [.v 26,.v 25,.c (.int .i64 3)]<|.prim .set [.v 4,.v 18,.v 27]<|.mkS zb6 [.v 10]<|.mkS za7 [.v 28,.v 23,.v 6,.v 7,.v 8,.v 9,.v 29]<|.jmp 0 false [.v 30,.c (.int .i64 0)]))
theorem zmI:zad cx 12 14=some ziY.erase:=by kernel_rfl
theorem ztU:zAH cx 12 noC 14 zjt:=zaA (t:=ziY) zmI (fun _=>rfl) (zau [(39,zbb),(40,zcj)] (by kernel_rfl) (.cons zgq (.cons zns .nil))) (fun x=>by kernel_rfl)
def zq4 (p0:Proto) (p1:Int) (p2:Int) (p3:Int):Option (Proto×Int) :=
 (zet p0 p1 p2).bind fun v4=>if !v4 then
 some (p0,1)
 else
 (znV p0 p1 p2 true).bind fun v6=>if !v6 then
 some (p0,8)
 else
 (zkW p0 p1 p2 p3).bind fun v8=>(zbO v8 p1 p2 (3:Int)).bind fun v9=>some (v9,0)
def znH:FnT:=⟨[zab,.int .i64,.int .i64,.int .u32],[zab,.int .i64],fun x=>zq4 x.1 x.2.1 x.2.2.1 x.2.2.2⟩
def zow:TA :=
 .call 42 zbB [.v 0,.v 1,.v 2] 1<|.prim (.un .not) [.v 4]<|.ite (.v 5) (.jmp 0 false [.v 0,.c (.int .i64 1)]) (.call 17 zgS [.v 0,.v 1,.v 2,.c (.bool true)] 1<|.prim (.un .not) [.v 6]<|.ite (.v 7) (.jmp 0 false [.v 0,.c (.int .i64 8)]) (.call 46 zhd [.v 0,.v 1,.v 2,.v 3] 1<|.call 45 zaM [.v 8,.v 1,.v 2,.c (.int .i64 3)] 1<|.jmp 0 false [.v 9,.c (.int .i64 0)]))
theorem zrI:zad cx 12 15=some zow.erase:=by kernel_rfl
theorem zxN:zAH cx 12 noC 15 znH:=zaA (t:=zow) zrI (fun _=>rfl) (zau [(42,zbB),(17,zgS),(46,zhd),(45,zaM)] (by kernel_rfl) (.cons zf6 (.cons zsL (.cons zsz (.cons zcu .nil))))) (fun x=>by kernel_rfl)
def znW:TA :=
 .call 39 zbb [.v 0,.v 1,.v 2] 1<|.prim (.un .not) [.v 3]<|.ite (.v 4) (.jmp 0 false [.c (.int .u32 0),.c (.int .i64 1)]) (.call 40 zcj [.v 0,.v 1,.v 2,.c (.bool false)] 1<|.prim (.un .not) [.v 5]<|.ite (.v 6) (.jmp 0 false [.c (.int .u32 0),.c (.int .i64 8)]) (.prim (.fld 1) [.v 0]<|.prim .get [.v 7,.v 1]<|.prim .get [.v 8,.v 2]<|.jmp 0 false [.v 9,.c (.int .i64 0)]))
theorem zuw:zad cx 12 16=some znW.erase:=by kernel_rfl
def zmO:TA :=
 .sub0 [.bool] (.call 39 zbb [.v 0,.v 1,.v 2] 1<|.ite (.v 4) (.call 40 zcj [.v 0,.v 1,.v 2,.v 3] 1<|.jmp 0 false [.v 5]) (.jmp 0 false [.c (.bool false)])) 1<|.jmp 0 false [.v 4]
theorem ztA:zad cx 12 18=some zmO.erase:=by kernel_rfl
def zfB (p0:Pool) (p1:Int):Option (Pool×Msg×Int) :=
 (zfG p0 p1).bind fun v2=>if !decide (v2.2=(0:Int)) then
 some ((v2.1,(Msg.mk (0:Int) (0:Int) (0:Int) (0:Int) (0:Int) (0:Int) false (0:Int) (0:Int)),v2.2))
 else
 (zAF (Pool.Frames p0) p1).bind fun v6=>(zhK v6).bind fun v7=>some ((v2.1,v7.1,v7.2))
def zjs:FnT:=⟨[zaJ,.int .i64],[zaJ,zAR,.int .i64],fun x=>zfB x.1 x.2⟩
def ziG:TA :=
 .call 64 ziD [.v 0,.v 1] 2<|.prim (.bin .neq) [.v 3,.c (.int .i64 0)]<|.ite (.v 4) (.jmp 0 false [.v 2,.c (.agg [(.int .i64 0),(.int .i64 0),(.int .i64 0),(.int .i64 0),(.int .i64 0),(.int .i64 0),(.bool false),(.int .u32 0),(.int .u32 0)]),.v 3]) (.prim (.fld 0) [.v 0]<|.prim .get [.v 5,.v 1]<|.call 65 zgQ [.v 6] 2<|.jmp 0 false [.v 2,.v 7,.v 8])
theorem zn1:zad cx 12 27=some ziG.erase:=by kernel_rfl
theorem ztH:zAH cx 12 noC 27 zjs:=zaA (t:=ziG) zn1 (fun _=>rfl) (zau [(64,ziD),(65,zgQ)] (by kernel_rfl) (.cons ztL (.cons zsf .nil))) (fun x=>by kernel_rfl)
def zdq (p0:Proto) (p1:Int):Option Proto :=
 (zAF (Proto.Wait p0) p1).bind fun v3=>if Wait.Back v3 then
 (zAF (Proto.Val p0) p1).bind fun v9=>(zAF v9 (w64 ((Wait.Line v3) - (1:Int)))).bind fun v12=>(zaZ p0 (Msg.mk (8:Int) (w64 (p1 + (1:Int))) (0:Int) (w64 ((Wait.Line v3) - (1:Int))) (0:Int) (0:Int) false (0:Int) v12)).bind fun v14=>some v14
 else
 if Wait.Write v3 then
 (zaZ p0 (Msg.mk (2:Int) (w64 (p1 + (1:Int))) (0:Int) (w64 ((Wait.Line v3) - (1:Int))) (w64 (p1 + (1:Int))) (0:Int) false (0:Int) (0:Int))).bind fun v11=>some v11
 else
 (zaZ p0 (Msg.mk (1:Int) (w64 (p1 + (1:Int))) (0:Int) (w64 ((Wait.Line v3) - (1:Int))) (w64 (p1 + (1:Int))) (0:Int) false (0:Int) (0:Int))).bind fun v11=>some v11
def zcs:FnT:=⟨[zab,.int .i64],[zab],fun x=>zdq x.1 x.2⟩
def ziv:TA :=
 .prim (.fld 2) [.v 0]<|.prim .get [.v 2,.v 1]<|.prim (.fld 2) [.v 3]<|.ite (.v 4) (.prim (.bin .add) [.v 1,.c (.int .i64 1)]<|.prim (.fld 0) [.v 3]<|.prim (.bin .sub) [.v 6,.c (.int .i64 1)]<|.prim (.fld 1) [.v 0]<|.prim .get [.v 8,.v 1]<|.prim (.fld 0) [.v 3]<|.prim (.bin .sub) [.v 10,.c (.int .i64 1)]<|.prim .get [.v 9,.v 11]<|.mkS zcy [.c (.int .i64 8),.v 5,.c (.int .i64 0),.v 7,.c (.int .i64 0),.c (.int .i64 0),.c (.bool false),.c (.int .u32 0),.v 12]<|.call 76 zam [.v 0,.v 13] 1<|.jmp 0 false [.v 14]) (.prim (.fld 1) [.v 3]<|.ite (.v 5) (.prim (.bin .add) [.v 1,.c (.int .i64 1)]<|.prim (.fld 0) [.v 3]<|.prim (.bin .sub) [.v 7,.c (.int .i64 1)]<|.prim (.bin .add) [.v 1,.c (.int .i64 1)]<|.mkS zcy [.c (.int .i64 2),.v 6,.c (.int .i64 0),.v 8,.v 9,.c (.int .i64 0),.c (.bool false),.c (.int .u32 0),.c (.int .u32 0)]<|.call 76 zam [.v 0,.v 10] 1<|.jmp 0 false [.v 11]) (.prim (.bin .add) [.v 1,.c (.int .i64 1)]<|.prim (.fld 0) [.v 3]<|.prim (.bin .sub) [.v 7,.c (.int .i64 1)]<|.prim (.bin .add) [.v 1,.c (.int .i64 1)]<|.mkS zcy [.c (.int .i64 1),.v 6,.c (.int .i64 0),.v 8,.v 9,.c (.int .i64 0),.c (.bool false),.c (.int .u32 0),.c (.int .u32 0)]<|.call 76 zam [.v 0,.v 10] 1<|.jmp 0 false [.v 11]))
theorem zoo:zad cx 12 43=some ziv.erase:=by kernel_rfl
theorem zjn:zAH cx 12 noC 43 zcs:=zaA (t:=ziv) zoo (fun _=>rfl) (zau [(76,zam),(76,zam),(76,zam)] (by kernel_rfl) (.cons za3 (.cons za3 (.cons za3 .nil)))) (fun x=>by kernel_rfl)
def zce (x1:Msg) (x15:List Int) (s:(Int×Proto)):Option ((Int×Proto)⊕Proto) :=
 if decide (s.1<(x15.length:Int)) then
 (zAF x15 s.1).bind fun v24=>(zaZ s.2 (Msg.mk (4:Int) (0:Int) (w64 (v24 + (1:Int))) (Msg.Line x1) (Msg.From x1) (0:Int) false (0:Int) (0:Int))).bind fun v29=>some (Sum.inl (w64 (s.1 + (1:Int)),v29))
 else
 some (Sum.inr (s.2))
def zgA (p0:Proto) (p1:Msg):Option Proto :=
 (zjM p0 (Msg.Line p1) (Msg.From p1)).bind fun v4=>(zAF (Proto.Dir v4) (Msg.Line p1)).bind fun v7=>(zmu v7 (w64 ((Msg.From p1) - (1:Int)))).bind fun v10=>(if decide ((Msg.Kind p1)=(2:Int)) then
 (zAF (Proto.Dir v4) (Msg.Line p1)).bind fun v17=>(zhb v17 (w64 ((Msg.From p1) - (1:Int)))).bind fun v20=>some ((v20.2.2.1,v20.2.1,v20.1))
 else
 some ((([]:List Int),v10.2.1,v10.1)):Option ((List Int)×Int×Entry)).bind fun v15=>(zoa v4 (Msg.Line p1) v15.2.2).bind fun v19=>(zaf (zce p1 v15.1) ((0:Int),v19):Option Proto).bind fun v20=>(if decide ((Entry.Owner v15.2.2)=(Msg.From p1)) then
 (zcD v15.2.2 (-1:Int)).bind fun v24=>some ((decide ((v24.length:Int)=(0:Int))))
 else
 some (false):Option Bool).bind fun v21=>if decide (v15.2.1=(0:Int)) then
 (zAF (Proto.Home v20) (Msg.Line p1)).bind fun v28=>(zaZ v20 (Msg.mk (3:Int) (0:Int) (Msg.From p1) (Msg.Line p1) (0:Int) (List.length v15.1:Int) v21 (0:Int) v28)).bind fun v30=>some v30
 else
 if decide (v15.2.1=(Msg.From p1)) then
 (zaZ v20 (Msg.mk (3:Int) (0:Int) (Msg.From p1) (Msg.Line p1) (0:Int) (List.length v15.1:Int) v21 (1:Int) (0:Int))).bind fun v29=>some v29
 else
 (zaZ v20 (Msg.mk (w64 ((5:Int) + (Msg.Kind p1))) (0:Int) v15.2.1 (Msg.Line p1) (Msg.From p1) (List.length v15.1:Int) false (0:Int) (0:Int))).bind fun v31=>some v31
def zgb:FnT:=⟨[zab,zAR],[zab],fun x=>zgA x.1 x.2⟩
def zfJ:TA :=
 .prim (.fld 3) [.v 1]<|.prim (.fld 1) [.v 1]<|.call 80 zfj [.v 0,.v 2,.v 3] 1<|.prim (.fld 4) [.v 4]<|.prim (.fld 3) [.v 1]<|.prim .get [.v 5,.v 6]<|.prim (.fld 1) [.v 1]<|.prim (.bin .sub) [.v 8,.c (.int .i64 1)]<|.call 105 zk5 [.v 7,.v 9] 3<|.prim (.fld 0) [.v 1]<|.prim (.bin .eql) [.v 13,.c (.int .i64 2)]<|.sub0 [.sl (.int .i64),.int .i64,zan] (.ite (.v 14) (.prim (.fld 4) [.v 4]<|.prim (.fld 3) [.v 1]<|.prim .get [.v 15,.v 16]<|.prim (.fld 1) [.v 1]<|.prim (.bin .sub) [.v 18,.c (.int .i64 1)]<|.call 106 zja [.v 17,.v 19] 4<|.jmp 0 false [.v 22,.v 21,.v 20]) (.jmp 0 false [.c .nil,.v 11,.v 10])) 3<|.prim (.fld 3) [.v 1]<|.call 79 zhA [.v 4,.v 18,.v 17] 1<|.sub0 [zab] (.loop [.int .i64,zab] [.c (.int .i64 0),.v 19] (.prim .len [.v 15]<|.prim (.bin .lss) [.v 20,.v 22]<|.ite (.v 23) (.prim .get [.v 15,.v 20]<|.prim (.bin .add) [.v 24,.c (.int .i64 1)]<|.prim (.fld 3) [.v 1]<|.prim (.fld 1) [.v 1]<|.mkS zcy [.c (.int .i64 4),.c (.int .i64 0),.v 25,.v 26,.v 27,.c (.int .i64 0),.c (.bool false),.c (.int .u32 0),.c (.int .u32 0)]<|.call 76 zam [.v 21,.v 28] 1<|.prim (.bin .add) [.v 20,.c (.int .i64 1)]<|.jmp 0 true [.v 30,.v 29]) (.jmp 1 false [.v 21]))) 1<|.sub0 [.bool] (.prim (.fld 0) [.v 17]<|.prim (.fld 1) [.v 1]<|.prim (.bin .eql) [.v 21,.v 22]<|.ite (.v 23) (.call 107 zbP [.v 17,.c (.int .i64 (-1))] 1<|.prim .len [.v 24]<|.prim (.bin .eql) [.v 25,.c (.int .i64 0)]<|.jmp 0 false [.v 26]) (.jmp 0 false [.c (.bool false)])) 1<|.prim (.bin .eql) [.v 16,.c (.int .i64 0)]<|.ite (.v 22) (.prim (.fld 1) [.v 1]<|.prim (.fld 3) [.v 1]<|.prim .len [.v 15]<|.prim (.fld 3) [.v 20]<|.prim (.fld 3) [.v 1]<|.prim .get [.v 26,.v 27]<|.mkS zcy [.c (.int .i64 3),.c (.int .i64 0),.v 23,.v 24,.c (.int .i64 0),.v 25,.v 21,.c (.int .u32 0),.v 28]<|.call 76 zam [.v 20,.v 29] 1<|.jmp 0 false [.v 30]) (.prim (.fld 1) [.v 1]<|.prim (.bin .eql) [.v 16,.v 23]<|.ite (.v 24) (.prim (.fld 1) [.v 1]<|.prim (.fld 3) [.v 1]<|.prim .len [.v 15]<|.mkS zcy [.c (.int .i64 3),.c (.int .i64 0),.v 25,.v 26,.c (.int .i64 0),.v 27,.v 21,.c (.int .u32 1),.c (.int .u32 0)]<|.call 76 zam [.v 20,.v 28] 1<|.jmp 0 false [.v 29]) (.prim (.fld 0) [.v 1]<|.prim (.bin .add) [.c (.int .i64 5),.v 25]<|.prim (.fld 3) [.v 1]<|.prim (.fld 1) [.v 1]<|.prim .len [.v 15]<|.mkS zcy [.v 26,.c (.int .i64 0),.v 16,.v 27,.v 28,.v 29,.c (.bool false),.c (.int .u32 0),.c (.int .u32 0)]<|.call 76 zam [.v 20,.v 30] 1<|.jmp 0 false [.v 31]))
theorem zjH:zad cx 12 75=some zfJ.erase:=by kernel_rfl
theorem zq3:zAH cx 12 noC 75 zgb:=zaA (t:=zfJ) zjH (fun _=>rfl) (zau [(80,zfj),(105,zk5),(106,zja),(79,zhA),(76,zam),(107,zbP),(76,zam),(76,zam),(76,zam)] (by kernel_rfl) (.cons zpP (.cons zwp (.cons ztv (.cons zr2 (.cons za3 (.cons zgK (.cons za3 (.cons za3 (.cons za3 .nil)))))))))) (fun x=>by kernel_rfl)
def zev (p0:Proto) (p1:Int):Option Proto :=
 (zAF (Proto.Wait p0) p1).bind fun v3=>let v5:Int:=w64 ((Wait.Line v3) - (1:Int))
 if (!(Wait.Came v3))||(decide ((Wait.Got v3)<(Wait.Need v3))) then
 some p0
 else
 (if !(Wait.Keep v3) then
 (zkW p0 p1 v5 (Wait.Val v3)).bind fun v14=>some v14
 else
 some (p0):Option Proto).bind fun v13=>(zbO v13 p1 v5 (bif Wait.Write v3 then (3:Int) else bif Wait.Own v3 then (2:Int) else (1:Int))).bind fun v14=>(zc6 v14 p1 (Wait.mk (0:Int) false false false false false (0:Int) (0:Int) (0:Int))).bind fun v15=>(zaZ v15 (Msg.mk (11:Int) (w64 (p1 + (1:Int))) (0:Int) v5 (0:Int) (0:Int) false (0:Int) (0:Int))).bind fun v18=>some v18
def zfi:FnT:=⟨[zab,.int .i64],[zab],fun x=>zev x.1 x.2⟩
def zkG:TA :=
 .prim (.fld 2) [.v 0]<|.prim .get [.v 2,.v 1]<|.prim (.fld 0) [.v 3]<|.prim (.bin .sub) [.v 4,.c (.int .i64 1)]<|.subp [.bool] (.prim (.fld 3) [.v 3]<|.prim (.un .not) [.v 6]<|.ite (.v 7) (.jmp 0 false [.c (.bool true)]) (.prim (.fld 7) [.v 3]<|.prim (.fld 6) [.v 3]<|.prim (.bin .lss) [.v 8,.v 9]<|.jmp 0 false [.v 10])) 1<|.ite (.v 6) (.jmp 0 false [.v 0]) (.prim (.fld 4) [.v 3]<|.subp [.int .i64] (.ite (.v 7) (.jmp 0 false [.c (.int .i64 2)]) (.jmp 0 false [.c (.int .i64 1)])) 1<|.prim (.fld 1) [.v 3]<|.subp [.int .i64] (.ite (.v 9) (.jmp 0 false [.c (.int .i64 3)]) (.jmp 0 false [.v 8])) 1<|.prim (.fld 5) [.v 3]<|.prim (.un .not) [.v 11]<|.sub0 [zab] (.ite (.v 12) (.prim (.fld 8) [.v 3]<|.call 46 zhd [.v 0,.v 1,.v 5,.v 13] 1<|.jmp 0 false [.v 14]) (.jmp 0 false [.v 0])) 1<|.call 45 zaM [.v 13,.v 1,.v 5,.v 10] 1<|.call 44 zaU [.v 14,.v 1,.c (.agg [(.int .i64 0),(.bool false),(.bool false),(.bool false),(.bool false),(.bool false),(.int .i64 0),(.int .i64 0),(.int .u32 0)])] 1<|.prim (.bin .add) [.v 1,.c (.int .i64 1)]<|.mkS zcy [.c (.int .i64 11),.v 16,.c (.int .i64 0),.v 5,.c (.int .i64 0),.c (.int .i64 0),.c (.bool false),.c (.int .u32 0),.c (.int .u32 0)]<|.call 76 zam [.v 15,.v 17] 1<|.jmp 0 false [.v 18])
theorem zpn:zad cx 12 81=some zkG.erase:=by kernel_rfl
theorem zp8:zAH cx 12 noC 81 zfi:=zaA (t:=zkG) zpn (fun _=>rfl) (zau [(46,zhd),(45,zaM),(44,zaU),(76,zam)] (by kernel_rfl) (.cons zsz (.cons zcu (.cons zc0 (.cons za3 .nil))))) (fun x=>by kernel_rfl)
def zeJ (x5:List (List Int)) (x6:Int) (s:(Int×(List (List Int)))):Option ((Int×(List (List Int)))⊕(List (List Int))) :=
 if decide (s.1<x6) then
 (zAF x5 s.1).bind fun v10=>(zaC 1 v10).bind fun v11=>(zAK 24 s.2 ([v11]:List (List Int))).bind fun v13=>some (Sum.inl (w64 (s.1 + (1:Int)),v13))
 else
 some (Sum.inr (s.2))
def zae (p0:Pool) (p1:Msg):Option (Pool×Int) :=
 (zfx p1).bind fun v2=>((zcZ p0).bind fun v4=>if !v4 then
 some (true)
 else
 some ((!decide (v2.2=(0:Int)))):Option Bool).bind fun v4=>if v4 then
 (let v6:Int:=(List.length (Pool.Frames p0):Int)
 (zaf (zeJ (Pool.Frames p0) v6) ((0:Int),([]:List (List Int))):Option (List (List Int))).bind fun v7=>some (v7):Option (List (List Int))).bind fun v5=>some ((Pool.mk v5,(1:Int)))
 else
 (let v6:Int:=(List.length (Pool.Frames p0):Int)
 (zaf (zeJ (Pool.Frames p0) v6) ((0:Int),([]:List (List Int))):Option (List (List Int))).bind fun v7=>some (v7):Option (List (List Int))).bind fun v5=>((zcL (Pool.mk v5)).bind fun v7=>if decide (v7=(0:Int)) then
 some (((6:Int),v5))
 else
 (zaC 1 v2.1).bind fun v9=>(zAK 24 v5 ([v9]:List (List Int))).bind fun v11=>some (((0:Int),v11)):Option (Int×(List (List Int)))).bind fun v6=>some ((Pool.mk v6.2,v6.1))
def zah:FnT:=⟨[zaJ,zAR],[zaJ,.int .i64],fun x=>zae x.1 x.2⟩
def ziF:TA :=
 .call 120 ziS [.v 1] 2<|.sub0 [.bool] (.call 48 zbi [.v 0] 1<|.prim (.un .not) [.v 4]<|.ite (.v 5) (.jmp 0 false [.c (.bool true)]) (.prim (.bin .neq) [.v 3,.c (.int .i64 0)]<|.jmp 0 false [.v 6])) 1<|.ite (.v 4) (.sub0 [.sl (.sl (.int .u8))] (.prim (.fld 0) [.v 0]<|.prim .len [.v 5]<|.sub0 [.sl (.sl (.int .u8))] (.loop [.int .i64,.sl (.sl (.int .u8))] [.c (.int .i64 0),.c .nil] (.prim (.bin .lss) [.v 7,.v 6]<|.ite (.v 9) (.prim .get [.v 5,.v 7]<|.prim (.clone 1) [.v 10]<|.mkL (.sl (.int .u8)) [.v 11]<|.prim (.app 24) [.v 8,.v 12]<|.prim (.bin .add) [.v 7,.c (.int .i64 1)]<|.jmp 0 true [.v 14,.v 13]) (.jmp 1 false [.v 8]))) 1<|.jmp 0 false [.v 7]) 1<|.mkS zb6 [.v 5]<|.jmp 0 false [.v 6,.c (.int .i64 1)]) (.sub0 [.sl (.sl (.int .u8))] (.prim (.fld 0) [.v 0]<|.prim .len [.v 5]<|.sub0 [.sl (.sl (.int .u8))] (.loop [.int .i64,.sl (.sl (.int .u8))] [.c (.int .i64 0),.c .nil] (.prim (.bin .lss) [.v 7,.v 6]<|.ite (.v 9) (.prim .get [.v 5,.v 7]<|.prim (.clone 1) [.v 10]<|.mkL (.sl (.int .u8)) [.v 11]<|.prim (.app 24) [.v 8,.v 12]<|.prim (.bin .add) [.v 7,.c (.int .i64 1)]<|.jmp 0 true [.v 14,.v 13]) (.jmp 1 false [.v 8]))) 1<|.jmp 0 false [.v 7]) 1<|.sub0 [.int .i64,.sl (.sl (.int .u8))] (.mkS zb6 [.v 5]<|.call 28 zbF [.v 6] 1<|.prim (.bin .eql) [.v 7,.c (.int .i64 0)]<|.ite (.v 8) (.jmp 0 false [.c (.int .i64 6),.v 5]) (.prim (.clone 1) [.v 2]<|.mkL (.sl (.int .u8)) [.v 9]<|.prim (.app 24) [.v 5,.v 10]<|.jmp 0 false [.c (.int .i64 0),.v 11])) 2<|.mkS zb6 [.v 7]<|.jmp 0 false [.v 8,.v 6])
theorem znK:zad cx 12 96=some ziF.erase:=by kernel_rfl
theorem zaR:zAH cx 12 noC 96 zah:=zaA (t:=ziF) znK (fun _=>rfl) (zau [(120,ziS),(48,zbi),(28,zbF)] (by kernel_rfl) (.cons ztS (.cons zeG (.cons zfR .nil)))) (fun x=>by kernel_rfl)
def za9 (x13:Msg) (x46:List Int) (x52:Int) (s:(Int×Pool)):Option ((Int×Pool)⊕Pool) :=
 if decide (s.1<x52) then
 (zAF x46 s.1).bind fun v56=>((zae s.2 (Msg.mk (4:Int) (0:Int) (w64 (v56 + (1:Int))) (Msg.Line x13) (Msg.From x13) (0:Int) false (0:Int) (0:Int))).bind fun v61=>some (v61.1):Option Pool).bind fun v61=>some (Sum.inl (w64 (s.1 + (1:Int)),v61))
 else
 some (Sum.inr (s.2))
def zdx (x21:List (List Int)) (x22:Int) (s:(Int×(List (List Int)))):Option ((Int×(List (List Int)))⊕(List (List Int))) :=
 if decide (s.1<x22) then
 (zAF x21 s.1).bind fun v26=>(zaC 1 v26).bind fun v27=>(zAK 24 s.2 ([v27]:List (List Int))).bind fun v29=>some (Sum.inl (w64 (s.1 + (1:Int)),v29))
 else
 some (Sum.inr (s.2))
def zdD (x16:List Entry) (x19:Int) (s:(Int×(List Entry))):Option ((Int×(List Entry))⊕(List Entry)) :=
 if decide (s.1<x19) then
 (zAF x16 s.1).bind fun v23=>(zaC 1 (Entry.Share v23)).bind fun v26=>(zAK 32 s.2 ([Entry.mk (Entry.Owner v23) v26]:List Entry)).bind fun v29=>some (Sum.inl (w64 (s.1 + (1:Int)),v29))
 else
 some (Sum.inr (s.2))
def zdz (x4:List (List Int)) (x5:Int) (s:(Int×(List (List Int)))):Option ((Int×(List (List Int)))⊕(List (List Int))) :=
 if decide (s.1<x5) then
 (zAF x4 s.1).bind fun v9=>(zaC 4 v9).bind fun v10=>(zAK 24 s.2 ([v10]:List (List Int))).bind fun v12=>some (Sum.inl (w64 (s.1 + (1:Int)),v12))
 else
 some (Sum.inr (s.2))
def zdB (x2:List (List Int)) (x3:Int) (s:(Int×(List (List Int)))):Option ((Int×(List (List Int)))⊕(List (List Int))) :=
 if decide (s.1<x3) then
 (zAF x2 s.1).bind fun v7=>(zaC 8 v7).bind fun v8=>(zAK 24 s.2 ([v8]:List (List Int))).bind fun v10=>some (Sum.inl (w64 (s.1 + (1:Int)),v10))
 else
 some (Sum.inr (s.2))
def zcE (p0:Proto) (p1:Int):Option (Proto×Int) :=
 ((let v3:Int:=(List.length (Proto.State p0):Int)
 (zaf (zdB (Proto.State p0) v3) ((0:Int),([]:List (List Int))):Option (List (List Int))).bind fun v4=>some (v4):Option (List (List Int))).bind fun v3=>(let v5:Int:=(List.length (Proto.Val p0):Int)
 (zaf (zdz (Proto.Val p0) v5) ((0:Int),([]:List (List Int))):Option (List (List Int))).bind fun v6=>some (v6):Option (List (List Int))).bind fun v5=>(zaC 40 (Proto.Wait p0)).bind fun v7=>(zaC 4 (Proto.Home p0)).bind fun v9=>(zaC 8 (Proto.Busy p0)).bind fun v11=>let v19:Int:=(List.length (Proto.Dir p0):Int)
 (zaf (zdD (Proto.Dir p0) v19) ((0:Int),([]:List Entry)):Option (List Entry)).bind fun v20=>let v21:List (List Int):=Pool.Frames (Proto.Pool p0)
 (let v22:Int:=(v21.length:Int)
 (zaf (zdx v21 v22) ((0:Int),([]:List (List Int))):Option (List (List Int))).bind fun v23=>some (v23):Option (List (List Int))).bind fun v22=>some ((v3,v5,v7,v9,v20,v11,v22)):Option ((List (List Int))×(List (List Int))×(List Wait)×(List Int)×(List Entry)×(List Int)×(List (List Int)))).bind fun v2=>(zcl p0).bind fun v9=>if !v9 then
 some ((Proto.mk v2.1 v2.2.1 v2.2.2.1 v2.2.2.2.1 v2.2.2.2.2.1 v2.2.2.2.2.2.1 (Pool.mk v2.2.2.2.2.2.2),(1:Int)))
 else
 (zfB (Proto.Pool p0) p1).bind fun v12=>if decide (v12.2.2=(7:Int)) then
 some ((Proto.mk v2.1 v2.2.1 v2.2.2.1 v2.2.2.2.1 v2.2.2.2.2.1 v2.2.2.2.2.2.1 (Pool.mk v2.2.2.2.2.2.2),v12.2.2))
 else
 (zcL v12.1).bind fun v16=>if decide (v16<(w64 ((List.length (Proto.Wait p0):Int) + (1:Int)))) then
 some ((Proto.mk v2.1 v2.2.1 v2.2.2.1 v2.2.2.2.1 v2.2.2.2.2.1 v2.2.2.2.2.2.1 (Pool.mk v2.2.2.2.2.2.2),(6:Int)))
 else
 (if (!decide (v12.2.2=(0:Int)))||(!(zcX p0 v12.2.1)) then
 some ((v12.1,v2.1,v2.2.1,v2.2.2.1,v2.2.2.2.1,v2.2.2.2.2.1,v2.2.2.2.2.2.1))
 else
 (if decide ((0:Int)<(Msg.To v12.2.1)) then
 let v25:Int:=w64 ((Msg.To v12.2.1) - (1:Int))
 ((zAG (List.length v2.2.2.1:Int) v25).bind fun v26=>(zAG (List.length v2.1:Int) v25).bind fun v27=>(zAG (List.length v2.1:Int) v27).bind fun v28=>(zAF v2.1 v28).bind fun v30=>(zAG (v30.length:Int) (Msg.Line v12.2.1)).bind fun v31=>(zAF v2.2.2.1 v26).bind fun v32=>let v36:Bool:=decide ((Wait.Line v32)=(w64 ((Msg.Line v12.2.1) + (1:Int))))
 (if decide ((Msg.Kind v12.2.1)=(3:Int)) then
 (if v36 then
 (zAF v2.2.2.1 v26).bind fun v39=>if !(Wait.Back v39) then
 (zAF v2.2.2.1 v26).bind fun v42=>some ((!(Wait.Came v42)))
 else
 some (false)
 else
 some (false):Option Bool).bind fun v39=>(if v39 then
 (zAF v2.2.2.1 v26).bind fun v45=>(zAI v2.2.2.1 v26 (Wait.setCame v45 true)).bind fun v47=>(zAF v47 v26).bind fun v48=>(zAI v47 v26 (Wait.setNeed v48 (Msg.Acks v12.2.1))).bind fun v50=>(zAF v50 v26).bind fun v51=>(zAI v50 v26 (Wait.setOwn v51 (Msg.Own v12.2.1))).bind fun v53=>(zAF v53 v26).bind fun v54=>(zAI v53 v26 (Wait.setKeep v54 (decide ((Msg.Num v12.2.1)=(1:Int))))).bind fun v56=>(zAF v56 v26).bind fun v57=>(zAI v56 v26 (Wait.setVal v57 (Msg.Val v12.2.1))).bind fun v59=>((zAG (v59.length:Int) v25).bind fun v60=>(zAF v59 v60).bind fun v61=>if (!(Wait.Came v61))||(decide ((Wait.Got v61)<(Wait.Need v61))) then
 some ((v12.1,v2.1,v2.2.1,v59))
 else
 let v64:Int:=w64 ((Wait.Line v61) - (1:Int))
 (zAG (List.length v2.1:Int) v25).bind fun v67=>(zAG (List.length v2.1:Int) v67).bind fun v68=>(zAF v2.1 v68).bind fun v69=>(zAG (v69.length:Int) v64).bind fun v70=>(zAF v2.1 v68).bind fun v71=>(zAI v71 v70 (bif Wait.Write v61 then (3:Int) else bif Wait.Own v61 then (2:Int) else (1:Int))).bind fun v72=>(zAI v2.1 v68 v72).bind fun v73=>(if !(Wait.Keep v61) then
 (zAG (List.length v2.2.1:Int) v25).bind fun v76=>(zAG (List.length v2.2.1:Int) v76).bind fun v77=>(zAF v2.2.1 v77).bind fun v79=>(zAG (v79.length:Int) v64).bind fun v80=>(zAF v2.2.1 v77).bind fun v81=>(zAI v81 v80 (Wait.Val v61)).bind fun v82=>(zAI v2.2.1 v77 v82).bind fun v83=>some v83
 else
 some (v2.2.1):Option (List (List Int))).bind fun v76=>(zAG (v59.length:Int) v25).bind fun v77=>(zAI v59 v77 (Wait.mk (0:Int) false false false false false (0:Int) (0:Int) (0:Int))).bind fun v78=>((zae v12.1 (Msg.mk (11:Int) (w64 (v25 + (1:Int))) (0:Int) v64 (0:Int) (0:Int) false (0:Int) (0:Int))).bind fun v81=>some (v81.1):Option Pool).bind fun v81=>some ((v81,v73,v76,v78)):Option (Pool×(List (List Int))×(List (List Int))×(List Wait))).bind fun v60=>some ((v60.1,v60.2.1,v60.2.2.1,v60.2.2.2))
 else
 some ((v12.1,v2.1,v2.2.1,v2.2.2.1)):Option (Pool×(List (List Int))×(List (List Int))×(List Wait))).bind fun v40=>some ((v40.1,v40.2.1,v40.2.2.1,v40.2.2.2))
 else
 (if decide ((Msg.Kind v12.2.1)=(5:Int)) then
 (if v36 then
 (zAF v2.2.2.1 v26).bind fun v40=>if Wait.Write v40 then
 (zAF v2.2.2.1 v26).bind fun v42=>some ((decide ((Wait.Got v42)<(255:Int))))
 else
 some (false)
 else
 some (false):Option Bool).bind fun v40=>(if v40 then
 (zAF v2.2.2.1 v26).bind fun v41=>(zAF v2.2.2.1 v26).bind fun v44=>(zAI v2.2.2.1 v26 (Wait.setGot v44 (w64 ((Wait.Got v41) + (1:Int))))).bind fun v46=>((zAG (v46.length:Int) v25).bind fun v47=>(zAF v46 v47).bind fun v48=>if (!(Wait.Came v48))||(decide ((Wait.Got v48)<(Wait.Need v48))) then
 some ((v12.1,v2.1,v2.2.1,v46))
 else
 let v51:Int:=w64 ((Wait.Line v48) - (1:Int))
 (zAG (List.length v2.1:Int) v25).bind fun v54=>(zAG (List.length v2.1:Int) v54).bind fun v55=>(zAF v2.1 v55).bind fun v56=>(zAG (v56.length:Int) v51).bind fun v57=>(zAF v2.1 v55).bind fun v58=>(zAI v58 v57 (bif Wait.Write v48 then (3:Int) else bif Wait.Own v48 then (2:Int) else (1:Int))).bind fun v59=>(zAI v2.1 v55 v59).bind fun v60=>(if !(Wait.Keep v48) then
 (zAG (List.length v2.2.1:Int) v25).bind fun v63=>(zAG (List.length v2.2.1:Int) v63).bind fun v64=>(zAF v2.2.1 v64).bind fun v66=>(zAG (v66.length:Int) v51).bind fun v67=>(zAF v2.2.1 v64).bind fun v68=>(zAI v68 v67 (Wait.Val v48)).bind fun v69=>(zAI v2.2.1 v64 v69).bind fun v70=>some v70
 else
 some (v2.2.1):Option (List (List Int))).bind fun v63=>(zAG (v46.length:Int) v25).bind fun v64=>(zAI v46 v64 (Wait.mk (0:Int) false false false false false (0:Int) (0:Int) (0:Int))).bind fun v65=>((zae v12.1 (Msg.mk (11:Int) (w64 (v25 + (1:Int))) (0:Int) v51 (0:Int) (0:Int) false (0:Int) (0:Int))).bind fun v68=>some (v68.1):Option Pool).bind fun v68=>some ((v68,v60,v63,v65)):Option (Pool×(List (List Int))×(List (List Int))×(List Wait))).bind fun v47=>some ((v47.1,v47.2.1,v47.2.2.1,v47.2.2.2))
 else
 some ((v12.1,v2.1,v2.2.1,v2.2.2.1)):Option (Pool×(List (List Int))×(List (List Int))×(List Wait))).bind fun v41=>some ((v41.1,v41.2.1,v41.2.2.1,v41.2.2.2))
 else
 (if decide ((Msg.Kind v12.2.1)=(4:Int)) then
 (zAF v2.1 v28).bind fun v41=>(zAF v41 v31).bind fun v42=>(if decide (v42=(1:Int)) then
 (zAF v2.1 v28).bind fun v44=>(zAI v44 v31 (0:Int)).bind fun v45=>(zAI v2.1 v28 v45).bind fun v46=>some v46
 else
 some (v2.1):Option (List (List Int))).bind fun v44=>((zae v12.1 (Msg.mk (5:Int) (w64 (v25 + (1:Int))) (Msg.For v12.2.1) (Msg.Line v12.2.1) (0:Int) (0:Int) false (0:Int) (0:Int))).bind fun v49=>some (v49.1):Option Pool).bind fun v49=>some ((v49,v44,v2.2.2.1))
 else
 let v41:Bool:=decide ((Msg.Kind v12.2.1)=(6:Int))
 (if bif v41 then v41 else decide ((Msg.Kind v12.2.1)=(7:Int)) then
 ((zAG (List.length v2.1:Int) v25).bind fun v43=>(zAG (List.length v2.1:Int) v43).bind fun v44=>(zAF v2.1 v44).bind fun v46=>(zAG (v46.length:Int) (Msg.Line v12.2.1)).bind fun v47=>(zAF v2.1 v44).bind fun v48=>(zAF v48 v47).bind fun v49=>if !(zcU v49) then
 some ((v12.1,v2.1))
 else
 let v53:Bool:=decide ((Msg.Kind v12.2.1)=(7:Int))
 (zAG (List.length v2.2.1:Int) v25).bind fun v58=>(zAG (List.length v2.2.1:Int) v58).bind fun v59=>(zAF v2.2.1 v59).bind fun v61=>(zAG (v61.length:Int) (Msg.Line v12.2.1)).bind fun v62=>(zAF v2.2.1 v59).bind fun v63=>(zAF v63 v62).bind fun v64=>((zae v12.1 (Msg.mk (3:Int) (w64 (v25 + (1:Int))) (Msg.For v12.2.1) (Msg.Line v12.2.1) (0:Int) (Msg.Acks v12.2.1) v53 (0:Int) v64)).bind fun v66=>some (v66.1):Option Pool).bind fun v66=>(zAF v2.1 v44).bind fun v67=>(zAI v67 v47 (4:Int)).bind fun v68=>(zAI v2.1 v44 v68).bind fun v69=>(if v53 then
 (zAF v69 v44).bind fun v70=>(zAI v70 v47 (0:Int)).bind fun v71=>(zAI v69 v44 v71).bind fun v72=>some v72
 else
 some (v69):Option (List (List Int))).bind fun v70=>some ((v66,v70)):Option (Pool×(List (List Int)))).bind fun v43=>some ((v43.1,v43.2,v2.2.2.1))
 else
 (if decide ((Msg.Kind v12.2.1)=(10:Int)) then
 (if !v36 then
 some (true)
 else
 (zAF v2.2.2.1 v26).bind fun v45=>some ((Wait.Came v45)):Option Bool).bind fun v44=>(if v44 then
 some ((v12.1,v2.2.2.1))
 else
 ((zAF v2.2.2.1 v26).bind fun v45=>if Wait.Back v45 then
 (zAF v2.1 v28).bind fun v47=>(zAF v47 v31).bind fun v48=>some ((!(zcU v48)))
 else
 some (false):Option Bool).bind fun v45=>(if v45 then
 (zAI v2.2.2.1 v26 (Wait.mk (0:Int) false false false false false (0:Int) (0:Int) (0:Int))).bind fun v46=>some ((v12.1,v46))
 else
 ((zAG (List.length v2.2.2.1:Int) v25).bind fun v46=>(zAF v2.2.2.1 v46).bind fun v47=>let v52:Msg:=Msg.mk (1:Int) (w64 (v25 + (1:Int))) (0:Int) (w64 ((Wait.Line v47) - (1:Int))) (w64 (v25 + (1:Int))) (0:Int) false (0:Int) (0:Int)
 (if Wait.Back v47 then
 (zAG (List.length v2.2.1:Int) v25).bind fun v54=>(zAG (List.length v2.2.1:Int) v54).bind fun v55=>(zAF v2.2.1 v55).bind fun v57=>(zAG (v57.length:Int) (Msg.Line v52)).bind fun v58=>(zAF v2.2.1 v55).bind fun v59=>(zAF v59 v58).bind fun v60=>some ((Msg.setVal (Msg.setFor (Msg.setKind v52 (8:Int)) (0:Int)) v60))
 else
 some ((bif Wait.Write v47 then Msg.setKind v52 (2:Int) else v52)):Option Msg).bind fun v54=>((zae v12.1 v54).bind fun v55=>some (v55.1):Option Pool).bind fun v55=>some (v55):Option Pool).bind fun v46=>some ((v46,v2.2.2.1)):Option (Pool×(List Wait))).bind fun v46=>some ((v46.1,v46.2)):Option (Pool×(List Wait))).bind fun v45=>some ((v45.1,v2.1,v45.2))
 else
 (if decide ((Msg.Kind v12.2.1)=(9:Int)) then
 (if v36 then
 (zAF v2.2.2.1 v26).bind fun v45=>some ((Wait.Back v45))
 else
 some (false):Option Bool).bind fun v45=>(if v45 then
 (zAF v2.1 v28).bind fun v46=>(zAI v46 v31 (0:Int)).bind fun v47=>(zAI v2.1 v28 v47).bind fun v48=>(zAI v2.2.2.1 v26 (Wait.mk (0:Int) false false false false false (0:Int) (0:Int) (0:Int))).bind fun v49=>some ((v48,v49))
 else
 some ((v2.1,v2.2.2.1)):Option ((List (List Int))×(List Wait))).bind fun v46=>some ((v46.1,v46.2))
 else
 some ((v2.1,v2.2.2.1)):Option ((List (List Int))×(List Wait))).bind fun v45=>some ((v12.1,v45.1,v45.2)):Option (Pool×(List (List Int))×(List Wait))).bind fun v44=>some ((v44.1,v44.2.1,v44.2.2)):Option (Pool×(List (List Int))×(List Wait))).bind fun v43=>some ((v43.1,v43.2.1,v43.2.2)):Option (Pool×(List (List Int))×(List Wait))).bind fun v41=>some ((v41.1,v41.2.1,v2.2.1,v41.2.2)):Option (Pool×(List (List Int))×(List (List Int))×(List Wait))).bind fun v40=>some ((v40.1,v40.2.1,v40.2.2.1,v40.2.2.2)):Option (Pool×(List (List Int))×(List (List Int))×(List Wait))).bind fun v39=>some ((v39.1,v39.2.1,v39.2.2.1,v39.2.2.2)):Option (Pool×(List (List Int))×(List (List Int))×(List Wait))).bind fun v26=>some ((v26.1,v26.2.1,v26.2.2.1,v26.2.2.2,v2.2.2.2.1,v2.2.2.2.2.1,v2.2.2.2.2.2.1))
 else
 (if decide ((0:Int)<(Msg.From v12.2.1)) then
 (let v27:Bool:=decide ((Msg.Kind v12.2.1)=(1:Int))
 zaO (if bif v27 then v27 else decide ((Msg.Kind v12.2.1)=(2:Int)) then
 (if !decide ((Msg.For v12.2.1)=(Msg.From v12.2.1)) then
 some ((v12.1,v2.2.2.2.2.1,v2.2.2.2.2.2.1))
 else
 (zAG (List.length v2.2.2.2.2.2.1:Int) (Msg.Line v12.2.1)).bind fun v33=>(zAF v2.2.2.2.2.2.1 v33).bind fun v34=>if decide ((0:Int)<v34) then
 ((zae v12.1 (Msg.mk (10:Int) (0:Int) (Msg.From v12.2.1) (Msg.Line v12.2.1) (0:Int) (0:Int) false (0:Int) (0:Int))).bind fun v39=>some (v39.1):Option Pool).bind fun v39=>some ((v39,v2.2.2.2.2.1,v2.2.2.2.2.2.1))
 else
 (zAG (List.length v2.2.2.2.2.2.1:Int) (Msg.Line v12.2.1)).bind fun v38=>(zAI v2.2.2.2.2.2.1 v38 (Msg.From v12.2.1)).bind fun v39=>(zAG (List.length v2.2.2.2.2.1:Int) (Msg.Line v12.2.1)).bind fun v41=>(zAF v2.2.2.2.2.1 v41).bind fun v42=>(if decide ((Msg.Kind v12.2.1)=(2:Int)) then
 (zck v42 (w64 ((Msg.From v12.2.1) - (1:Int)))).bind fun v47=>some ((v47.2.1,v47.2.2.1,(7:Int),v47.1))
 else
 (zc5 v42 (w64 ((Msg.From v12.2.1) - (1:Int)))).bind fun v47=>some ((v47.2.1,([]:List Int),(6:Int),v47.1)):Option (Int×(List Int)×Int×Entry)).bind fun v45=>(zAG (List.length v2.2.2.2.2.1:Int) (Msg.Line v12.2.1)).bind fun v50=>(zAI v2.2.2.2.2.1 v50 v45.2.2.2).bind fun v51=>let v52:Int:=(List.length v45.2.1:Int)
 (zaf (za9 v12.2.1 v45.2.1 v52) ((0:Int),v12.1):Option Pool).bind fun v53=>(if decide ((Entry.Owner v45.2.2.2)=(Msg.From v12.2.1)) then
 (zbT v45.2.2.2).bind fun v57=>some v57
 else
 some (false):Option Bool).bind fun v54=>(if decide (v45.1=(0:Int)) then
 (zAG (List.length v2.2.2.2.1:Int) (Msg.Line v12.2.1)).bind fun v60=>(zAF v2.2.2.2.1 v60).bind fun v61=>((zae v53 (Msg.mk (3:Int) (0:Int) (Msg.From v12.2.1) (Msg.Line v12.2.1) (0:Int) (List.length v45.2.1:Int) v54 (0:Int) v61)).bind fun v63=>some (v63.1):Option Pool).bind fun v63=>some v63
 else
 (if decide (v45.1=(Msg.From v12.2.1)) then
 ((zae v53 (Msg.mk (3:Int) (0:Int) (Msg.From v12.2.1) (Msg.Line v12.2.1) (0:Int) (List.length v45.2.1:Int) v54 (1:Int) (0:Int))).bind fun v62=>some (v62.1):Option Pool).bind fun v62=>some v62
 else
 ((zae v53 (Msg.mk v45.2.2.1 (0:Int) v45.1 (Msg.Line v12.2.1) (Msg.From v12.2.1) (List.length v45.2.1:Int) false (0:Int) (0:Int))).bind fun v62=>some (v62.1):Option Pool).bind fun v62=>some (v62):Option Pool).bind fun v58=>some (v58):Option Pool).bind fun v56=>some ((v56,v51,v39)):Option (Pool×(List Entry)×(List Int))).bind fun v29=>some (Sum.inl (v29.1,v2.2.2.2.1,v29.2.1,v29.2.2))
 else
 zaO (if decide ((Msg.Kind v12.2.1)=(8:Int)) then
 (zAG (List.length v2.2.2.2.2.2.1:Int) (Msg.Line v12.2.1)).bind fun v31=>(zAF v2.2.2.2.2.2.1 v31).bind fun v32=>if decide ((0:Int)<v32) then
 ((zae v12.1 (Msg.mk (10:Int) (0:Int) (Msg.From v12.2.1) (Msg.Line v12.2.1) (0:Int) (0:Int) false (0:Int) (0:Int))).bind fun v37=>some (v37.1):Option Pool).bind fun v37=>some (Sum.inr (Sum.inr ((v37,v2.2.2.2.1,v2.2.2.2.2.1,v2.2.2.2.2.2.1))))
 else
 (zAG (List.length v2.2.2.2.2.1:Int) (Msg.Line v12.2.1)).bind fun v35=>(zAF v2.2.2.2.2.1 v35).bind fun v36=>(zfc v36 (w64 ((Msg.From v12.2.1) - (1:Int)))).bind fun v39=>(if decide (v39.2=(0:Int)) then
 (zAG (List.length v2.2.2.2.2.1:Int) (Msg.Line v12.2.1)).bind fun v45=>(zAI v2.2.2.2.2.1 v45 v39.1).bind fun v46=>(zAG (List.length v2.2.2.2.1:Int) (Msg.Line v12.2.1)).bind fun v47=>(zAI v2.2.2.2.1 v47 (Msg.Val v12.2.1)).bind fun v48=>some ((v48,v46))
 else
 some ((v2.2.2.2.1,v2.2.2.2.2.1)):Option ((List Int)×(List Entry))).bind fun v42=>((zae v12.1 (Msg.mk (9:Int) (0:Int) (Msg.From v12.2.1) (Msg.Line v12.2.1) (0:Int) (0:Int) false (0:Int) (0:Int))).bind fun v47=>some (v47.1):Option Pool).bind fun v47=>some (Sum.inl (v47,v42.1,v42.2,v2.2.2.2.2.2.1))
 else
 (if decide ((Msg.Kind v12.2.1)=(11:Int)) then
 (zAG (List.length v2.2.2.2.2.2.1:Int) (Msg.Line v12.2.1)).bind fun v32=>(zAF v2.2.2.2.2.2.1 v32).bind fun v33=>(if decide (v33=(Msg.From v12.2.1)) then
 (zAG (List.length v2.2.2.2.2.2.1:Int) (Msg.Line v12.2.1)).bind fun v37=>(zAI v2.2.2.2.2.2.1 v37 (0:Int)).bind fun v38=>some v38
 else
 some (v2.2.2.2.2.2.1):Option (List Int)).bind fun v36=>some v36
 else
 some (v2.2.2.2.2.2.1):Option (List Int)).bind fun v31=>some (Sum.inl (v12.1,v2.2.2.2.1,v2.2.2.2.2.1,v31)):Option ((Pool×(List Int)×(List Entry)×(List Int))⊕(Pool×(List Int)×(List Entry)×(List Int))⊕(Pool×(List Int)×(List Entry)×(List Int)))) fun v30=>some (Sum.inl (v30.1,v30.2.1,v30.2.2.1,v30.2.2.2)):Option ((Pool×(List Int)×(List Entry)×(List Int))⊕(Pool×(List Int)×(List Entry)×(List Int)))) fun v29=>some ((v29.1,v29.2.1,v29.2.2.1,v29.2.2.2)):Option (Pool×(List Int)×(List Entry)×(List Int))).bind fun v26=>some ((v26.1,v26.2.1,v26.2.2.1,v26.2.2.2))
 else
 some ((v12.1,v2.2.2.2.1,v2.2.2.2.2.1,v2.2.2.2.2.2.1)):Option (Pool×(List Int)×(List Entry)×(List Int))).bind fun v26=>some ((v26.1,v2.1,v2.2.1,v2.2.2.1,v26.2.1,v26.2.2.1,v26.2.2.2)):Option (Pool×(List (List Int))×(List (List Int))×(List Wait)×(List Int)×(List Entry)×(List Int))).bind fun v24=>some ((v24.1,v24.2.1,v24.2.2.1,v24.2.2.2.1,v24.2.2.2.2.1,v24.2.2.2.2.2.1,v24.2.2.2.2.2.2)):Option (Pool×(List (List Int))×(List (List Int))×(List Wait)×(List Int)×(List Entry)×(List Int))).bind fun v22=>some ((Proto.mk v22.2.1 v22.2.2.1 v22.2.2.2.1 v22.2.2.2.2.1 v22.2.2.2.2.2.1 v22.2.2.2.2.2.2 v22.1,v12.2.2))
def zef:FnT:=⟨[zab,.int .i64],[zab,.int .i64],fun x=>zcE x.1 x.2⟩
def zeg:TA :=
 .sub0 [.sl (.sl (.int .i64)),.sl (.sl (.int .u32)),.sl zbX,.sl (.int .u32),.sl zan,.sl (.int .i64),.sl (.sl (.int .u8))] (.prim (.fld 0) [.v 0]<|.sub0 [.sl (.sl (.int .i64))] (.prim .len [.v 2]<|.sub0 [.sl (.sl (.int .i64))] (.loop [.int .i64,.sl (.sl (.int .i64))] [.c (.int .i64 0),.c .nil] (.prim (.bin .lss) [.v 4,.v 3]<|.ite (.v 6) (.prim .get [.v 2,.v 4]<|.prim (.clone 8) [.v 7]<|.mkL (.sl (.int .i64)) [.v 8]<|.prim (.app 24) [.v 5,.v 9]<|.prim (.bin .add) [.v 4,.c (.int .i64 1)]<|.jmp 0 true [.v 11,.v 10]) (.jmp 1 false [.v 5]))) 1<|.jmp 0 false [.v 4]) 1<|.prim (.fld 1) [.v 0]<|.sub0 [.sl (.sl (.int .u32))] (.prim .len [.v 4]<|.sub0 [.sl (.sl (.int .u32))] (.loop [.int .i64,.sl (.sl (.int .u32))] [.c (.int .i64 0),.c .nil] (.prim (.bin .lss) [.v 6,.v 5]<|.ite (.v 8) (.prim .get [.v 4,.v 6]<|.prim (.clone 4) [.v 9]<|.mkL (.sl (.int .u32)) [.v 10]<|.prim (.app 24) [.v 7,.v 11]<|.prim (.bin .add) [.v 6,.c (.int .i64 1)]<|.jmp 0 true [.v 13,.v 12]) (.jmp 1 false [.v 7]))) 1<|.jmp 0 false [.v 6]) 1<|.prim (.fld 2) [.v 0]<|.prim (.clone 40) [.v 6]<|.prim (.fld 3) [.v 0]<|.prim (.clone 4) [.v 8]<|.prim (.fld 5) [.v 0]<|.prim (.clone 8) [.v 10]<|.prim (.fld 0) [.v 0]<|.prim (.fld 1) [.v 0]<|.prim (.fld 2) [.v 0]<|.prim (.fld 3) [.v 0]<|.prim (.fld 4) [.v 0]<|.prim (.fld 5) [.v 0]<|.prim (.fld 6) [.v 0]<|.prim .len [.v 16]<|.sub0 [.sl zan] (.loop [.int .i64,.sl zan] [.c (.int .i64 0),.c .nil] (.prim (.bin .lss) [.v 20,.v 19]<|.ite (.v 22) (.prim .get [.v 16,.v 20]<|.prim (.fld 0) [.v 23]<|.prim (.fld 1) [.v 23]<|.prim (.clone 1) [.v 25]<|.mkS zbl [.v 24,.v 26]<|.mkL zan [.v 27]<|.prim (.app 32) [.v 21,.v 28]<|.prim (.bin .add) [.v 20,.c (.int .i64 1)]<|.jmp 0 true [.v 30,.v 29]) (.jmp 1 false [.v 21]))) 1<|.prim (.fld 0) [.v 18]<|.sub0 [.sl (.sl (.int .u8))] (.prim .len [.v 21]<|.sub0 [.sl (.sl (.int .u8))] (.loop [.int .i64,.sl (.sl (.int .u8))] [.c (.int .i64 0),.c .nil] (.prim (.bin .lss) [.v 23,.v 22]<|.ite (.v 25) (.prim .get [.v 21,.v 23]<|.prim (.clone 1) [.v 26]<|.mkL (.sl (.int .u8)) [.v 27]<|.prim (.app 24) [.v 24,.v 28]<|.prim (.bin .add) [.v 23,.c (.int .i64 1)]<|.jmp 0 true [.v 30,.v 29]) (.jmp 1 false [.v 24]))) 1<|.jmp 0 false [.v 23]) 1<|.jmp 0 false [.v 3,.v 5,.v 7,.v 9,.v 20,.v 11,.v 22]) 7<|.call 19 zby [.v 0] 1<|.prim (.un .not) [.v 9]<|.ite (.v 10) (.mkS zb6 [.v 8]<|.mkS za7 [.v 2,.v 3,.v 4,.v 5,.v 6,.v 7,.v 11]<|.jmp 0 false [.v 12,.c (.int .i64 1)]) (.prim (.fld 6) [.v 0]<|.call 27 zjs [.v 11,.v 1] 3<|.prim (.bin .eql) [.v 14,.c (.int .i64 7)]<|.ite (.v 15) (.mkS zb6 [.v 8]<|.mkS za7 [.v 2,.v 3,.v 4,.v 5,.v 6,.v 7,.v 16]<|.jmp 0 false [.v 17,.v 14]) (.call 28 zbF [.v 12] 1<|.prim (.fld 2) [.v 0]<|.prim .len [.v 17]<|.prim (.bin .add) [.v 18,.c (.int .i64 1)]<|.prim (.bin .lss) [.v 16,.v 19]<|.ite (.v 20) (.mkS zb6 [.v 8]<|.mkS za7 [.v 2,.v 3,.v 4,.v 5,.v 6,.v 7,.v 21]<|.jmp 0 false [.v 22,.c (.int .i64 6)]) (.subp [.bool] (.prim (.bin .neq) [.v 14,.c (.int .i64 0)]<|.ite (.v 21) (.jmp 0 false [.c (.bool true)]) (.callp 29 zhw [.v 0,.v 13] 1<|.prim (.un .not) [.v 22]<|.jmp 0 false [.v 23])) 1<|.sub0 [zaJ,.sl (.sl (.int .i64)),.sl (.sl (.int .u32)),.sl zbX,.sl (.int .u32),.sl zan,.sl (.int .i64)] (.ite (.v 21) (.jmp 0 false [.v 12,.v 2,.v 3,.v 4,.v 5,.v 6,.v 7]) (.prim (.fld 2) [.v 13]<|.prim (.bin .gtr) [.v 22,.c (.int .i64 0)]<|.sub0 [zaJ,.sl (.sl (.int .i64)),.sl (.sl (.int .u32)),.sl zbX,.sl (.int .u32),.sl zan,.sl (.int .i64)] (.ite (.v 23) (.prim (.fld 2) [.v 13]<|.prim (.bin .sub) [.v 24,.c (.int .i64 1)]<|.sub0 [zaJ,.sl (.sl (.int .i64)),.sl (.sl (.int .u32)),.sl zbX] (.prim .idx [.v 4,.v 25]<|.prim .idx [.v 2,.v 25]<|.prim .idx [.v 2,.v 27]<|.prim (.fld 3) [.v 13]<|.prim .get [.v 2,.v 28]<|.prim .idx [.v 30,.v 29]<|.prim .get [.v 4,.v 26]<|.prim (.fld 0) [.v 32]<|.prim (.fld 3) [.v 13]<|.prim (.bin .add) [.v 34,.c (.int .i64 1)]<|.prim (.bin .eql) [.v 33,.v 35]<|.prim (.fld 0) [.v 13]<|.prim (.bin .eql) [.v 37,.c (.int .i64 3)]<|.sub0 [zaJ,.sl (.sl (.int .i64)),.sl (.sl (.int .u32)),.sl zbX] (.ite (.v 38) (.sub0 [.bool] (.ite (.v 36) (.prim .get [.v 4,.v 26]<|.prim (.fld 2) [.v 39]<|.prim (.un .not) [.v 40]<|.ite (.v 41) (.prim .get [.v 4,.v 26]<|.prim (.fld 3) [.v 42]<|.prim (.un .not) [.v 43]<|.jmp 0 false [.v 44]) (.jmp 0 false [.c (.bool false)])) (.jmp 0 false [.c (.bool false)])) 1<|.sub0 [zaJ,.sl (.sl (.int .i64)),.sl (.sl (.int .u32)),.sl zbX] (.ite (.v 39) (.prim (.fld 5) [.v 13]<|.prim (.fld 6) [.v 13]<|.prim (.fld 7) [.v 13]<|.prim (.bin .eql) [.v 42,.c (.int .u32 1)]<|.prim (.fld 8) [.v 13]<|.prim .get [.v 4,.v 26]<|.prim (.setf 3) [.v 45,.c (.bool true)]<|.prim .set [.v 4,.v 26,.v 46]<|.prim .get [.v 47,.v 26]<|.prim (.setf 6) [.v 48,.v 40]<|.prim .set [.v 47,.v 26,.v 49]<|.prim .get [.v 50,.v 26]<|.prim (.setf 4) [.v 51,.v 41]<|.prim .set [.v 50,.v 26,.v 52]<|.prim .get [.v 53,.v 26]<|.prim (.setf 5) [.v 54,.v 43]<|.prim .set [.v 53,.v 26,.v 55]<|.prim .get [.v 56,.v 26]<|.prim (.setf 8) [.v 57,.v 44]<|.prim .set [.v 56,.v 26,.v 58]<|.sub0 [zaJ,.sl (.sl (.int .i64)),.sl (.sl (.int .u32)),.sl zbX] (.prim .idx [.v 59,.v 25]<|.prim .get [.v 59,.v 60]<|.subp [.bool] (.prim (.fld 3) [.v 61]<|.prim (.un .not) [.v 62]<|.ite (.v 63) (.jmp 0 false [.c (.bool true)]) (.prim (.fld 7) [.v 61]<|.prim (.fld 6) [.v 61]<|.prim (.bin .lss) [.v 64,.v 65]<|.jmp 0 false [.v 66])) 1<|.ite (.v 62) (.jmp 0 false [.v 12,.v 2,.v 3,.v 59]) (.prim (.fld 0) [.v 61]<|.prim (.bin .sub) [.v 63,.c (.int .i64 1)]<|.prim (.fld 1) [.v 61]<|.subp [.int .i64] (.ite (.v 65) (.jmp 0 false [.c (.int .i64 3)]) (.prim (.fld 4) [.v 61]<|.subp [.int .i64] (.ite (.v 66) (.jmp 0 false [.c (.int .i64 2)]) (.jmp 0 false [.c (.int .i64 1)])) 1<|.jmp 0 false [.v 67])) 1<|.prim .idx [.v 2,.v 25]<|.prim .idx [.v 2,.v 67]<|.prim .get [.v 2,.v 68]<|.prim .idx [.v 69,.v 64]<|.prim .get [.v 2,.v 68]<|.prim .set [.v 71,.v 70,.v 66]<|.prim .set [.v 2,.v 68,.v 72]<|.prim (.fld 5) [.v 61]<|.prim (.un .not) [.v 74]<|.sub0 [.sl (.sl (.int .u32))] (.ite (.v 75) (.prim .idx [.v 3,.v 25]<|.prim .idx [.v 3,.v 76]<|.prim (.fld 8) [.v 61]<|.prim .get [.v 3,.v 77]<|.prim .idx [.v 79,.v 64]<|.prim .get [.v 3,.v 77]<|.prim .set [.v 81,.v 80,.v 78]<|.prim .set [.v 3,.v 77,.v 82]<|.jmp 0 false [.v 83]) (.jmp 0 false [.v 3])) 1<|.prim .idx [.v 59,.v 25]<|.primH .set zbX [.v 59,.v 77,.c (.agg [(.int .i64 0),(.bool false),(.bool false),(.bool false),(.bool false),(.bool false),(.int .i64 0),(.int .i64 0),(.int .u32 0)])]<|.prim (.bin .add) [.v 25,.c (.int .i64 1)]<|.mkS zcy [.c (.int .i64 11),.v 79,.c (.int .i64 0),.v 64,.c (.int .i64 0),.c (.int .i64 0),.c (.bool false),.c (.int .u32 0),.c (.int .u32 0)]<|.sub0 [zaJ] (.call 96 zah [.v 12,.v 80] 2<|.jmp 0 false [.v 81]) 1<|.jmp 0 false [.v 81,.v 73,.v 76,.v 78])) 4<|.jmp 0 false [.v 60,.v 61,.v 62,.v 63]) (.jmp 0 false [.v 12,.v 2,.v 3,.v 4])) 4<|.jmp 0 false [.v 40,.v 41,.v 42,.v 43]) (.prim (.bin .eql) [.v 37,.c (.int .i64 5)]<|.sub0 [zaJ,.sl (.sl (.int .i64)),.sl (.sl (.int .u32)),.sl zbX] (.ite (.v 39) (.sub0 [.bool] (.ite (.v 36) (.prim .get [.v 4,.v 26]<|.prim (.fld 1) [.v 40]<|.ite (.v 41) (.prim .get [.v 4,.v 26]<|.prim (.fld 7) [.v 42]<|.prim (.bin .lss) [.v 43,.c (.int .i64 255)]<|.jmp 0 false [.v 44]) (.jmp 0 false [.c (.bool false)])) (.jmp 0 false [.c (.bool false)])) 1<|.sub0 [zaJ,.sl (.sl (.int .i64)),.sl (.sl (.int .u32)),.sl zbX] (.ite (.v 40) (.prim .get [.v 4,.v 26]<|.prim (.fld 7) [.v 41]<|.prim (.bin .add) [.v 42,.c (.int .i64 1)]<|.prim .get [.v 4,.v 26]<|.prim (.setf 7) [.v 44,.v 43]<|.prim .set [.v 4,.v 26,.v 45]<|.sub0 [zaJ,.sl (.sl (.int .i64)),.sl (.sl (.int .u32)),.sl zbX] (.prim .idx [.v 46,.v 25]<|.prim .get [.v 46,.v 47]<|.subp [.bool] (.prim (.fld 3) [.v 48]<|.prim (.un .not) [.v 49]<|.ite (.v 50) (.jmp 0 false [.c (.bool true)]) (.prim (.fld 7) [.v 48]<|.prim (.fld 6) [.v 48]<|.prim (.bin .lss) [.v 51,.v 52]<|.jmp 0 false [.v 53])) 1<|.ite (.v 49) (.jmp 0 false [.v 12,.v 2,.v 3,.v 46]) (.prim (.fld 0) [.v 48]<|.prim (.bin .sub) [.v 50,.c (.int .i64 1)]<|.prim (.fld 1) [.v 48]<|.subp [.int .i64] (.ite (.v 52) (.jmp 0 false [.c (.int .i64 3)]) (.prim (.fld 4) [.v 48]<|.subp [.int .i64] (.ite (.v 53) (.jmp 0 false [.c (.int .i64 2)]) (.jmp 0 false [.c (.int .i64 1)])) 1<|.jmp 0 false [.v 54])) 1<|.prim .idx [.v 2,.v 25]<|.prim .idx [.v 2,.v 54]<|.prim .get [.v 2,.v 55]<|.prim .idx [.v 56,.v 51]<|.prim .get [.v 2,.v 55]<|.prim .set [.v 58,.v 57,.v 53]<|.prim .set [.v 2,.v 55,.v 59]<|.prim (.fld 5) [.v 48]<|.prim (.un .not) [.v 61]<|.sub0 [.sl (.sl (.int .u32))] (.ite (.v 62) (.prim .idx [.v 3,.v 25]<|.prim .idx [.v 3,.v 63]<|.prim (.fld 8) [.v 48]<|.prim .get [.v 3,.v 64]<|.prim .idx [.v 66,.v 51]<|.prim .get [.v 3,.v 64]<|.prim .set [.v 68,.v 67,.v 65]<|.prim .set [.v 3,.v 64,.v 69]<|.jmp 0 false [.v 70]) (.jmp 0 false [.v 3])) 1<|.prim .idx [.v 46,.v 25]<|.primH .set zbX [.v 46,.v 64,.c (.agg [(.int .i64 0),(.bool false),(.bool false),(.bool false),(.bool false),(.bool false),(.int .i64 0),(.int .i64 0),(.int .u32 0)])]<|.prim (.bin .add) [.v 25,.c (.int .i64 1)]<|.mkS zcy [.c (.int .i64 11),.v 66,.c (.int .i64 0),.v 51,.c (.int .i64 0),.c (.int .i64 0),.c (.bool false),.c (.int .u32 0),.c (.int .u32 0)]<|.sub0 [zaJ] (.call 96 zah [.v 12,.v 67] 2<|.jmp 0 false [.v 68]) 1<|.jmp 0 false [.v 68,.v 60,.v 63,.v 65])) 4<|.jmp 0 false [.v 47,.v 48,.v 49,.v 50]) (.jmp 0 false [.v 12,.v 2,.v 3,.v 4])) 4<|.jmp 0 false [.v 41,.v 42,.v 43,.v 44]) (.prim (.bin .eql) [.v 37,.c (.int .i64 4)]<|.sub0 [zaJ,.sl (.sl (.int .i64)),.sl zbX] (.ite (.v 40) (.prim .get [.v 2,.v 28]<|.prim .get [.v 41,.v 31]<|.prim (.bin .eql) [.v 42,.c (.int .i64 1)]<|.sub0 [.sl (.sl (.int .i64))] (.ite (.v 43) (.prim .get [.v 2,.v 28]<|.prim .set [.v 44,.v 31,.c (.int .i64 0)]<|.prim .set [.v 2,.v 28,.v 45]<|.jmp 0 false [.v 46]) (.jmp 0 false [.v 2])) 1<|.prim (.bin .add) [.v 25,.c (.int .i64 1)]<|.prim (.fld 4) [.v 13]<|.prim (.fld 3) [.v 13]<|.mkS zcy [.c (.int .i64 5),.v 45,.v 46,.v 47,.c (.int .i64 0),.c (.int .i64 0),.c (.bool false),.c (.int .u32 0),.c (.int .u32 0)]<|.sub0 [zaJ] (.call 96 zah [.v 12,.v 48] 2<|.jmp 0 false [.v 49]) 1<|.jmp 0 false [.v 49,.v 44,.v 4]) (.prim (.bin .eql) [.v 37,.c (.int .i64 6)]<|.subp [.bool] (.ite (.v 41) (.jmp 0 false [.v 41]) (.prim (.bin .eql) [.v 37,.c (.int .i64 7)]<|.jmp 0 false [.v 42])) 1<|.sub0 [zaJ,.sl (.sl (.int .i64)),.sl zbX] (.ite (.v 42) (.sub0 [zaJ,.sl (.sl (.int .i64))] (.prim .idx [.v 2,.v 25]<|.prim .idx [.v 2,.v 43]<|.prim (.fld 3) [.v 13]<|.prim .get [.v 2,.v 44]<|.prim .idx [.v 46,.v 45]<|.prim .get [.v 2,.v 44]<|.prim .get [.v 48,.v 47]<|.callp 69 zdj [.v 49] 1<|.prim (.un .not) [.v 50]<|.ite (.v 51) (.jmp 0 false [.v 12,.v 2]) (.prim (.fld 0) [.v 13]<|.prim (.bin .eql) [.v 52,.c (.int .i64 7)]<|.prim (.bin .add) [.v 25,.c (.int .i64 1)]<|.prim (.fld 4) [.v 13]<|.prim (.fld 3) [.v 13]<|.prim (.fld 5) [.v 13]<|.prim .idx [.v 3,.v 25]<|.prim .idx [.v 3,.v 58]<|.prim (.fld 3) [.v 13]<|.prim .get [.v 3,.v 59]<|.prim .idx [.v 61,.v 60]<|.prim .get [.v 3,.v 59]<|.prim .get [.v 63,.v 62]<|.mkS zcy [.c (.int .i64 3),.v 54,.v 55,.v 56,.c (.int .i64 0),.v 57,.v 53,.c (.int .u32 0),.v 64]<|.sub0 [zaJ] (.call 96 zah [.v 12,.v 65] 2<|.jmp 0 false [.v 66]) 1<|.prim .get [.v 2,.v 44]<|.prim .set [.v 67,.v 47,.c (.int .i64 4)]<|.prim .set [.v 2,.v 44,.v 68]<|.sub0 [.sl (.sl (.int .i64))] (.ite (.v 53) (.prim .get [.v 69,.v 44]<|.prim .set [.v 70,.v 47,.c (.int .i64 0)]<|.prim .set [.v 69,.v 44,.v 71]<|.jmp 0 false [.v 72]) (.jmp 0 false [.v 69])) 1<|.jmp 0 false [.v 66,.v 70])) 2<|.jmp 0 false [.v 43,.v 44,.v 4]) (.prim (.bin .eql) [.v 37,.c (.int .i64 10)]<|.sub0 [zaJ,.sl (.sl (.int .i64)),.sl zbX] (.ite (.v 43) (.sub0 [.bool] (.prim (.un .not) [.v 36]<|.ite (.v 44) (.jmp 0 false [.c (.bool true)]) (.prim .get [.v 4,.v 26]<|.prim (.fld 3) [.v 45]<|.jmp 0 false [.v 46])) 1<|.sub0 [zaJ,.sl zbX] (.ite (.v 44) (.jmp 0 false [.v 12,.v 4]) (.sub0 [.bool] (.prim .get [.v 4,.v 26]<|.prim (.fld 2) [.v 45]<|.ite (.v 46) (.prim .get [.v 2,.v 28]<|.prim .get [.v 47,.v 31]<|.callp 69 zdj [.v 48] 1<|.prim (.un .not) [.v 49]<|.jmp 0 false [.v 50]) (.jmp 0 false [.c (.bool false)])) 1<|.sub0 [zaJ,.sl zbX] (.ite (.v 45) (.primH .set zbX [.v 4,.v 26,.c (.agg [(.int .i64 0),(.bool false),(.bool false),(.bool false),(.bool false),(.bool false),(.int .i64 0),(.int .i64 0),(.int .u32 0)])]<|.jmp 0 false [.v 12,.v 46]) (.sub0 [zaJ] (.prim .idx [.v 4,.v 25]<|.prim .get [.v 4,.v 46]<|.prim (.bin .add) [.v 25,.c (.int .i64 1)]<|.prim (.fld 0) [.v 47]<|.prim (.bin .sub) [.v 49,.c (.int .i64 1)]<|.prim (.bin .add) [.v 25,.c (.int .i64 1)]<|.mkS zcy [.c (.int .i64 1),.v 48,.c (.int .i64 0),.v 50,.v 51,.c (.int .i64 0),.c (.bool false),.c (.int .u32 0),.c (.int .u32 0)]<|.prim (.fld 2) [.v 47]<|.sub0 [zAR] (.ite (.v 53) (.prim .idx [.v 3,.v 25]<|.prim .idx [.v 3,.v 54]<|.prim (.fld 3) [.v 52]<|.prim .get [.v 3,.v 55]<|.prim .idx [.v 57,.v 56]<|.prim .get [.v 3,.v 55]<|.prim .get [.v 59,.v 58]<|.prim (.setf 0) [.v 52,.c (.int .i64 8)]<|.prim (.setf 4) [.v 61,.c (.int .i64 0)]<|.prim (.setf 8) [.v 62,.v 60]<|.jmp 0 false [.v 63]) (.prim (.fld 1) [.v 47]<|.subp [zAR] (.ite (.v 54) (.prim (.setf 0) [.v 52,.c (.int .i64 2)]<|.jmp 0 false [.v 55]) (.jmp 0 false [.v 52])) 1<|.jmp 0 false [.v 55])) 1<|.sub0 [zaJ] (.call 96 zah [.v 12,.v 54] 2<|.jmp 0 false [.v 55]) 1<|.jmp 0 false [.v 55]) 1<|.jmp 0 false [.v 46,.v 4])) 2<|.jmp 0 false [.v 46,.v 47])) 2<|.jmp 0 false [.v 45,.v 2,.v 46]) (.prim (.bin .eql) [.v 37,.c (.int .i64 9)]<|.sub0 [.sl (.sl (.int .i64)),.sl zbX] (.ite (.v 44) (.sub0 [.bool] (.ite (.v 36) (.prim .get [.v 4,.v 26]<|.prim (.fld 2) [.v 45]<|.jmp 0 false [.v 46]) (.jmp 0 false [.c (.bool false)])) 1<|.sub0 [.sl (.sl (.int .i64)),.sl zbX] (.ite (.v 45) (.prim .get [.v 2,.v 28]<|.prim .set [.v 46,.v 31,.c (.int .i64 0)]<|.prim .set [.v 2,.v 28,.v 47]<|.primH .set zbX [.v 4,.v 26,.c (.agg [(.int .i64 0),(.bool false),(.bool false),(.bool false),(.bool false),(.bool false),(.int .i64 0),(.int .i64 0),(.int .u32 0)])]<|.jmp 0 false [.v 48,.v 49]) (.jmp 0 false [.v 2,.v 4])) 2<|.jmp 0 false [.v 46,.v 47]) (.jmp 0 false [.v 2,.v 4])) 2<|.jmp 0 false [.v 12,.v 45,.v 46])) 3<|.jmp 0 false [.v 44,.v 45,.v 46])) 3<|.jmp 0 false [.v 43,.v 44,.v 45])) 3<|.jmp 0 false [.v 41,.v 42,.v 3,.v 43])) 4<|.jmp 0 false [.v 40,.v 41,.v 42,.v 43])) 4<|.jmp 0 false [.v 39,.v 40,.v 41,.v 42]) 4<|.jmp 0 false [.v 26,.v 27,.v 28,.v 29,.v 5,.v 6,.v 7]) (.prim (.fld 1) [.v 13]<|.prim (.bin .gtr) [.v 24,.c (.int .i64 0)]<|.sub0 [zaJ,.sl (.int .u32),.sl zan,.sl (.int .i64)] (.ite (.v 25) (.sub0 [zaJ,.sl (.int .u32),.sl zan,.sl (.int .i64)] (.prim (.fld 0) [.v 13]<|.prim (.bin .eql) [.v 26,.c (.int .i64 1)]<|.subp [.bool] (.ite (.v 27) (.jmp 0 false [.v 27]) (.prim (.bin .eql) [.v 26,.c (.int .i64 2)]<|.jmp 0 false [.v 28])) 1<|.sub1 [zaJ,.sl (.int .u32),.sl zan,.sl (.int .i64)] (.ite (.v 28) (.sub0 [zaJ,.sl zan,.sl (.int .i64)] (.prim (.fld 4) [.v 13]<|.prim (.fld 1) [.v 13]<|.prim (.bin .neq) [.v 29,.v 30]<|.ite (.v 31) (.jmp 0 false [.v 12,.v 6,.v 7]) (.prim (.fld 3) [.v 13]<|.prim .idx [.v 7,.v 32]<|.prim .get [.v 7,.v 33]<|.prim (.bin .gtr) [.v 34,.c (.int .i64 0)]<|.ite (.v 35) (.prim (.fld 1) [.v 13]<|.prim (.fld 3) [.v 13]<|.mkS zcy [.c (.int .i64 10),.c (.int .i64 0),.v 36,.v 37,.c (.int .i64 0),.c (.int .i64 0),.c (.bool false),.c (.int .u32 0),.c (.int .u32 0)]<|.sub0 [zaJ] (.call 96 zah [.v 12,.v 38] 2<|.jmp 0 false [.v 39]) 1<|.jmp 0 false [.v 39,.v 6,.v 7]) (.prim (.fld 3) [.v 13]<|.prim (.fld 1) [.v 13]<|.prim .idx [.v 7,.v 36]<|.prim .set [.v 7,.v 38,.v 37]<|.prim (.fld 3) [.v 13]<|.prim .idx [.v 6,.v 40]<|.prim .get [.v 6,.v 41]<|.prim (.fld 0) [.v 13]<|.prim (.bin .eql) [.v 43,.c (.int .i64 2)]<|.sub0 [.int .i64,.sl (.int .i64),.int .i64,zan] (.ite (.v 44) (.prim (.fld 1) [.v 13]<|.prim (.bin .sub) [.v 45,.c (.int .i64 1)]<|.call 97 zfI [.v 42,.v 46] 4<|.jmp 0 false [.v 48,.v 49,.c (.int .i64 7),.v 47]) (.prim (.fld 1) [.v 13]<|.prim (.bin .sub) [.v 45,.c (.int .i64 1)]<|.call 98 zg7 [.v 42,.v 46] 3<|.jmp 0 false [.v 48,.c .nil,.c (.int .i64 6),.v 47])) 4<|.prim (.fld 3) [.v 13]<|.prim .idx [.v 6,.v 49]<|.prim .set [.v 6,.v 50,.v 48]<|.prim .len [.v 46]<|.sub0 [zaJ] (.loop [.int .i64,zaJ] [.c (.int .i64 0),.v 12] (.prim (.bin .lss) [.v 53,.v 52]<|.ite (.v 55) (.prim .get [.v 46,.v 53]<|.prim (.bin .add) [.v 56,.c (.int .i64 1)]<|.prim (.fld 3) [.v 13]<|.prim (.fld 1) [.v 13]<|.mkS zcy [.c (.int .i64 4),.c (.int .i64 0),.v 57,.v 58,.v 59,.c (.int .i64 0),.c (.bool false),.c (.int .u32 0),.c (.int .u32 0)]<|.sub0 [zaJ] (.call 96 zah [.v 54,.v 60] 2<|.jmp 0 false [.v 61]) 1<|.prim (.bin .add) [.v 53,.c (.int .i64 1)]<|.jmp 0 true [.v 62,.v 61]) (.jmp 1 false [.v 54]))) 1<|.sub0 [.bool] (.prim (.fld 0) [.v 48]<|.prim (.fld 1) [.v 13]<|.prim (.bin .eql) [.v 54,.v 55]<|.ite (.v 56) (.call 99 zgw [.v 48] 1<|.jmp 0 false [.v 57]) (.jmp 0 false [.c (.bool false)])) 1<|.prim (.bin .eql) [.v 45,.c (.int .i64 0)]<|.sub0 [zaJ] (.ite (.v 55) (.prim (.fld 1) [.v 13]<|.prim (.fld 3) [.v 13]<|.prim .len [.v 46]<|.prim (.fld 3) [.v 13]<|.prim .idx [.v 5,.v 59]<|.prim .get [.v 5,.v 60]<|.mkS zcy [.c (.int .i64 3),.c (.int .i64 0),.v 56,.v 57,.c (.int .i64 0),.v 58,.v 54,.c (.int .u32 0),.v 61]<|.sub0 [zaJ] (.call 96 zah [.v 53,.v 62] 2<|.jmp 0 false [.v 63]) 1<|.jmp 0 false [.v 63]) (.prim (.fld 1) [.v 13]<|.prim (.bin .eql) [.v 45,.v 56]<|.sub0 [zaJ] (.ite (.v 57) (.prim (.fld 1) [.v 13]<|.prim (.fld 3) [.v 13]<|.prim .len [.v 46]<|.mkS zcy [.c (.int .i64 3),.c (.int .i64 0),.v 58,.v 59,.c (.int .i64 0),.v 60,.v 54,.c (.int .u32 1),.c (.int .u32 0)]<|.sub0 [zaJ] (.call 96 zah [.v 53,.v 61] 2<|.jmp 0 false [.v 62]) 1<|.jmp 0 false [.v 62]) (.prim (.fld 3) [.v 13]<|.prim (.fld 1) [.v 13]<|.prim .len [.v 46]<|.mkS zcy [.v 47,.c (.int .i64 0),.v 45,.v 58,.v 59,.v 60,.c (.bool false),.c (.int .u32 0),.c (.int .u32 0)]<|.sub0 [zaJ] (.call 96 zah [.v 53,.v 61] 2<|.jmp 0 false [.v 62]) 1<|.jmp 0 false [.v 62])) 1<|.jmp 0 false [.v 58])) 1<|.jmp 0 false [.v 56,.v 51,.v 39]))) 3<|.jmp 0 false [.v 29,.v 5,.v 30,.v 31]) (.prim (.bin .eql) [.v 26,.c (.int .i64 8)]<|.sub1 [zaJ,.sl (.int .u32),.sl zan,.sl (.int .i64)] (.ite (.v 29) (.prim (.fld 3) [.v 13]<|.prim .idx [.v 7,.v 30]<|.prim .get [.v 7,.v 31]<|.prim (.bin .gtr) [.v 32,.c (.int .i64 0)]<|.ite (.v 33) (.prim (.fld 1) [.v 13]<|.prim (.fld 3) [.v 13]<|.mkS zcy [.c (.int .i64 10),.c (.int .i64 0),.v 34,.v 35,.c (.int .i64 0),.c (.int .i64 0),.c (.bool false),.c (.int .u32 0),.c (.int .u32 0)]<|.sub0 [zaJ] (.call 96 zah [.v 12,.v 36] 2<|.jmp 0 false [.v 37]) 1<|.jmp 2 false [.v 37,.v 5,.v 6,.v 7]) (.prim (.fld 3) [.v 13]<|.prim .idx [.v 6,.v 34]<|.prim .get [.v 6,.v 35]<|.prim (.fld 1) [.v 13]<|.prim (.bin .sub) [.v 37,.c (.int .i64 1)]<|.call 71 zgM [.v 36,.v 38] 2<|.prim (.bin .eql) [.v 40,.c (.int .i64 0)]<|.sub0 [.sl (.int .u32),.sl zan] (.ite (.v 41) (.prim (.fld 3) [.v 13]<|.prim (.fld 3) [.v 13]<|.prim (.fld 8) [.v 13]<|.prim .idx [.v 6,.v 42]<|.prim .set [.v 6,.v 45,.v 39]<|.prim .idx [.v 5,.v 43]<|.prim .set [.v 5,.v 47,.v 44]<|.jmp 0 false [.v 48,.v 46]) (.jmp 0 false [.v 5,.v 6])) 2<|.prim (.fld 1) [.v 13]<|.prim (.fld 3) [.v 13]<|.mkS zcy [.c (.int .i64 9),.c (.int .i64 0),.v 44,.v 45,.c (.int .i64 0),.c (.int .i64 0),.c (.bool false),.c (.int .u32 0),.c (.int .u32 0)]<|.sub0 [zaJ] (.call 96 zah [.v 12,.v 46] 2<|.jmp 0 false [.v 47]) 1<|.jmp 0 false [.v 47,.v 42,.v 43,.v 7])) (.prim (.bin .eql) [.v 26,.c (.int .i64 11)]<|.sub0 [.sl (.int .i64)] (.ite (.v 30) (.prim (.fld 3) [.v 13]<|.prim .idx [.v 7,.v 31]<|.prim .get [.v 7,.v 32]<|.prim (.fld 1) [.v 13]<|.prim (.bin .eql) [.v 33,.v 34]<|.sub0 [.sl (.int .i64)] (.ite (.v 35) (.prim (.fld 3) [.v 13]<|.prim .idx [.v 7,.v 36]<|.prim .set [.v 7,.v 37,.c (.int .i64 0)]<|.jmp 0 false [.v 38]) (.jmp 0 false [.v 7])) 1<|.jmp 0 false [.v 36]) (.jmp 0 false [.v 7])) 1<|.jmp 0 false [.v 12,.v 5,.v 6,.v 31])) 4<|.jmp 0 false [.v 30,.v 31,.v 32,.v 33])) 4<|.jmp 0 false [.v 29,.v 30,.v 31,.v 32]) 4<|.jmp 0 false [.v 26,.v 27,.v 28,.v 29]) (.jmp 0 false [.v 12,.v 5,.v 6,.v 7])) 4<|.jmp 0 false [.v 26,.v 2,.v 3,.v 4,.v 27,.v 28,.v 29])) 7<|.jmp 0 false [.v 24,.v 25,.v 26,.v 27,.v 28,.v 29,.v 30])) 7<|.mkS za7 [.v 23,.v 24,.v 25,.v 26,.v 27,.v 28,.v 22]<|.jmp 0 false [.v 29,.v 14])))
theorem zhD:zad cx 12 7=some zeg.erase:=by kernel_rfl
theorem znF:zAH cx 12 noC 7 zef:=zaA (t:=zeg) zhD (fun _=>rfl) (zau [(19,zby),(27,zjs),(28,zbF),(29,zhw.fn),(96,zah),(96,zah),(96,zah),(69,zdj.fn),(96,zah),(69,zdj.fn),(96,zah),(96,zah),(97,zfI),(98,zg7),(96,zah),(99,zgw),(96,zah),(96,zah),(96,zah),(96,zah),(71,zgM),(96,zah)] (by kernel_rfl) (.cons zfS (.cons ztH (.cons zfR (.cons zti (.cons zaR (.cons zaR (.cons zaR (.cons zma (.cons zaR (.cons zma (.cons zaR (.cons zaR (.cons zqU (.cons zs4 (.cons zaR (.cons zqo (.cons zaR (.cons zaR (.cons zaR (.cons zaR (.cons ztd (.cons zaR .nil))))))))))))))))))))))) (fun x=>by kernel_rfl)
def zhI (p0:Proto) (p1:Int) (p2:Int) (p3:Bool):Option (Proto×Int) :=
 ((let v5:Int:=(List.length (Proto.State p0):Int)
 (zaf (zdi (Proto.State p0) v5) ((0:Int),([]:List (List Int))):Option (List (List Int))).bind fun v6=>some (v6):Option (List (List Int))).bind fun v5=>(let v7:Int:=(List.length (Proto.Val p0):Int)
 (zaf (zdo (Proto.Val p0) v7) ((0:Int),([]:List (List Int))):Option (List (List Int))).bind fun v8=>some (v8):Option (List (List Int))).bind fun v7=>(zaC 40 (Proto.Wait p0)).bind fun v9=>(zaC 4 (Proto.Home p0)).bind fun v11=>(zaC 8 (Proto.Busy p0)).bind fun v13=>let v21:Int:=(List.length (Proto.Dir p0):Int)
 (zaf (zdu (Proto.Dir p0) v21) ((0:Int),([]:List Entry)):Option (List Entry)).bind fun v22=>let v23:List (List Int):=Pool.Frames (Proto.Pool p0)
 (let v24:Int:=(v23.length:Int)
 (zaf (zdf v23 v24) ((0:Int),([]:List (List Int))):Option (List (List Int))).bind fun v25=>some (v25):Option (List (List Int))).bind fun v24=>some ((v5,v7,v9,v11,v22,v13,v24)):Option ((List (List Int))×(List (List Int))×(List Wait)×(List Int)×(List Entry)×(List Int)×(List (List Int)))).bind fun v4=>(zc2 p0 p1 p2).bind fun v11=>if !v11 then
 some ((Proto.mk v4.1 v4.2.1 v4.2.2.1 v4.2.2.2.1 v4.2.2.2.2.1 v4.2.2.2.2.2.1 (Pool.mk v4.2.2.2.2.2.2),(1:Int)))
 else
 ((zAF (Proto.Wait p0) p1).bind fun v14=>if decide ((0:Int)<(Wait.Line v14)) then
 some (true)
 else
 (zgV p0 p1 p2 p3).bind fun v17=>some (v17):Option Bool).bind fun v13=>if v13 then
 some ((Proto.mk v4.1 v4.2.1 v4.2.2.1 v4.2.2.2.1 v4.2.2.2.2.1 v4.2.2.2.2.2.1 (Pool.mk v4.2.2.2.2.2.2),(8:Int)))
 else
 (zcL (Proto.Pool p0)).bind fun v15=>if decide (v15=(0:Int)) then
 some ((Proto.mk v4.1 v4.2.1 v4.2.2.1 v4.2.2.2.1 v4.2.2.2.2.1 v4.2.2.2.2.2.1 (Pool.mk v4.2.2.2.2.2.2),(6:Int)))
 else
 (zAG (List.length v4.2.2.1:Int) p1).bind fun v19=>(zAI v4.2.2.1 v19 (Wait.mk (w64 (p2 + (1:Int))) p3 false false false false (0:Int) (0:Int) (0:Int))).bind fun v20=>((zAG (v20.length:Int) p1).bind fun v21=>(zAF v20 v21).bind fun v22=>let v27:Msg:=Msg.mk (1:Int) (w64 (p1 + (1:Int))) (0:Int) (w64 ((Wait.Line v22) - (1:Int))) (w64 (p1 + (1:Int))) (0:Int) false (0:Int) (0:Int)
 (if Wait.Back v22 then
 (zAG (List.length v4.2.1:Int) p1).bind fun v29=>(zAG (List.length v4.2.1:Int) v29).bind fun v30=>(zAF v4.2.1 v30).bind fun v32=>(zAG (v32.length:Int) (Msg.Line v27)).bind fun v33=>(zAF v4.2.1 v30).bind fun v34=>(zAF v34 v33).bind fun v35=>some ((Msg.setVal (Msg.setFor (Msg.setKind v27 (8:Int)) (0:Int)) v35))
 else
 some ((bif Wait.Write v22 then Msg.setKind v27 (2:Int) else v27)):Option Msg).bind fun v29=>((zae (Pool.mk v4.2.2.2.2.2.2) v29).bind fun v31=>some (v31.1):Option Pool).bind fun v30=>some (v30):Option Pool).bind fun v21=>some ((Proto.mk v4.1 v4.2.1 v20 v4.2.2.2.1 v4.2.2.2.2.1 v4.2.2.2.2.2.1 v21,(0:Int)))
def zgL:FnT:=⟨[zab,.int .i64,.int .i64,.bool],[zab,.int .i64],fun x=>zhI x.1 x.2.1 x.2.2.1 x.2.2.2⟩
def zgR:TA :=
 .sub0 [.sl (.sl (.int .i64)),.sl (.sl (.int .u32)),.sl zbX,.sl (.int .u32),.sl zan,.sl (.int .i64),.sl (.sl (.int .u8))] (.prim (.fld 0) [.v 0]<|.sub0 [.sl (.sl (.int .i64))] (.prim .len [.v 4]<|.sub0 [.sl (.sl (.int .i64))] (.loop [.int .i64,.sl (.sl (.int .i64))] [.c (.int .i64 0),.c .nil] (.prim (.bin .lss) [.v 6,.v 5]<|.ite (.v 8) (.prim .get [.v 4,.v 6]<|.prim (.clone 8) [.v 9]<|.mkL (.sl (.int .i64)) [.v 10]<|.prim (.app 24) [.v 7,.v 11]<|.prim (.bin .add) [.v 6,.c (.int .i64 1)]<|.jmp 0 true [.v 13,.v 12]) (.jmp 1 false [.v 7]))) 1<|.jmp 0 false [.v 6]) 1<|.prim (.fld 1) [.v 0]<|.sub0 [.sl (.sl (.int .u32))] (.prim .len [.v 6]<|.sub0 [.sl (.sl (.int .u32))] (.loop [.int .i64,.sl (.sl (.int .u32))] [.c (.int .i64 0),.c .nil] (.prim (.bin .lss) [.v 8,.v 7]<|.ite (.v 10) (.prim .get [.v 6,.v 8]<|.prim (.clone 4) [.v 11]<|.mkL (.sl (.int .u32)) [.v 12]<|.prim (.app 24) [.v 9,.v 13]<|.prim (.bin .add) [.v 8,.c (.int .i64 1)]<|.jmp 0 true [.v 15,.v 14]) (.jmp 1 false [.v 9]))) 1<|.jmp 0 false [.v 8]) 1<|.prim (.fld 2) [.v 0]<|.prim (.clone 40) [.v 8]<|.prim (.fld 3) [.v 0]<|.prim (.clone 4) [.v 10]<|.prim (.fld 5) [.v 0]<|.prim (.clone 8) [.v 12]<|.prim (.fld 0) [.v 0]<|.prim (.fld 1) [.v 0]<|.prim (.fld 2) [.v 0]<|.prim (.fld 3) [.v 0]<|.prim (.fld 4) [.v 0]<|.prim (.fld 5) [.v 0]<|.prim (.fld 6) [.v 0]<|.prim .len [.v 18]<|.sub0 [.sl zan] (.loop [.int .i64,.sl zan] [.c (.int .i64 0),.c .nil] (.prim (.bin .lss) [.v 22,.v 21]<|.ite (.v 24) (.prim .get [.v 18,.v 22]<|.prim (.fld 0) [.v 25]<|.prim (.fld 1) [.v 25]<|.prim (.clone 1) [.v 27]<|.mkS zbl [.v 26,.v 28]<|.mkL zan [.v 29]<|.prim (.app 32) [.v 23,.v 30]<|.prim (.bin .add) [.v 22,.c (.int .i64 1)]<|.jmp 0 true [.v 32,.v 31]) (.jmp 1 false [.v 23]))) 1<|.prim (.fld 0) [.v 20]<|.sub0 [.sl (.sl (.int .u8))] (.prim .len [.v 23]<|.sub0 [.sl (.sl (.int .u8))] (.loop [.int .i64,.sl (.sl (.int .u8))] [.c (.int .i64 0),.c .nil] (.prim (.bin .lss) [.v 25,.v 24]<|.ite (.v 27) (.prim .get [.v 23,.v 25]<|.prim (.clone 1) [.v 28]<|.mkL (.sl (.int .u8)) [.v 29]<|.prim (.app 24) [.v 26,.v 30]<|.prim (.bin .add) [.v 25,.c (.int .i64 1)]<|.jmp 0 true [.v 32,.v 31]) (.jmp 1 false [.v 26]))) 1<|.jmp 0 false [.v 25]) 1<|.jmp 0 false [.v 5,.v 7,.v 9,.v 11,.v 22,.v 13,.v 24]) 7<|.call 39 zbb [.v 0,.v 1,.v 2] 1<|.prim (.un .not) [.v 11]<|.ite (.v 12) (.mkS zb6 [.v 10]<|.mkS za7 [.v 4,.v 5,.v 6,.v 7,.v 8,.v 9,.v 13]<|.jmp 0 false [.v 14,.c (.int .i64 1)]) (.sub0 [.bool] (.prim (.fld 2) [.v 0]<|.prim .get [.v 13,.v 1]<|.prim (.fld 0) [.v 14]<|.prim (.bin .gtr) [.v 15,.c (.int .i64 0)]<|.ite (.v 16) (.jmp 0 false [.c (.bool true)]) (.call 40 zcj [.v 0,.v 1,.v 2,.v 3] 1<|.jmp 0 false [.v 17])) 1<|.ite (.v 13) (.mkS zb6 [.v 10]<|.mkS za7 [.v 4,.v 5,.v 6,.v 7,.v 8,.v 9,.v 14]<|.jmp 0 false [.v 15,.c (.int .i64 8)]) (.prim (.fld 6) [.v 0]<|.call 28 zbF [.v 14] 1<|.prim (.bin .eql) [.v 15,.c (.int .i64 0)]<|.ite (.v 16) (.mkS zb6 [.v 10]<|.mkS za7 [.v 4,.v 5,.v 6,.v 7,.v 8,.v 9,.v 17]<|.jmp 0 false [.v 18,.c (.int .i64 6)]) (.prim (.bin .add) [.v 2,.c (.int .i64 1)]<|.mkS zps [.v 17,.v 3,.c (.bool false),.c (.bool false),.c (.bool false),.c (.bool false),.c (.int .i64 0),.c (.int .i64 0),.c (.int .u32 0)]<|.prim .idx [.v 6,.v 1]<|.prim .set [.v 6,.v 19,.v 18]<|.sub0 [zaJ] (.prim .idx [.v 20,.v 1]<|.prim .get [.v 20,.v 21]<|.prim (.bin .add) [.v 1,.c (.int .i64 1)]<|.prim (.fld 0) [.v 22]<|.prim (.bin .sub) [.v 24,.c (.int .i64 1)]<|.prim (.bin .add) [.v 1,.c (.int .i64 1)]<|.mkS zcy [.c (.int .i64 1),.v 23,.c (.int .i64 0),.v 25,.v 26,.c (.int .i64 0),.c (.bool false),.c (.int .u32 0),.c (.int .u32 0)]<|.prim (.fld 2) [.v 22]<|.sub0 [zAR] (.ite (.v 28) (.prim .idx [.v 5,.v 1]<|.prim .idx [.v 5,.v 29]<|.prim (.fld 3) [.v 27]<|.prim .get [.v 5,.v 30]<|.prim .idx [.v 32,.v 31]<|.prim .get [.v 5,.v 30]<|.prim .get [.v 34,.v 33]<|.prim (.setf 0) [.v 27,.c (.int .i64 8)]<|.prim (.setf 4) [.v 36,.c (.int .i64 0)]<|.prim (.setf 8) [.v 37,.v 35]<|.jmp 0 false [.v 38]) (.prim (.fld 1) [.v 22]<|.subp [zAR] (.ite (.v 29) (.prim (.setf 0) [.v 27,.c (.int .i64 2)]<|.jmp 0 false [.v 30]) (.jmp 0 false [.v 27])) 1<|.jmp 0 false [.v 30])) 1<|.sub0 [zaJ] (.mkS zb6 [.v 10]<|.call 96 zah [.v 30,.v 29] 2<|.jmp 0 false [.v 31]) 1<|.jmp 0 false [.v 30]) 1<|.mkS za7 [.v 4,.v 5,.v 20,.v 7,.v 8,.v 9,.v 21]<|.jmp 0 false [.v 22,.c (.int .i64 0)])))
theorem zlT:zad cx 12 10=some zgR.erase:=by kernel_rfl
theorem zr9:zAH cx 12 noC 10 zgL:=zaA (t:=zgR) zlT (fun _=>rfl) (zau [(39,zbb),(40,zcj),(28,zbF),(96,zah)] (by kernel_rfl) (.cons zgq (.cons zns (.cons zfR (.cons zaR .nil))))) (fun x=>by kernel_rfl)
def zmp (p0:Proto) (p1:Int) (p2:Int) (p3:Bool):Option (Proto×Int) :=
 (zet p0 p1 p2).bind fun v4=>if !v4 then
 some (p0,1)
 else
 ((zAF (Proto.Wait p0) p1).bind fun v7=>if !decide ((Wait.Line v7)=(0:Int)) then
 some (true)
 else
 (znV p0 p1 p2 p3).bind fun v10=>some (v10):Option Bool).bind fun v6=>if v6 then
 some (p0,8)
 else
 if decide ((64:Int)≤(List.length (Pool.Frames (Proto.Pool p0)):Int)) then
 some (p0,6)
 else
 (zc6 p0 p1 (Wait.mk (w64 (p2 + (1:Int))) p3 false false false false (0:Int) (0:Int) (0:Int))).bind fun v13=>(zdq v13 p1).bind fun v14=>some (v14,0)
def zk6:FnT:=⟨[zab,.int .i64,.int .i64,.bool],[zab,.int .i64],fun x=>zmp x.1 x.2.1 x.2.2.1 x.2.2.2⟩
def zla:TA :=
 .call 42 zbB [.v 0,.v 1,.v 2] 1<|.prim (.un .not) [.v 4]<|.ite (.v 5) (.jmp 0 false [.v 0,.c (.int .i64 1)]) (.sub0 [.bool] (.prim (.fld 2) [.v 0]<|.prim .get [.v 6,.v 1]<|.prim (.fld 0) [.v 7]<|.prim (.bin .neq) [.v 8,.c (.int .i64 0)]<|.ite (.v 9) (.jmp 0 false [.c (.bool true)]) (.call 17 zgS [.v 0,.v 1,.v 2,.v 3] 1<|.jmp 0 false [.v 10])) 1<|.ite (.v 6) (.jmp 0 false [.v 0,.c (.int .i64 8)]) (.prim (.fld 6) [.v 0]<|.prim (.fld 0) [.v 7]<|.prim .len [.v 8]<|.prim (.bin .geq) [.v 9,.c (.int .i64 64)]<|.ite (.v 10) (.jmp 0 false [.v 0,.c (.int .i64 6)]) (.prim (.bin .add) [.v 2,.c (.int .i64 1)]<|.mkS zps [.v 11,.v 3,.c (.bool false),.c (.bool false),.c (.bool false),.c (.bool false),.c (.int .i64 0),.c (.int .i64 0),.c (.int .u32 0)]<|.call 44 zaU [.v 0,.v 1,.v 12] 1<|.call 43 zcs [.v 13,.v 1] 1<|.jmp 0 false [.v 14,.c (.int .i64 0)])))
theorem zqc:zad cx 12 11=some zla.erase:=by kernel_rfl
theorem zv6:zAH cx 12 noC 11 zk6:=zaA (t:=zla) zqc (fun _=>rfl) (zau [(42,zbB),(17,zgS),(44,zaU),(43,zcs)] (by kernel_rfl) (.cons zf6 (.cons zsL (.cons zc0 (.cons zjn .nil))))) (fun x=>by kernel_rfl)
end Go.Proofs.YtdfohlonacbelaaGreat
