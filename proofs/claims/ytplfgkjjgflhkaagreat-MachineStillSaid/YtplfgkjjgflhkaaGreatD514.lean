/- More functions of this cut as functions of plain typed data. Printed by a program of this claim's prover; each is checked here to be what the executor makes of the code. -/
import Derived.Test.YtplfgkjjgflhkaaGreatD513
set_option linter.unusedVariables false
set_option maxRecDepth 100000
noncomputable section
namespace Go.Proofs.YtplfgkjjgflhkaaGreat
open Go.SX
def zdB (x29:List Wait) (x30:Int) (s:(Int×(List Int))):Option ((Int×(List Int))⊕(List Int)) :=
 if decide (s.1<x30) then
 (getO x29 s.1).bind fun v34=>(if decide ((zaK v34)=(0:Int)) then
 (idxO (List.length s.2:Int) s.1).bind fun v37=>(setO s.2 v37 (0:Int)).bind fun v38=>some (v38)
 else
 some (s.2):Option (List Int)).bind fun v37=>some (Sum.inl (w64 (s.1 + (1:Int)),v37))
 else
 some (Sum.inr (s.2))
def zdx (x12 x23:List Int) (x24:Int) (s:(Int×zaG)):Option ((Int×zaG)⊕zaG⊕(Int×(List Core)×zbe×za4×Clock×Gate×Int×(List Int)×Did)) :=
 if decide (s.1<x24) then
 zbm ((getO x23 s.1).bind fun v28=>(getO x12 s.1).bind fun v29=>if decide (v28=v29) then
 some (Sum.inl s.2)
 else
 ((getO (zad (zah (zaa s.2))) s.1).bind fun v34=>(ze9 (zar (zaa s.2)) s.1).bind fun v37=>if decide (v37.1=v34) then
 some (((0:Int),s.2))
 else
 (zfj (zar (zaa s.2)) s.1 v34).bind fun v42=>some ((v42.2,zau s.2 (zbN (zaa s.2) v42.1))):Option (Int×zaG)).bind fun v31=>if !decide (v31.1=(0:Int)) then
 some (Sum.inr (Sum.inr (Sum.inr ((v31.1,zaw (zaa v31.2),zah (zaa v31.2),zar (zaa v31.2),zaC (zaa v31.2),zaz (zaa v31.2),zaN (zaa v31.2),zaI (zaa v31.2),zaE v31.2)))))
 else
 some (Sum.inl v31.2):Option (zaG⊕(Int×zaG)⊕zaG⊕(Int×(List Core)×zbe×za4×Clock×Gate×Int×(List Int)×Did))) fun v28=>some (Sum.inl (w64 (s.1 + (1:Int)),v28))
 else
 some (Sum.inr (Sum.inl s.2))
def zeC (x33:zaG) (x35:List Int) (x36 s:Int):Option (Int⊕Unit⊕Int) :=
 if decide (s<x36) then
 (getO x35 s).bind fun v39=>if (decide ((0:Int)<v39))&&(decide ((zbA (zaC (zaa x33)))<(w64 ((w64 ((zaN (zaa x33)) + (1:Int))) - v39)))) then
 some (Sum.inr (Sum.inr (s)))
 else
 some (Sum.inl (w64 (s + (1:Int))))
 else
 some (Sum.inr (Sum.inl ()))
def zeU (x22:Did) (x23:List Core) (x26:Clock) (x27:Gate) (x28:Int) (x29:List Int) (x30 x31:List (List Int)) (x32:List Wait) (x34:List Entry) (x35:List Int) (x36:Pool) (x37:Int) (s:(Int×za4×(List Int))):Option ((Int×za4×(List Int))⊕(za4×(List Int))⊕(Int×(List Core)×(List (List Int))×(List (List Int))×(List Wait)×(List Int)×(List Entry)×(List Int)×Pool×za4×Clock×Gate×Int×(List Int)×Did)) :=
 if decide (s.1<x37) then
 zbm ((zbw (zaB x30 x31 x32 s.2.2 x34 x35 x36) s.1).bind fun v43=>if decide (v43<(0:Int)) then
 some (Sum.inl (s.2.1,s.2.2))
 else
 (getO x31 v43).bind fun v45=>(getO v45 s.1).bind fun v46=>(idxO (List.length s.2.2:Int) s.1).bind fun v47=>(setO s.2.2 v47 v46).bind fun v48=>((idxO (v48.length:Int) s.1).bind fun v49=>(getO v48 v49).bind fun v50=>(ze9 s.2.1 s.1).bind fun v51=>if decide (v51.1=v50) then
 some (((0:Int),s.2.1))
 else
 (zfj s.2.1 s.1 v50).bind fun v54=>some ((v54.2,v54.1)):Option (Int×za4)).bind fun v49=>if !decide (v49.1=(0:Int)) then
 some (Sum.inr (Sum.inr (Sum.inr ((v49.1,x23,x30,x31,x32,v48,x34,x35,x36,v49.2,x26,x27,x28,x29,x22)))))
 else
 some (Sum.inl (v49.2,v48)):Option ((za4×(List Int))⊕(Int×za4×(List Int))⊕(za4×(List Int))⊕(Int×(List Core)×(List (List Int))×(List (List Int))×(List Wait)×(List Int)×(List Entry)×(List Int)×Pool×za4×Clock×Gate×Int×(List Int)×Did))) fun v42=>some (Sum.inl (w64 (s.1 + (1:Int)),v42.1,v42.2))
 else
 some (Sum.inr (Sum.inl (s.2.1,s.2.2)))
def zhI (p0:List (List Ins)) (p1:Machine) (p2:Event):Option (Machine×Did×Int) :=
 ((zgF p0 p1).bind fun v3=>if !v3 then
 some (true)
 else
 if decide ((zaO p2)<(1:Int)) then
 some (true)
 else
 some ((decide ((9:Int)<(zaO p2)))):Option Bool).bind fun v3=>if v3 then
 some ((p1,(zeZ false false (0:Int)),(1:Int)))
 else
 let v4:zaG:=zci p1 p0 (zeZ false false (0:Int))
 (if (decide ((0:Int)<(zaq (zae (zar (zaa v4))))))&&((!decide ((zaO p2)=(4:Int)))&&(!decide ((zaO p2)=(9:Int)))) then
 let v10:zbe:=zah (zaa v4)
 some (((8:Int),zaw (zaa v4),zai v10,zam v10,zab v10,zad v10,zay v10,zal v10,zax v10,zar (zaa v4),zaC (zaa v4),zaz (zaa v4),zaN (zaa v4),zaI (zaa v4),zaE v4))
 else
 if decide ((zaO p2)=(1:Int)) then
 (if (decide ((zbd p2)<(0:Int)))||(decide ((List.length (zaw (zaa v4)):Int)≤(zbd p2))) then
 some (((1:Int),zaw (zaa v4),zah (zaa v4),zar (zaa v4),zaC (zaa v4),zaz (zaa v4),zaN (zaa v4),zaI (zaa v4),zaE v4))
 else
 (getO (za0 v4) (zbd p2)).bind fun v11=>(getO (zaw (zaa v4)) (zbd p2)).bind fun v14=>(zlA v11 v14 (zaj (zar (zaa v4)))).bind fun v18=>let v20:Bool:=decide ((zcU v18)=(0:Int))
 (if bif v20 then v20 else decide ((zcU v18)=(5:Int)) then
 ((getO (zaw (zaa v4)) (zbd p2)).bind fun v24=>let v29:zaG:=zcQ v4 (zhe (zaE v4) (!(zbu v24)))
 (zaS 48 (zaw (zaa v29))).bind fun v32=>(getO (za0 v29) (zbd p2)).bind fun v34=>(idxO (v32.length:Int) (zbd p2)).bind fun v35=>(getO v32 v35).bind fun v36=>(zfY v34 v36 (0:Int)).bind fun v37=>(idxO (v32.length:Int) (zbd p2)).bind fun v38=>(setO v32 v38 v37).bind fun v39=>some ((zah (zaa v29),zar (zaa v29),zaC (zaa v29),zaz (zaa v29),zaN (zaa v29),zaI (zaa v29),zaE v29,v39)):Option (zbe×za4×Clock×Gate×Int×(List Int)×Did×(List Core))).bind fun v22=>some ((v22.2.2.2.2.2.2.2,v22.1,v22.2.1,v22.2.2.1,v22.2.2.2.1,v22.2.2.2.2.1,v22.2.2.2.2.2.1,v22.2.2.2.2.2.2.1))
 else
 (if decide ((zcU v18)=(4:Int)) then
 (zi9 (zaz (zaa v4)) (zaD (zar (zaa v4))) (zoE (zbd p2) (zhg v18))).bind fun v30=>(if decide (v30.2=(0:Int)) then
 let v35:zaG:=zau v4 (zcE (zaa v4) v30.1)
 ((getO (zaw (zaa v35)) (zbd p2)).bind fun v38=>let v43:zaG:=zcQ v35 (zhe (zaE v35) (!(zbu v38)))
 (zaS 48 (zaw (zaa v43))).bind fun v46=>(getO (za0 v43) (zbd p2)).bind fun v48=>(idxO (v46.length:Int) (zbd p2)).bind fun v49=>(getO v46 v49).bind fun v50=>(zfY v48 v50 (0:Int)).bind fun v51=>(idxO (v46.length:Int) (zbd p2)).bind fun v52=>(setO v46 v52 v51).bind fun v53=>some ((zah (zaa v43),zar (zaa v43),zaC (zaa v43),zaz (zaa v43),zaN (zaa v43),zaI (zaa v43),zaE v43,v53)):Option (zbe×za4×Clock×Gate×Int×(List Int)×Did×(List Core))).bind fun v36=>some ((v36.2.2.2.2.2.2.2,v36.1,v36.2.1,v36.2.2.1,v36.2.2.2.1,v36.2.2.2.2.1,v36.2.2.2.2.2.1,v36.2.2.2.2.2.2.1))
 else
 some ((zaw (zaa v4),zah (zaa v4),zar (zaa v4),zaC (zaa v4),zaz (zaa v4),zaN (zaa v4),zaI (zaa v4),zaE v4)):Option ((List Core)×zbe×za4×Clock×Gate×Int×(List Int)×Did)).bind fun v33=>some ((v33.1,v33.2.1,v33.2.2.1,v33.2.2.2.1,v33.2.2.2.2.1,v33.2.2.2.2.2.1,v33.2.2.2.2.2.2.1,v33.2.2.2.2.2.2.2))
 else
 let v24:Bool:=!decide ((zcU v18)=(1:Int))
 (zo4 (zah (zaa v4)) (zbd p2) (zfH v18) v24).bind fun v28=>(if v28 then
 ((zn8 (zah (zaa v4)) (zbd p2) (zfH v18)).bind fun v32=>(if (decide ((zcU v18)=(2:Int)))||((decide ((zcU v18)=(3:Int)))&&(decide (v32.1=(zvt v18)))) then
 (zo3 (zah (zaa v4)) (zbd p2) (zfH v18) (zhg v18)).bind fun v39=>some ((zau v4 (zbs (zaa v4) v39.1)))
 else
 some (v4):Option zaG).bind fun v35=>((getO (zaw (zaa v35)) (zbd p2)).bind fun v38=>let v43:zaG:=zcQ v35 (zhe (zaE v35) (!(zbu v38)))
 (zaS 48 (zaw (zaa v43))).bind fun v46=>(getO (za0 v43) (zbd p2)).bind fun v48=>(idxO (v46.length:Int) (zbd p2)).bind fun v49=>(getO v46 v49).bind fun v50=>(zfY v48 v50 v32.1).bind fun v51=>(idxO (v46.length:Int) (zbd p2)).bind fun v52=>(setO v46 v52 v51).bind fun v53=>some ((zah (zaa v43),zar (zaa v43),zaC (zaa v43),zaz (zaa v43),zaN (zaa v43),zaI (zaa v43),zaE v43,v53)):Option (zbe×za4×Clock×Gate×Int×(List Int)×Did×(List Core))).bind fun v36=>some ((v36.1,v36.2.1,v36.2.2.1,v36.2.2.2.1,v36.2.2.2.2.1,v36.2.2.2.2.2.1,v36.2.2.2.2.2.2.1,v36.2.2.2.2.2.2.2)):Option (zbe×za4×Clock×Gate×Int×(List Int)×Did×(List Core))).bind fun v29=>some ((v29.2.2.2.2.2.2.2,v29.1,v29.2.1,v29.2.2.1,v29.2.2.2.1,v29.2.2.2.2.1,v29.2.2.2.2.2.1,v29.2.2.2.2.2.2.1))
 else
 ((zlI (zah (zaa v4)) (zbd p2) (zfH v18) v24).bind fun v32=>(if decide (v32.2=(0:Int)) then
 let v37:zaG:=zau v4 (zbs (zaa v4) v32.1)
 ((zaS 8 (zaI (zaa v37))).bind fun v40=>let v49:Int:=zaN (zaa v37)
 (idxO (v40.length:Int) (zbd p2)).bind fun v52=>(setO v40 v52 (w64 (v49 + (1:Int)))).bind fun v53=>some ((zaw (zaa v37),zah (zaa v37),zar (zaa v37),zaC (zaa v37),zaz (zaa v37),v49,zaE v37,v53)):Option ((List Core)×zbe×za4×Clock×Gate×Int×Did×(List Int))).bind fun v38=>some ((v38.1,v38.2.1,v38.2.2.1,v38.2.2.2.1,v38.2.2.2.2.1,v38.2.2.2.2.2.1,v38.2.2.2.2.2.2.2,v38.2.2.2.2.2.2.1))
 else
 some ((zaw (zaa v4),zah (zaa v4),zar (zaa v4),zaC (zaa v4),zaz (zaa v4),zaN (zaa v4),zaI (zaa v4),zaE v4)):Option ((List Core)×zbe×za4×Clock×Gate×Int×(List Int)×Did)).bind fun v35=>some ((v35.1,v35.2.1,v35.2.2.1,v35.2.2.2.1,v35.2.2.2.2.1,v35.2.2.2.2.2.1,v35.2.2.2.2.2.2.1,v35.2.2.2.2.2.2.2)):Option ((List Core)×zbe×za4×Clock×Gate×Int×(List Int)×Did)).bind fun v30=>some ((v30.1,v30.2.1,v30.2.2.1,v30.2.2.2.1,v30.2.2.2.2.1,v30.2.2.2.2.2.1,v30.2.2.2.2.2.2.1,v30.2.2.2.2.2.2.2)):Option ((List Core)×zbe×za4×Clock×Gate×Int×(List Int)×Did)).bind fun v29=>some ((v29.1,v29.2.1,v29.2.2.1,v29.2.2.2.1,v29.2.2.2.2.1,v29.2.2.2.2.2.1,v29.2.2.2.2.2.2.1,v29.2.2.2.2.2.2.2)):Option ((List Core)×zbe×za4×Clock×Gate×Int×(List Int)×Did)).bind fun v23=>some ((v23.1,v23.2.1,v23.2.2.1,v23.2.2.2.1,v23.2.2.2.2.1,v23.2.2.2.2.2.1,v23.2.2.2.2.2.2.1,v23.2.2.2.2.2.2.2)):Option ((List Core)×zbe×za4×Clock×Gate×Int×(List Int)×Did)).bind fun v22=>some (((0:Int),v22.1,v22.2.1,v22.2.2.1,v22.2.2.2.1,v22.2.2.2.2.1,v22.2.2.2.2.2.1,v22.2.2.2.2.2.2.1,v22.2.2.2.2.2.2.2)):Option (Int×(List Core)×zbe×za4×Clock×Gate×Int×(List Int)×Did)).bind fun v9=>some ((v9.1,v9.2.1,zai v9.2.2.1,zam v9.2.2.1,zab v9.2.2.1,zad v9.2.2.1,zay v9.2.2.1,zal v9.2.2.1,zax v9.2.2.1,v9.2.2.2.1,v9.2.2.2.2.1,v9.2.2.2.2.2.1,v9.2.2.2.2.2.2.1,v9.2.2.2.2.2.2.2.1,v9.2.2.2.2.2.2.2.2))
 else
 if decide ((zaO p2)=(2:Int)) then
 (let v12:List Int:=zad (zah (zaa v4))
 (ze3 (zah (zaa v4)) (zfw p2)).bind fun v15=>let v17:Bool:=decide (v15.2=(5:Int))
 if bif v17 then v17 else decide (v15.2=(2:Int)) then
 ((zes (zaC (zaa v4)) (zaN (zaa v4))).bind fun v23=>(zet (zar (zaa v4)) (zaU v23.2.1)).bind fun v29=>(zdD (zaz (zaa v4)) (zaU v23.2.1)).bind fun v34=>(zdZ (List.length (za0 v4):Int) (zaj (zar (zaa v4)))).bind fun v41=>(zc9 v29.1).bind fun v43=>let v47:Int:=(List.length (za0 v4):Int)
 (repO (0:Int) 8 v47 v47).bind fun v48=>let v51:zaG:=zau v4 (zdU (zaa v4) (za9 v23.2.1))
 let v54:zaG:=zau v51 (zbs (zaa v51) (zib v41.1 v43))
 let v57:zaG:=zau v54 (zbN (zaa v54) v29.1)
 let v60:zaG:=zau v57 (zdQ (zaa v57) v23.1)
 let v63:zaG:=zau v60 (zcE (zaa v60) v34.1)
 some ((zaw (zaa v63),zah (zaa v63),zar (zaa v63),zaC (zaa v63),zaz (zaa v63),zaN (zaa v63),zqg (zkp (zaE v63) true) (zaU v23.2.1),v48)):Option ((List Core)×zbe×za4×Clock×Gate×Int×Did×(List Int))).bind fun v19=>some (((0:Int),v19.1,v19.2.1,v19.2.2.1,v19.2.2.2.1,v19.2.2.2.2.1,v19.2.2.2.2.2.1,v19.2.2.2.2.2.2.2,v19.2.2.2.2.2.2.1))
 else
 if decide (v15.2=(0:Int)) then
 let v24:Int:=(List.length (zad v15.1):Int)
 zbm (zaQ (zdx v12 (zad v15.1) v24) ((0:Int),zau v4 (zbs (zaa v4) v15.1)):Option (zaG⊕(Int×(List Core)×zbe×za4×Clock×Gate×Int×(List Int)×Did))) fun v25=>(zaS 8 (zaI (zaa v25))).bind fun v28=>let v30:Int:=(List.length (zab v15.1):Int)
 (zaQ (zdB (zab v15.1) v30) ((0:Int),v28):Option (List Int)).bind fun v31=>some (((0:Int),zaw (zaa v25),zah (zaa v25),zar (zaa v25),zaC (zaa v25),zaz (zaa v25),zaN (zaa v25),v31,zaE v25))
 else
 some ((v15.2,zaw (zaa v4),zah (zaa v4),zar (zaa v4),zaC (zaa v4),zaz (zaa v4),zaN (zaa v4),zaI (zaa v4),zaE v4)):Option (Int×(List Core)×zbe×za4×Clock×Gate×Int×(List Int)×Did)).bind fun v10=>some ((v10.1,v10.2.1,zai v10.2.2.1,zam v10.2.2.1,zab v10.2.2.1,zad v10.2.2.1,zay v10.2.2.1,zal v10.2.2.1,zax v10.2.2.1,v10.2.2.2.1,v10.2.2.2.2.1,v10.2.2.2.2.2.1,v10.2.2.2.2.2.2.1,v10.2.2.2.2.2.2.2.1,v10.2.2.2.2.2.2.2.2))
 else
 if decide ((zaO p2)=(3:Int)) then
 ((zjC (zah (zaa v4)) (zbd p2) (zfw p2)).bind fun v14=>if !decide (v14.2=(0:Int)) then
 some ((v14.2,zaw (zaa v4),zah (zaa v4),zar (zaa v4),zaC (zaa v4),zaz (zaa v4),zaN (zaa v4),zaI (zaa v4),zaE v4))
 else
 let v19:zaG:=zau v4 (zbs (zaa v4) v14.1)
 (getO (zab v14.1) (zbd p2)).bind fun v21=>(if decide ((0:Int)<(zaK v21)) then
 ((zaS 8 (zaI (zaa v19))).bind fun v26=>let v35:Int:=zaN (zaa v19)
 (idxO (v26.length:Int) (zbd p2)).bind fun v38=>(setO v26 v38 (w64 (v35 + (1:Int)))).bind fun v39=>some ((zaw (zaa v19),zah (zaa v19),zar (zaa v19),zaC (zaa v19),zaz (zaa v19),v35,zaE v19,v39)):Option ((List Core)×zbe×za4×Clock×Gate×Int×Did×(List Int))).bind fun v24=>some ((v24.1,v24.2.1,v24.2.2.1,v24.2.2.2.1,v24.2.2.2.2.1,v24.2.2.2.2.2.1,v24.2.2.2.2.2.2.2,v24.2.2.2.2.2.2.1))
 else
 some ((zaw (zaa v19),zah (zaa v19),zar (zaa v19),zaC (zaa v19),zaz (zaa v19),zaN (zaa v19),zaI (zaa v19),zaE v19)):Option ((List Core)×zbe×za4×Clock×Gate×Int×(List Int)×Did)).bind fun v24=>some (((0:Int),v24.1,v24.2.1,v24.2.2.1,v24.2.2.2.1,v24.2.2.2.2.1,v24.2.2.2.2.2.1,v24.2.2.2.2.2.2.1,v24.2.2.2.2.2.2.2)):Option (Int×(List Core)×zbe×za4×Clock×Gate×Int×(List Int)×Did)).bind fun v12=>some ((v12.1,v12.2.1,zai v12.2.2.1,zam v12.2.2.1,zab v12.2.2.1,zad v12.2.2.1,zay v12.2.2.1,zal v12.2.2.1,zax v12.2.2.1,v12.2.2.2.1,v12.2.2.2.2.1,v12.2.2.2.2.2.1,v12.2.2.2.2.2.2.1,v12.2.2.2.2.2.2.2.1,v12.2.2.2.2.2.2.2.2))
 else
 if decide ((zaO p2)=(4:Int)) then
 (if decide ((zaN (zaa v4))=(1099511627776:Int)) then
 some (((1:Int),zaw (zaa v4),zah (zaa v4),zar (zaa v4),zaC (zaa v4),zaz (zaa v4),zaN (zaa v4),zaI (zaa v4),zaE v4))
 else
 let v19:zaG:=zau v4 (zkH (zaa v4) (w64 ((zaN (zaa v4)) + (1:Int))))
 (zl5 (zaC (zaa v19)) (zaN (zaa v19))).bind fun v24=>(zi4 (zaz (zaa v19)) (zaU v24.1)).bind fun v29=>let v33:zaG:=zau v19 (zcE (zaa v19) v29.1)
 let v35:List Int:=zaI (zaa v33)
 ((let v36:Int:=(v35.length:Int)
 zbm (zaQ (zeC v33 v35 v36) (0:Int):Option (Unit⊕Int)) fun v37=>some ((-1:Int)):Option Int).bind fun v36=>some ((decide ((0:Int)≤v36))):Option Bool).bind fun v36=>(if decide ((List.length (zaf (zax (zah (zaa v33)))):Int)=(0:Int)) then
 (zfX (zah (zaa v33))).bind fun v45=>some ((!v45))
 else
 some (false):Option Bool).bind fun v37=>(if bif v36 then decide ((zaq (zae (zar (zaa v33))))=(0:Int)) else v37&&(decide ((zaq (zae (zar (zaa v33))))=(0:Int))) then
 ((zes (zaC (zaa v33)) (zaN (zaa v33))).bind fun v43=>(zet (zar (zaa v33)) (zaU v43.2.1)).bind fun v49=>(zdD (zaz (zaa v33)) (zaU v43.2.1)).bind fun v54=>(zdZ (List.length (za0 v33):Int) (zaj (zar (zaa v33)))).bind fun v61=>(zc9 v49.1).bind fun v63=>let v67:Int:=(List.length (za0 v33):Int)
 (repO (0:Int) 8 v67 v67).bind fun v68=>let v71:zaG:=zau v33 (zdU (zaa v33) (za9 v43.2.1))
 let v74:zaG:=zau v71 (zbs (zaa v71) (zib v61.1 v63))
 let v77:zaG:=zau v74 (zbN (zaa v74) v49.1)
 let v80:zaG:=zau v77 (zdQ (zaa v77) v43.1)
 let v83:zaG:=zau v80 (zcE (zaa v80) v54.1)
 some ((zaw (zaa v83),zah (zaa v83),zar (zaa v83),zaC (zaa v83),zaz (zaa v83),zaN (zaa v83),zqg (zkp (zaE v83) true) (zaU v43.2.1),v68)):Option ((List Core)×zbe×za4×Clock×Gate×Int×Did×(List Int))).bind fun v39=>some ((v39.1,v39.2.1,v39.2.2.1,v39.2.2.2.1,v39.2.2.2.2.1,v39.2.2.2.2.2.1,v39.2.2.2.2.2.2.2,v39.2.2.2.2.2.2.1))
 else
 some ((zaw (zaa v33),zah (zaa v33),zar (zaa v33),zaC (zaa v33),zaz (zaa v33),zaN (zaa v33),zaI (zaa v33),zaE v33)):Option ((List Core)×zbe×za4×Clock×Gate×Int×(List Int)×Did)).bind fun v39=>some (((0:Int),v39.1,v39.2.1,v39.2.2.1,v39.2.2.2.1,v39.2.2.2.2.1,v39.2.2.2.2.2.1,v39.2.2.2.2.2.2.1,v39.2.2.2.2.2.2.2)):Option (Int×(List Core)×zbe×za4×Clock×Gate×Int×(List Int)×Did)).bind fun v11=>some ((v11.1,v11.2.1,zai v11.2.2.1,zam v11.2.2.1,zab v11.2.2.1,zad v11.2.2.1,zay v11.2.2.1,zal v11.2.2.1,zax v11.2.2.1,v11.2.2.2.1,v11.2.2.2.2.1,v11.2.2.2.2.2.1,v11.2.2.2.2.2.2.1,v11.2.2.2.2.2.2.2.1,v11.2.2.2.2.2.2.2.2))
 else
 if decide ((zaO p2)=(5:Int)) then
 ((zfX (zah (zaa v4))).bind fun v14=>if !v14 then
 let v20:zbe:=zah (zaa v4)
 some (((8:Int),zaw (zaa v4),zai v20,zam v20,zab v20,zad v20,zay v20,zal v20,zax v20,zar (zaa v4),zaC (zaa v4),zaz (zaa v4),zaN (zaa v4),zaI (zaa v4),zaE v4))
 else
 (zaS 4 (zad (zah (zaa v4)))).bind fun v19=>let v23:List Core:=zaw (zaa v4)
 let v24:zbe:=zah (zaa v4)
 let v26:Clock:=zaC (zaa v4)
 let v27:Gate:=zaz (zaa v4)
 let v28:Int:=zaN (zaa v4)
 let v29:List Int:=zaI (zaa v4)
 let v37:Int:=(v19.length:Int)
 zbm (zaQ (zeU (zaE v4) v23 v26 v27 v28 v29 (zai v24) (zam v24) (zab v24) (zay v24) (zal v24) (zax v24) v37) ((0:Int),zar (zaa v4),v19):Option ((za4×(List Int))⊕(Int×(List Core)×(List (List Int))×(List (List Int))×(List Wait)×(List Int)×(List Entry)×(List Int)×Pool×za4×Clock×Gate×Int×(List Int)×Did))) fun v38=>(zlE v26 v28).bind fun v40=>(getO (zao v40.1) (0:Int)).bind fun v43=>(zlC v38.1 (zaU v43)).bind fun v45=>(zl4 v45.1).bind fun v47=>if !decide (v47.2=(0:Int)) then
 some ((v47.2,v23,zai v24,zam v24,zab v24,v38.2,zay v24,zal v24,zax v24,v38.1,v26,v27,v28,v29,zaE v4))
 else
 (zlJ v40.1 (zaD v47.1) v28 v23).bind fun v51=>some ((v51.2,v23,zai v24,zam v24,zab v24,v38.2,zay v24,zal v24,zax v24,v47.1,v51.1,v27,v28,v29,zaE v4)):Option (Int×(List Core)×(List (List Int))×(List (List Int))×(List Wait)×(List Int)×(List Entry)×(List Int)×Pool×za4×Clock×Gate×Int×(List Int)×Did)).bind fun v12=>some ((v12.1,v12.2.1,v12.2.2.1,v12.2.2.2.1,v12.2.2.2.2.1,v12.2.2.2.2.2.1,v12.2.2.2.2.2.2.1,v12.2.2.2.2.2.2.2.1,v12.2.2.2.2.2.2.2.2.1,v12.2.2.2.2.2.2.2.2.2.1,v12.2.2.2.2.2.2.2.2.2.2.1,v12.2.2.2.2.2.2.2.2.2.2.2.1,v12.2.2.2.2.2.2.2.2.2.2.2.2.1,v12.2.2.2.2.2.2.2.2.2.2.2.2.2.1,v12.2.2.2.2.2.2.2.2.2.2.2.2.2.2))
 else
 if decide ((zaO p2)=(6:Int)) then
 (zeB (zax (zah (zaa v4))) (zfw p2)).bind fun v17=>let v19:zaG:=zau v4 (zbs (zaa v4) (zh4 (zah (zaa v4)) v17.1))
 let v24:zbe:=zah (zaa v19)
 some ((v17.2,zaw (zaa v19),zai v24,zam v24,zab v24,zad v24,zay v24,zal v24,zax v24,zar (zaa v19),zaC (zaa v19),zaz (zaa v19),zaN (zaa v19),zaI (zaa v19),zaE v19))
 else
 if decide ((zaO p2)=(7:Int)) then
 (zlR (zax (zah (zaa v4))) (zfw p2) (zbd p2)).bind fun v19=>let v21:zaG:=zau v4 (zbs (zaa v4) (zh4 (zah (zaa v4)) v19.1))
 let v26:zbe:=zah (zaa v21)
 some ((v19.2,zaw (zaa v21),zai v26,zam v26,zab v26,zad v26,zay v26,zal v26,zax v26,zar (zaa v21),zaC (zaa v21),zaz (zaa v21),zaN (zaa v21),zaI (zaa v21),zaE v21))
 else
 if decide ((zaO p2)=(8:Int)) then
 (zlX (zar (zaa v4)) (zbd p2)).bind fun v18=>let v22:zaG:=zau v4 (zbN (zaa v4) v18.1)
 let v27:zbe:=zah (zaa v22)
 some ((v18.2,zaw (zaa v22),zai v27,zam v27,zab v27,zad v27,zay v27,zal v27,zax v27,zar (zaa v22),zaC (zaa v22),zaz (zaa v22),zaN (zaa v22),zaI (zaa v22),zaE v22))
 else
 ((zgp (zar (zaa v4))).bind fun v17=>(if decide (v17.2=(0:Int)) then
 let v22:zaG:=zau v4 (zbN (zaa v4) v17.1)
 ((zes (zaC (zaa v22)) (zaN (zaa v22))).bind fun v27=>(zet (zar (zaa v22)) (zaU v27.2.1)).bind fun v33=>(zdD (zaz (zaa v22)) (zaU v27.2.1)).bind fun v38=>(zdZ (List.length (za0 v22):Int) (zaj (zar (zaa v22)))).bind fun v45=>(zc9 v33.1).bind fun v47=>let v51:Int:=(List.length (za0 v22):Int)
 (repO (0:Int) 8 v51 v51).bind fun v52=>let v55:zaG:=zau v22 (zdU (zaa v22) (za9 v27.2.1))
 let v58:zaG:=zau v55 (zbs (zaa v55) (zib v45.1 v47))
 let v61:zaG:=zau v58 (zbN (zaa v58) v33.1)
 let v64:zaG:=zau v61 (zdQ (zaa v61) v27.1)
 let v67:zaG:=zau v64 (zcE (zaa v64) v38.1)
 some ((zaw (zaa v67),zah (zaa v67),zar (zaa v67),zaC (zaa v67),zaz (zaa v67),zaN (zaa v67),zqg (zkp (zaE v67) true) (zaU v27.2.1),v52)):Option ((List Core)×zbe×za4×Clock×Gate×Int×Did×(List Int))).bind fun v23=>some ((v23.1,v23.2.1,v23.2.2.1,v23.2.2.2.1,v23.2.2.2.2.1,v23.2.2.2.2.2.1,v23.2.2.2.2.2.2.2,v23.2.2.2.2.2.2.1))
 else
 some ((zaw (zaa v4),zah (zaa v4),zar (zaa v4),zaC (zaa v4),zaz (zaa v4),zaN (zaa v4),zaI (zaa v4),zaE v4)):Option ((List Core)×zbe×za4×Clock×Gate×Int×(List Int)×Did)).bind fun v20=>some ((v17.2,v20.1,v20.2.1,v20.2.2.1,v20.2.2.2.1,v20.2.2.2.2.1,v20.2.2.2.2.2.1,v20.2.2.2.2.2.2.1,v20.2.2.2.2.2.2.2)):Option (Int×(List Core)×zbe×za4×Clock×Gate×Int×(List Int)×Did)).bind fun v15=>some ((v15.1,v15.2.1,zai v15.2.2.1,zam v15.2.2.1,zab v15.2.2.1,zad v15.2.2.1,zay v15.2.2.1,zal v15.2.2.1,zax v15.2.2.1,v15.2.2.2.1,v15.2.2.2.2.1,v15.2.2.2.2.2.1,v15.2.2.2.2.2.2.1,v15.2.2.2.2.2.2.2.1,v15.2.2.2.2.2.2.2.2)):Option (Int×(List Core)×(List (List Int))×(List (List Int))×(List Wait)×(List Int)×(List Entry)×(List Int)×Pool×za4×Clock×Gate×Int×(List Int)×Did)).bind fun v5=>if !decide (v5.1=(0:Int)) then
 some ((p1,(zeZ false false (0:Int)),v5.1))
 else
 some ((zbj v5.2.1 (zaB v5.2.2.1 v5.2.2.2.1 v5.2.2.2.2.1 v5.2.2.2.2.2.1 v5.2.2.2.2.2.2.1 v5.2.2.2.2.2.2.2.1 v5.2.2.2.2.2.2.2.2.1) v5.2.2.2.2.2.2.2.2.2.1 v5.2.2.2.2.2.2.2.2.2.2.1 v5.2.2.2.2.2.2.2.2.2.2.2.1 v5.2.2.2.2.2.2.2.2.2.2.2.2.1 v5.2.2.2.2.2.2.2.2.2.2.2.2.2.1,v5.2.2.2.2.2.2.2.2.2.2.2.2.2.2,(0:Int)))
def zm2:FnT:=⟨[.sl (.sl tIns),zcq,zri],[zcq,tDid,.int .i64],fun x=>zhI x.1 x.2.1 x.2.2⟩
def zmg:TA :=
 .sub0 [.bool] (.call 23 zkf (qv [0,1]) 1<|qn 3<|qe 4 (qt 0 true) (qf 0 2<|qk .lss 5 1<|qe 6 (qt 0 true) (qf 0 2<|qk .gtr 7 9<|qj 0 8))) 1<|qe 3 (.jmp 0 false [.v 1,.c (.agg [(.bool false),(.bool false),(.int .i64 0)]),(qz 1)]) (.mkS zmq [.v 1,.v 0,.c (.agg [(.bool false),(.bool false),(.int .i64 0)])]<|.sub0 [.int .i64,.sl zb2,.sl (.sl (.int .i64)),.sl (.sl (.int .u32)),.sl zd2,.sl (.int .u32),.sl zbF,.sl (.int .i64),zb3,zbq,zbW,zdo,.int .i64,.sl (.int .i64),.no,tDid] (.subp [.bool] (qf 0 4<|qf 2 5<|qf 0 6<|qf 2 7<|qk .gtr 8 0<|qe 9 (qf 0 2<|qk .neq 10 4<|qe 11 (qf 0 2<|qk .neq 12 9<|qj 0 13) (qt 0 false)) (qt 0 false)) 1<|qe 5 (qN 3 0 4<|qN 7 0 6<|qN 7 0 10<|.jmp 0 false [(qz 8),.v 9,.v 16,.v 17,.v 18,.v 19,.v 20,.v 21,.v 22,.v 11,.v 12,.v 13,.v 14,.v 15,.v 7,.v 8]) (qf 0 2<|qk .eql 6 1<|qe 7 (qf 1 2<|.sub0 [.int .i64,.sl zb2,zbD,zbq,zbW,zdo,.int .i64,.sl (.int .i64),.no,tDid] (.subp [.bool] (qk .lss 8 0<|qe 9 (qt 0 true) (qf 0 4<|qf 0 10<|ql 11<|qb .geq 8 12<|qj 0 13)) 1<|qe 9 (qN 3 0 4<|qN 7 0 10<|.jmp 0 false [(qz 1),.v 13,.v 14,.v 15,.v 16,.v 17,.v 18,.v 19,.v 11,.v 12]) (qf 1 4<|qg 10 8<|qf 0 4<|qf 0 12<|qg 13 8<|qf 0 4<|qf 2 15<|qf 1 16<|.call 88 zrX (qv [11,14,17]) 1<|qf 0 18<|qk .eql 19 0<|.subp [.bool] (qe 20 (qj 0 20) (qk .eql 19 5<|qj 0 21)) 1<|.sub0 [.sl zb2,zbD,zbq,zbW,zdo,.int .i64,.sl (.int .i64),.no,tDid] (qe 21 (.sub0 [zbD,zbq,zbW,zdo,.int .i64,.sl (.int .i64),.no,tDid,.sl zb2] (qf 0 4<|qf 0 22<|qg 23 8<|qf 2 24<|qn 25<|qf 2 4<|qh 0 27 26<|qh 2 4 28<|qf 0 29<|qf 0 30<|qc 48 31<|qf 1 29<|qg 33 8<|qi 32 8<|qg 32 35<|.call 89 zjB [.v 34,.v 36,.c (.int .u32 0)] 1<|qi 32 8<|qs 32 38 37<|qN 3 0 29<|qN 7 0 40<|.jmp 0 false (qv [44,45,46,47,48,49,41,42,39])) 9<|.jmp 0 false (qv [30,22,23,24,25,26,27,28,29])) (qk .eql 19 4<|.sub0 [.sl zb2,zbD,zbq,zbW,zdo,.int .i64,.sl (.int .i64),.no,tDid] (qe 22 (qf 0 4<|qf 4 23<|qf 0 4<|qf 2 25<|qf 2 26<|qf 2 18<|.mkS zId (qv [8,28])<|.call 104 zov (qv [24,27,29]) 2<|qk .eql 31 0<|.sub0 [.sl zb2,zbD,zbq,zbW,zdo,.int .i64,.sl (.int .i64),.no,tDid] (qe 32 (qf 0 4<|qh 4 33 30<|qh 0 4 34<|.sub0 [zbD,zbq,zbW,zdo,.int .i64,.sl (.int .i64),.no,tDid,.sl zb2] (qf 0 35<|qf 0 36<|qg 37 8<|qf 2 38<|qn 39<|qf 2 35<|qh 0 41 40<|qh 2 35 42<|qf 0 43<|qf 0 44<|qc 48 45<|qf 1 43<|qg 47 8<|qi 46 8<|qg 46 49<|.call 89 zjB [.v 48,.v 50,.c (.int .u32 0)] 1<|qi 46 8<|qs 46 52 51<|qN 3 0 43<|qN 7 0 54<|.jmp 0 false (qv [58,59,60,61,62,63,55,56,53])) 9<|.jmp 0 false (qv [44,36,37,38,39,40,41,42,43])) (qN 3 0 4<|qN 7 0 33<|.jmp 0 false (qv [36,37,38,39,40,41,42,34,35]))) 9<|.jmp 0 false (qv [33,34,35,36,37,38,39,40,41])) (qf 0 18<|qk .neq 23 1<|qf 0 4<|qf 1 25<|qf 1 18<|.call 105 ztu (qv [26,8,27,24]) 1<|.sub0 [.sl zb2,zbD,zbq,zbW,zdo,.int .i64,.sl (.int .i64),.no,tDid] (qe 28 (.sub0 [zbD,zbq,zbW,zdo,.int .i64,.sl (.int .i64),.no,tDid,.sl zb2] (qf 0 4<|qf 1 29<|qf 1 18<|.call 146 zt2 (qv [30,8,31]) 2<|.subp [.bool] (qf 0 18<|qk .eql 34 2<|qe 35 (qt 0 true) (qf 0 18<|qk .eql 36 3<|qe 37 (qf 3 18<|qb .eql 32 38<|qj 0 39) (qt 0 false))) 1<|.sub0 [zco] (qe 34 (qf 0 4<|qf 1 35<|qN 2 1 18<|.call 147 zuT (qv [36,8,37,38]) 2<|qf 0 4<|qh 1 41 39<|qh 0 4 42<|qj 0 43) (qj 0 4)) 1<|.sub0 [zbD,zbq,zbW,zdo,.int .i64,.sl (.int .i64),.no,tDid,.sl zb2] (qf 0 35<|qf 0 36<|qg 37 8<|qf 2 38<|qn 39<|qf 2 35<|qh 0 41 40<|qh 2 35 42<|qf 0 43<|qf 0 44<|qc 48 45<|qf 1 43<|qg 47 8<|qi 46 8<|qg 46 49<|.call 89 zjB (qv [48,50,32]) 1<|qi 46 8<|qs 46 52 51<|qN 3 0 43<|qN 7 0 54<|.jmp 0 false (qv [58,59,60,61,62,63,55,56,53])) 9<|.jmp 0 false (qv [36,37,38,39,40,41,42,43,44])) 9<|.jmp 0 false (qv [37,29,30,31,32,33,34,35,36])) (qf 1 18<|.sub0 [.sl zb2,zbD,zbq,zbW,zdo,.int .i64,.sl (.int .i64),.no,tDid] (qf 0 4<|qf 1 30<|.call 148 zqv (qv [31,8,29,24]) 2<|qk .eql 33 0<|.sub0 [.sl zb2,zbD,zbq,zbW,zdo,.int .i64,.sl (.int .i64),.no,tDid] (qe 34 (qf 0 4<|qh 1 35 32<|qh 0 4 36<|.sub0 [.sl zb2,zbD,zbq,zbW,zdo,.int .i64,.no,tDid,.sl (.int .i64)] (qf 0 37<|qf 6 38<|qc 8 39<|qN 3 0 37<|qN 7 0 41<|qk .add 49 1<|qi 40 8<|qs 40 52 51<|.jmp 0 false (qv [44,45,46,47,48,49,42,43,53])) 9<|.jmp 0 false (qv [38,39,40,41,42,43,46,44,45])) (qN 3 0 4<|qN 7 0 35<|.jmp 0 false (qv [38,39,40,41,42,43,44,36,37]))) 9<|.jmp 0 false (qv [35,36,37,38,39,40,41,42,43])) 9<|.jmp 0 false (qv [30,31,32,33,34,35,36,37,38]))) 9<|.jmp 0 false (qv [29,30,31,32,33,34,35,36,37]))) 9<|.jmp 0 false (qv [23,24,25,26,27,28,29,30,31]))) 9<|.jmp 0 false [(qz 0),.v 22,.v 23,.v 24,.v 25,.v 26,.v 27,.v 28,.v 29,.v 30])) 10<|qN 7 0 11<|.jmp 0 false (qv [9,10,19,20,21,22,23,24,25,12,13,14,15,16,17,18])) (qk .eql 6 2<|qe 8 (qf 2 2<|.sub0 [.int .i64,.sl zb2,zbD,zbq,zbW,zdo,.int .i64,.sl (.int .i64),.no,tDid] (qf 0 4<|qf 1 10<|qf 3 11<|qf 0 4<|qf 1 13<|.call 108 zls (qv [14,9]) 2<|qk .eql 16 5<|.subp [.bool] (qe 17 (qj 0 17) (qk .eql 16 2<|qj 0 18)) 1<|qe 18 (.sub0 [.sl zb2,zbD,zbq,zbW,zdo,.int .i64,.no,tDid,.sl (.int .i64)] (qf 0 4<|qf 3 19<|qf 0 4<|qf 5 21<|.call 155 zhW (qv [20,22]) 3<|qf 0 4<|qf 2 26<|qf 0 24<|.call 156 zh1 (qv [27,28]) 2<|qf 0 4<|qf 4 31<|qf 0 24<|.call 157 zgH (qv [32,33]) 2<|qf 1 4<|ql 36<|qf 0 4<|qf 2 38<|qf 1 39<|.call 25 zhm (qv [37,40]) 2<|.call 158 zgI [.v 29] 1<|qh 3 41 43<|qf 2 24<|qf 1 4<|ql 46<|.primH (.rep (.int .i64 0) 8) (.sl (.int .i64)) (qv [47,47])<|qf 0 4<|qh 0 49 45<|qh 0 4 50<|qf 0 51<|qh 1 52 44<|qh 0 51 53<|qf 0 54<|qh 2 55 29<|qh 0 54 56<|qf 0 57<|qh 3 58 23<|qh 0 57 59<|qf 0 60<|qh 4 61 34<|qh 0 60 62<|qN 3 0 63<|qN 7 0 64<|qf 0 24<|.prim (.setf 1) [.v 66,.c (.bool true)]<|qh 2 75 74<|.jmp 0 false (qv [67,68,69,70,71,72,65,76,48])) 9<|.jmp 0 false [(qz 0),.v 19,.v 20,.v 21,.v 22,.v 23,.v 24,.v 27,.v 25,.v 26]) (qk .eql 16 0<|qe 19 (qf 0 4<|qh 1 20 15<|qh 0 4 21<|qf 3 15<|ql 23<|.sub1 [zco] (.loop [.int .i64,zco] [(qz 0),.v 22] (qb .lss 25 24<|qe 27 (.sub1 [zco] (qg 23 25<|qg 12 25<|qb .eql 28 29<|qe 30 (qj 0 26) (.sub0 [.int .i64,zco] (qf 0 26<|qf 1 31<|qf 3 32<|qg 33 25<|qf 0 26<|qf 2 35<|.call 159 zhT (qv [36,25]) 2<|qb .eql 37 34<|qe 39 (.jmp 0 false [(qz 0),.v 26]) (qf 0 26<|qf 2 40<|.call 160 ziX (qv [41,25,34]) 2<|qf 0 26<|qh 2 44 42<|qh 0 26 45<|.jmp 0 false (qv [43,46]))) 2<|qk .neq 31 0<|qe 33 (qN 3 0 32<|qN 7 0 34<|.jmp 3 false (qv [31,37,38,39,40,41,42,43,35,36])) (qj 0 32))) 1<|qk .add 25 1<|.jmp 0 true (qv [29,28])) (qj 1 26))) 1<|qf 0 25<|qf 6 26<|qc 8 27<|qf 2 15<|ql 29<|.sub0 [.sl (.int .i64)] (.loop [.int .i64,.sl (.int .i64)] [(qz 0),.v 28] (qb .lss 31 30<|qe 33 (qg 29 31<|qf 0 34<|qk .eql 35 0<|.sub0 [.sl (.int .i64)] (qe 36 (qi 32 31<|.prim .set [.v 32,.v 37,(qz 0)]<|qj 0 38) (qj 0 32)) 1<|qk .add 31 1<|.jmp 0 true (qv [38,37])) (qj 1 32))) 1<|qN 3 0 25<|qN 7 0 32<|.jmp 0 false [(qz 0),.v 35,.v 36,.v 37,.v 38,.v 39,.v 40,.v 31,.v 33,.v 34]) (qN 3 0 4<|qN 7 0 20<|.jmp 0 false (qv [16,23,24,25,26,27,28,29,21,22])))) 10<|qN 7 0 12<|.jmp 0 false (qv [10,11,20,21,22,23,24,25,26,13,14,15,16,17,18,19])) (qk .eql 6 3<|qe 9 (qN 2 1 2<|.sub0 [.int .i64,.sl zb2,zbD,zbq,zbW,zdo,.int .i64,.sl (.int .i64),.no,tDid] (qf 0 4<|qf 1 12<|.call 112 zoH (qv [13,10,11]) 2<|qk .neq 15 0<|qe 16 (qN 3 0 4<|qN 7 0 17<|.jmp 0 false (qv [15,20,21,22,23,24,25,26,18,19])) (qf 0 4<|qh 1 17 14<|qh 0 4 18<|qf 2 14<|qg 20 10<|qf 0 21<|qk .gtr 22 0<|.sub0 [.sl zb2,zbD,zbq,zbW,zdo,.int .i64,.sl (.int .i64),.no,tDid] (qe 23 (.sub0 [.sl zb2,zbD,zbq,zbW,zdo,.int .i64,.no,tDid,.sl (.int .i64)] (qf 0 19<|qf 6 24<|qc 8 25<|qN 3 0 19<|qN 7 0 27<|qk .add 35 1<|qi 26 10<|qs 26 38 37<|.jmp 0 false (qv [30,31,32,33,34,35,28,29,39])) 9<|.jmp 0 false (qv [24,25,26,27,28,29,32,30,31])) (qN 3 0 19<|qN 7 0 24<|.jmp 0 false (qv [27,28,29,30,31,32,33,25,26]))) 9<|.jmp 0 false [(qz 0),.v 24,.v 25,.v 26,.v 27,.v 28,.v 29,.v 30,.v 31,.v 32])) 10<|qN 7 0 14<|.jmp 0 false (qv [12,13,22,23,24,25,26,27,28,15,16,17,18,19,20,21])) (qk .eql 6 4<|qe 10 (.sub0 [.int .i64,.sl zb2,zbD,zbq,zbW,zdo,.int .i64,.sl (.int .i64),.no,tDid] (qf 0 4<|qf 5 11<|qk .eql 12 1099511627776<|qe 13 (qN 3 0 4<|qN 7 0 14<|.jmp 0 false [(qz 1),.v 17,.v 18,.v 19,.v 20,.v 21,.v 22,.v 23,.v 15,.v 16]) (qf 0 4<|qf 5 14<|qk .add 15 1<|qf 0 4<|qh 5 17 16<|qh 0 4 18<|qf 0 19<|qf 3 20<|qf 0 19<|qf 5 22<|.call 114 zre (qv [21,23]) 2<|qf 0 19<|qf 4 26<|qf 0 24<|.call 115 zog (qv [27,28]) 2<|qf 0 19<|qh 4 31 29<|qh 0 19 32<|qf 0 33<|qf 6 34<|.sub0 [.bool] (.sub0 [.int .i64] (ql 35<|.sub1 [] (.loop [.int .i64] [(qz 0)] (qb .lss 37 36<|qe 38 (qg 35 37<|.subp [.bool] (.subp [.bool] (qk .gtr 39 0<|qe 40 (qf 0 33<|qf 5 41<|qk .add 42 1<|qb .sub 43 39<|qf 0 33<|qf 3 45<|qf 1 46<|qb .gtr 44 47<|qj 0 48) (qt 0 false)) 1<|qj 0 40) 1<|qe 40 (qj 2 37) (qk .add 37 1<|qr 0 41)) (qx 1))) 0<|.jmp 0 false [.c (.int .i64 (-1))]) 1<|qk .geq 36 0<|qj 0 37) 1<|.sub0 [.bool] (qf 0 33<|qf 1 37<|qf 6 38<|qf 0 39<|ql 40<|qk .eql 41 0<|qe 42 (qf 0 33<|qf 1 43<|.call 117 zic [.v 44] 1<|qn 45<|qj 0 46) (qt 0 false)) 1<|.subp [.bool] (qe 36 (qf 0 33<|qf 2 38<|qf 0 39<|qf 2 40<|qk .eql 41 0<|qj 0 42) (qe 37 (qf 0 33<|qf 2 38<|qf 0 39<|qf 2 40<|qk .eql 41 0<|qj 0 42) (qt 0 false))) 1<|.sub0 [.sl zb2,zbD,zbq,zbW,zdo,.int .i64,.sl (.int .i64),.no,tDid] (qe 38 (.sub0 [.sl zb2,zbD,zbq,zbW,zdo,.int .i64,.no,tDid,.sl (.int .i64)] (qf 0 33<|qf 3 39<|qf 0 33<|qf 5 41<|.call 155 zhW (qv [40,42]) 3<|qf 0 33<|qf 2 46<|qf 0 44<|.call 156 zh1 (qv [47,48]) 2<|qf 0 33<|qf 4 51<|qf 0 44<|.call 157 zgH (qv [52,53]) 2<|qf 1 33<|ql 56<|qf 0 33<|qf 2 58<|qf 1 59<|.call 25 zhm (qv [57,60]) 2<|.call 158 zgI [.v 49] 1<|qh 3 61 63<|qf 2 44<|qf 1 33<|ql 66<|.primH (.rep (.int .i64 0) 8) (.sl (.int .i64)) (qv [67,67])<|qf 0 33<|qh 0 69 65<|qh 0 33 70<|qf 0 71<|qh 1 72 64<|qh 0 71 73<|qf 0 74<|qh 2 75 49<|qh 0 74 76<|qf 0 77<|qh 3 78 43<|qh 0 77 79<|qf 0 80<|qh 4 81 54<|qh 0 80 82<|qN 3 0 83<|qN 7 0 84<|qf 0 44<|.prim (.setf 1) [.v 86,.c (.bool true)]<|qh 2 95 94<|.jmp 0 false (qv [87,88,89,90,91,92,85,96,68])) 9<|.jmp 0 false (qv [39,40,41,42,43,44,47,45,46])) (qN 3 0 33<|qN 7 0 39<|.jmp 0 false (qv [42,43,44,45,46,47,48,40,41]))) 9<|.jmp 0 false [(qz 0),.v 39,.v 40,.v 41,.v 42,.v 43,.v 44,.v 45,.v 46,.v 47])) 10<|qN 7 0 13<|.jmp 0 false (qv [11,12,21,22,23,24,25,26,27,14,15,16,17,18,19,20])) (qk .eql 6 5<|qe 11 (.sub0 [.int .i64,.sl zb2,.sl (.sl (.int .i64)),.sl (.sl (.int .u32)),.sl zd2,.sl (.int .u32),.sl zbF,.sl (.int .i64),zb3,zbq,zbW,zdo,.int .i64,.sl (.int .i64),.no,tDid] (qf 0 4<|qf 1 12<|.call 117 zic [.v 13] 1<|qn 14<|qe 15 (qN 3 0 4<|qN 7 0 16<|qN 7 0 20<|.jmp 0 false [(qz 8),.v 19,.v 26,.v 27,.v 28,.v 29,.v 30,.v 31,.v 32,.v 21,.v 22,.v 23,.v 24,.v 25,.v 17,.v 18]) (qf 0 4<|qf 1 16<|qf 3 17<|qc 4 18<|qN 3 0 4<|qN 7 0 20<|qN 7 0 24<|ql 19<|.sub1 [zbq,.sl (.int .u32)] (.loop [.int .i64,zbq,.sl (.int .u32)] [(qz 0),.v 25,.v 19] (qb .lss 38 37<|qe 41 (.sub1 [zbq,.sl (.int .u32)] (.mkS zcX (qv [30,31,32,40,34,35,36])<|.call 34 zhf (qv [42,38]) 1<|qk .lss 43 0<|qe 44 (.jmp 0 false (qv [39,40])) (qg 31 43<|qg 45 38<|qi 40 38<|qs 40 47 46<|.sub0 [.int .i64,zbq] (qi 48 38<|qg 48 49<|.call 159 zhT (qv [39,38]) 2<|qb .eql 51 50<|qe 53 (.jmp 0 false [(qz 0),.v 39]) (.call 160 ziX (qv [39,38,50]) 2<|.jmp 0 false (qv [55,54]))) 2<|qk .neq 49 0<|qe 51 (.jmp 3 false (qv [49,23,30,31,32,48,34,35,36,50,26,27,28,29,21,22])) (.jmp 0 false (qv [50,48])))) 2<|qk .add 38 1<|.jmp 0 true (qv [44,42,43])) (.jmp 1 false (qv [39,40])))) 2<|.call 118 zqL (qv [26,28]) 2<|qf 0 40<|.prim .get [.v 42,(qz 0)]<|qf 0 43<|.call 119 zqq (qv [38,44]) 2<|.call 120 zr0 [.v 45] 2<|qk .neq 48 0<|qe 49 (.jmp 0 false (qv [48,23,30,31,32,39,34,35,36,38,26,27,28,29,21,22])) (qf 2 47<|.call 121 zrR (qv [40,50,28,23]) 2<|.jmp 0 false (qv [52,23,30,31,32,39,34,35,36,47,51,27,28,29,21,22])))) 16<|.jmp 0 false (qv [12,13,14,15,16,17,18,19,20,21,22,23,24,25,26,27])) (qk .eql 6 6<|qe 12 (qf 0 4<|qf 1 13<|qf 6 14<|qf 2 2<|.call 67 zm9 (qv [15,16]) 2<|.subp [zco] (qf 0 4<|qf 1 19<|qh 6 20 17<|qh 1 19 21<|qh 0 4 22<|qj 0 23) 1<|qN 3 0 19<|qN 7 0 20<|qN 7 0 24<|.jmp 0 false (qv [18,23,30,31,32,33,34,35,36,25,26,27,28,29,21,22])) (qk .eql 6 7<|qe 13 (qf 0 4<|qf 1 14<|qf 6 15<|qf 2 2<|qf 1 2<|.call 68 zqJ (qv [16,17,18]) 2<|.subp [zco] (qf 0 4<|qf 1 21<|qh 6 22 19<|qh 1 21 23<|qh 0 4 24<|qj 0 25) 1<|qN 3 0 21<|qN 7 0 22<|qN 7 0 26<|.jmp 0 false (qv [20,25,32,33,34,35,36,37,38,27,28,29,30,31,23,24])) (qk .eql 6 8<|qe 14 (qf 0 4<|qf 2 15<|qf 1 2<|.call 69 zq2 (qv [16,17]) 2<|qf 0 4<|qh 2 20 18<|qh 0 4 21<|qN 3 0 22<|qN 7 0 23<|qN 7 0 27<|.jmp 0 false (qv [19,26,33,34,35,36,37,38,39,28,29,30,31,32,24,25])) (.sub0 [.int .i64,.sl zb2,zbD,zbq,zbW,zdo,.int .i64,.sl (.int .i64),.no,tDid] (qf 0 4<|qf 2 15<|.call 127 zlt [.v 16] 2<|qk .eql 18 0<|.sub0 [.sl zb2,zbD,zbq,zbW,zdo,.int .i64,.sl (.int .i64),.no,tDid] (qe 19 (qf 0 4<|qh 2 20 17<|qh 0 4 21<|.sub0 [.sl zb2,zbD,zbq,zbW,zdo,.int .i64,.no,tDid,.sl (.int .i64)] (qf 0 22<|qf 3 23<|qf 0 22<|qf 5 25<|.call 155 zhW (qv [24,26]) 3<|qf 0 22<|qf 2 30<|qf 0 28<|.call 156 zh1 (qv [31,32]) 2<|qf 0 22<|qf 4 35<|qf 0 28<|.call 157 zgH (qv [36,37]) 2<|qf 1 22<|ql 40<|qf 0 22<|qf 2 42<|qf 1 43<|.call 25 zhm (qv [41,44]) 2<|.call 158 zgI [.v 33] 1<|qh 3 45 47<|qf 2 28<|qf 1 22<|ql 50<|.primH (.rep (.int .i64 0) 8) (.sl (.int .i64)) (qv [51,51])<|qf 0 22<|qh 0 53 49<|qh 0 22 54<|qf 0 55<|qh 1 56 48<|qh 0 55 57<|qf 0 58<|qh 2 59 33<|qh 0 58 60<|qf 0 61<|qh 3 62 27<|qh 0 61 63<|qf 0 64<|qh 4 65 38<|qh 0 64 66<|qN 3 0 67<|qN 7 0 68<|qf 0 28<|.prim (.setf 1) [.v 70,.c (.bool true)]<|qh 2 79 78<|.jmp 0 false (qv [71,72,73,74,75,76,69,80,52])) 9<|.jmp 0 false (qv [23,24,25,26,27,28,31,29,30])) (qN 3 0 4<|qN 7 0 20<|.jmp 0 false (qv [23,24,25,26,27,28,29,21,22]))) 9<|.jmp 0 false (qv [18,20,21,22,23,24,25,26,27,28])) 10<|qN 7 0 17<|.jmp 0 false (qv [15,16,25,26,27,28,29,30,31,18,19,20,21,22,23,24]))))))))))) 16<|qk .neq 5 0<|qe 21 (.jmp 0 false [.v 1,.c (.agg [(.bool false),(.bool false),(.int .i64 0)]),.v 5]) (.mkS zcX (qv [7,8,9,10,11,12,13])<|.mkS zvs (qv [6,22,14,15,16,17,18])<|.jmp 0 false [.v 23,.v 20,(qz 0)]))
theorem zmp:zaM cx 12 11=some zmg.erase:=by kernel_rfl
theorem zvx:FnOk cx 12 noC 11 zm2:=rf_ zmp (.cons zup (.cons zAk (.cons znJ (.cons zxy (.cons znJ (.cons zBk (.cons zAP (.cons zAD (.cons znJ (.cons zAy (.cons zuk (.cons zkK (.cons zkw (.cons zjf (.cons zja (.cons zjt (.cons zlk (.cons zoy (.cons zyi (.cons zzP (.cons zx0 (.cons zmL (.cons zkK (.cons zkw (.cons zjf (.cons zja (.cons zjt (.cons zmL (.cons zlj (.cons zlk (.cons zoy (.cons zzr (.cons zz7 (.cons zyN (.cons zy4 (.cons zu8 (.cons zzO (.cons zyV (.cons ztP (.cons zkK (.cons zkw (.cons zjf (.cons zja (.cons zjt .nil))))))))))))))))))))))))))))))))))))))))))))
end Go.Proofs.YtplfgkjjgflhkaaGreat
