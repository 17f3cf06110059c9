/- The two halves of a delivery, as functions of their own. Printed by blk.py. -/
import Derived.Test.YtlgjbfdojbmmgaaR6
set_option linter.unusedVariables false
set_option maxRecDepth 100000
noncomputable section
namespace Go.Proofs.Ytlgjbfdojbmmgaa
open Go.SX
def zm4 (po:Pool) (st va:List (List Int)) (wa:List Wait) (v25:Int):Option (Pool×(List (List Int))×(List (List Int))×(List Wait)) :=
 (zzH (List.length wa:Int) v25).bind fun v60=>(zzG wa v60).bind fun v61=>if (!(Wait.Came v61))||(decide ((Wait.Got v61)<(Wait.Need v61))) then
 some ((po,st,va,wa))
 else
 let v64:Int:=w64 ((Wait.Line v61) - (1:Int))
 (zzH (List.length st:Int) v25).bind fun v67=>(zzH (List.length st:Int) v67).bind fun v68=>(zzG st v68).bind fun v69=>(zzH (List.length v69:Int) v64).bind fun v70=>(zzG st v68).bind fun v71=>(zzI v71 v70 (bif Wait.Write v61 then (3:Int) else bif Wait.Own v61 then (2:Int) else (1:Int))).bind fun v72=>(zzI st v68 v72).bind fun v73=>(if !(Wait.Keep v61) then
 (zzH (List.length va:Int) v25).bind fun v76=>(zzH (List.length va:Int) v76).bind fun v77=>(zzG va v77).bind fun v79=>(zzH (List.length v79:Int) v64).bind fun v80=>(zzG va v77).bind fun v81=>(zzI v81 v80 (Wait.Val v61)).bind fun v82=>(zzI va v77 v82).bind fun v83=>some (v83)
 else
 some (va):Option (List (List Int))).bind fun v76=>(zzH (List.length wa:Int) v25).bind fun v77=>(zzI wa v77 (Wait.mk (0:Int) false false false false false (0:Int) (0:Int) (0:Int))).bind fun v78=>((zaf po (Msg.mk (11:Int) (w64 (v25 + (1:Int))) (0:Int) v64 (0:Int) (0:Int) false (0:Int) (0:Int))).bind fun v81=>some (v81.1):Option Pool).bind fun v81=>some ((v81,v73,v76,v78))
def zey (po:Pool) (m:Msg) (st va:List (List Int)) (wa:List Wait) (v25:Int):Option (Pool×(List (List Int))×(List (List Int))×(List Wait)) :=
 (zzH (List.length wa:Int) v25).bind fun v26=>(zzH (List.length st:Int) v25).bind fun v27=>(zzH (List.length st:Int) v27).bind fun v28=>(zzG st v28).bind fun v30=>(zzH (List.length v30:Int) (Msg.Line m)).bind fun v31=>(zzG wa v26).bind fun v32=>let v36:Bool:=decide ((Wait.Line v32)=(w64 ((Msg.Line m) + (1:Int))))
 (if decide ((Msg.Kind m)=(3:Int)) then
 (if v36 then
 (zzG wa v26).bind fun v39=>if !(Wait.Back v39) then
 (zzG wa v26).bind fun v42=>some ((!(Wait.Came v42)))
 else
 some (false)
 else
 some (false):Option Bool).bind fun v39=>(if v39 then
 (zzG wa v26).bind fun v45=>(zzI wa v26 (Wait.setCame v45 true)).bind fun v47=>(zzG v47 v26).bind fun v48=>(zzI v47 v26 (Wait.setNeed v48 (Msg.Acks m))).bind fun v50=>(zzG v50 v26).bind fun v51=>(zzI v50 v26 (Wait.setOwn v51 (Msg.Own m))).bind fun v53=>(zzG v53 v26).bind fun v54=>(zzI v53 v26 (Wait.setKeep v54 (decide ((Msg.Num m)=(1:Int))))).bind fun v56=>(zzG v56 v26).bind fun v57=>(zzI v56 v26 (Wait.setVal v57 (Msg.Val m))).bind fun v59=>(zm4 po st va v59 v25).bind fun v60=>some ((v60.1,v60.2.1,v60.2.2.1,v60.2.2.2))
 else
 some ((po,st,va,wa)):Option (Pool×(List (List Int))×(List (List Int))×(List Wait))).bind fun v40=>some ((v40.1,v40.2.1,v40.2.2.1,v40.2.2.2))
 else
 (if decide ((Msg.Kind m)=(5:Int)) then
 (if v36 then
 (zzG wa v26).bind fun v40=>if Wait.Write v40 then
 (zzG wa v26).bind fun v42=>some ((decide ((Wait.Got v42)<(255:Int))))
 else
 some (false)
 else
 some (false):Option Bool).bind fun v40=>(if v40 then
 (zzG wa v26).bind fun v41=>(zzG wa v26).bind fun v44=>(zzI wa v26 (Wait.setGot v44 (w64 ((Wait.Got v41) + (1:Int))))).bind fun v46=>(zm4 po st va v46 v25).bind fun v47=>some ((v47.1,v47.2.1,v47.2.2.1,v47.2.2.2))
 else
 some ((po,st,va,wa)):Option (Pool×(List (List Int))×(List (List Int))×(List Wait))).bind fun v41=>some ((v41.1,v41.2.1,v41.2.2.1,v41.2.2.2))
 else
 (if decide ((Msg.Kind m)=(4:Int)) then
 (zzG st v28).bind fun v41=>(zzG v41 v31).bind fun v42=>(if decide (v42=(1:Int)) then
 (zzG st v28).bind fun v44=>(zzI v44 v31 (0:Int)).bind fun v45=>(zzI st v28 v45).bind fun v46=>some (v46)
 else
 some (st):Option (List (List Int))).bind fun v44=>((zaf po (Msg.mk (5:Int) (w64 (v25 + (1:Int))) (Msg.For m) (Msg.Line m) (0:Int) (0:Int) false (0:Int) (0:Int))).bind fun v49=>some (v49.1):Option Pool).bind fun v49=>some ((v49,v44,wa))
 else
 let v41:Bool:=decide ((Msg.Kind m)=(6:Int))
 (if bif v41 then v41 else decide ((Msg.Kind m)=(7:Int)) then
 ((zzH (List.length st:Int) v25).bind fun v43=>(zzH (List.length st:Int) v43).bind fun v44=>(zzG st v44).bind fun v46=>(zzH (List.length v46:Int) (Msg.Line m)).bind fun v47=>(zzG st v44).bind fun v48=>(zzG v48 v47).bind fun v49=>if !(zcN v49) then
 some ((po,st))
 else
 let v53:Bool:=decide ((Msg.Kind m)=(7:Int))
 (zzH (List.length va:Int) v25).bind fun v58=>(zzH (List.length va:Int) v58).bind fun v59=>(zzG va v59).bind fun v61=>(zzH (List.length v61:Int) (Msg.Line m)).bind fun v62=>(zzG va v59).bind fun v63=>(zzG v63 v62).bind fun v64=>((zaf po (Msg.mk (3:Int) (w64 (v25 + (1:Int))) (Msg.For m) (Msg.Line m) (0:Int) (Msg.Acks m) v53 (0:Int) v64)).bind fun v66=>some (v66.1):Option Pool).bind fun v66=>(zzG st v44).bind fun v67=>(zzI v67 v47 (4:Int)).bind fun v68=>(zzI st v44 v68).bind fun v69=>(if v53 then
 (zzG v69 v44).bind fun v70=>(zzI v70 v47 (0:Int)).bind fun v71=>(zzI v69 v44 v71).bind fun v72=>some (v72)
 else
 some (v69):Option (List (List Int))).bind fun v70=>some ((v66,v70)):Option (Pool×(List (List Int)))).bind fun v43=>some ((v43.1,v43.2,wa))
 else
 (if decide ((Msg.Kind m)=(10:Int)) then
 (if !v36 then
 some (true)
 else
 (zzG wa v26).bind fun v45=>some ((Wait.Came v45)):Option Bool).bind fun v44=>(if v44 then
 some ((po,wa))
 else
 ((zzG wa v26).bind fun v45=>if Wait.Back v45 then
 (zzG st v28).bind fun v47=>(zzG v47 v31).bind fun v48=>some ((!(zcN v48)))
 else
 some (false):Option Bool).bind fun v45=>(if v45 then
 (zzI wa v26 (Wait.mk (0:Int) false false false false false (0:Int) (0:Int) (0:Int))).bind fun v46=>some ((po,v46))
 else
 ((zzH (List.length wa:Int) v25).bind fun v46=>(zzG wa v46).bind fun v47=>let v52:Msg:=Msg.mk (1:Int) (w64 (v25 + (1:Int))) (0:Int) (w64 ((Wait.Line v47) - (1:Int))) (w64 (v25 + (1:Int))) (0:Int) false (0:Int) (0:Int)
 (if Wait.Back v47 then
 (zzH (List.length va:Int) v25).bind fun v54=>(zzH (List.length va:Int) v54).bind fun v55=>(zzG va v55).bind fun v57=>(zzH (List.length v57:Int) (Msg.Line v52)).bind fun v58=>(zzG va v55).bind fun v59=>(zzG v59 v58).bind fun v60=>some ((Msg.setVal (Msg.setFor (Msg.setKind v52 (8:Int)) (0:Int)) v60))
 else
 some ((bif Wait.Write v47 then Msg.setKind v52 (2:Int) else v52)):Option Msg).bind fun v54=>((zaf po v54).bind fun v55=>some (v55.1):Option Pool).bind fun v55=>some (v55):Option Pool).bind fun v46=>some ((v46,wa)):Option (Pool×(List Wait))).bind fun v46=>some ((v46.1,v46.2)):Option (Pool×(List Wait))).bind fun v45=>some ((v45.1,st,v45.2))
 else
 (if decide ((Msg.Kind m)=(9:Int)) then
 (if v36 then
 (zzG wa v26).bind fun v45=>some ((Wait.Back v45))
 else
 some (false):Option Bool).bind fun v45=>(if v45 then
 (zzG st v28).bind fun v46=>(zzI v46 v31 (0:Int)).bind fun v47=>(zzI st v28 v47).bind fun v48=>(zzI wa v26 (Wait.mk (0:Int) false false false false false (0:Int) (0:Int) (0:Int))).bind fun v49=>some ((v48,v49))
 else
 some ((st,wa)):Option ((List (List Int))×(List Wait))).bind fun v46=>some ((v46.1,v46.2))
 else
 some ((st,wa)):Option ((List (List Int))×(List Wait))).bind fun v45=>some ((po,v45.1,v45.2)):Option (Pool×(List (List Int))×(List Wait))).bind fun v44=>some ((v44.1,v44.2.1,v44.2.2)):Option (Pool×(List (List Int))×(List Wait))).bind fun v43=>some ((v43.1,v43.2.1,v43.2.2)):Option (Pool×(List (List Int))×(List Wait))).bind fun v41=>some ((v41.1,v41.2.1,va,v41.2.2)):Option (Pool×(List (List Int))×(List (List Int))×(List Wait))).bind fun v40=>some ((v40.1,v40.2.1,v40.2.2.1,v40.2.2.2)):Option (Pool×(List (List Int))×(List (List Int))×(List Wait))).bind fun v39=>some ((v39.1,v39.2.1,v39.2.2.1,v39.2.2.2))
def zgl (po:Pool) (m:Msg) (ho:List Int) (di:List Entry) (bu:List Int):Option (Pool×(List Int)×(List Entry)×(List Int)) :=
 let v27:Bool:=decide ((Msg.Kind m)=(1:Int))
 zbv (if bif v27 then v27 else decide ((Msg.Kind m)=(2:Int)) then
 (if !decide ((Msg.For m)=(Msg.From m)) then
 some ((po,di,bu))
 else
 (zzH (List.length bu:Int) (Msg.Line m)).bind fun v33=>(zzG bu v33).bind fun v34=>if decide ((0:Int)<v34) then
 ((zaf po (Msg.mk (10:Int) (0:Int) (Msg.From m) (Msg.Line m) (0:Int) (0:Int) false (0:Int) (0:Int))).bind fun v39=>some (v39.1):Option Pool).bind fun v39=>some ((v39,di,bu))
 else
 (zzH (List.length bu:Int) (Msg.Line m)).bind fun v38=>(zzI bu v38 (Msg.From m)).bind fun v39=>(zzH (List.length di:Int) (Msg.Line m)).bind fun v41=>(zzG di v41).bind fun v42=>(if decide ((Msg.Kind m)=(2:Int)) then
 (zd8 v42 (w64 ((Msg.From m) - (1:Int)))).bind fun v47=>some ((v47.2.1,v47.2.2.1,(7:Int),v47.1))
 else
 (ze7 v42 (w64 ((Msg.From m) - (1:Int)))).bind fun v47=>some ((v47.2.1,([]:List Int),(6:Int),v47.1)):Option (Int×(List Int)×Int×Entry)).bind fun v45=>(zzH (List.length di:Int) (Msg.Line m)).bind fun v50=>(zzI di v50 v45.2.2.2).bind fun v51=>let v52:Int:=(List.length v45.2.1:Int)
 (zae (za7 m v45.2.1 v52) ((0:Int),po):Option Pool).bind fun v53=>(if decide ((Entry.Owner v45.2.2.2)=(Msg.From m)) then
 (zcJ v45.2.2.2).bind fun v57=>some (v57)
 else
 some (false):Option Bool).bind fun v54=>(if decide (v45.1=(0:Int)) then
 (zzH (List.length ho:Int) (Msg.Line m)).bind fun v60=>(zzG ho v60).bind fun v61=>((zaf v53 (Msg.mk (3:Int) (0:Int) (Msg.From m) (Msg.Line m) (0:Int) (List.length v45.2.1:Int) v54 (0:Int) v61)).bind fun v63=>some (v63.1):Option Pool).bind fun v63=>some (v63)
 else
 (if decide (v45.1=(Msg.From m)) then
 ((zaf v53 (Msg.mk (3:Int) (0:Int) (Msg.From m) (Msg.Line m) (0:Int) (List.length v45.2.1:Int) v54 (1:Int) (0:Int))).bind fun v62=>some (v62.1):Option Pool).bind fun v62=>some (v62)
 else
 ((zaf v53 (Msg.mk v45.2.2.1 (0:Int) v45.1 (Msg.Line m) (Msg.From m) (List.length v45.2.1:Int) false (0:Int) (0:Int))).bind fun v62=>some (v62.1):Option Pool).bind fun v62=>some (v62):Option Pool).bind fun v58=>some (v58):Option Pool).bind fun v56=>some ((v56,v51,v39)):Option (Pool×(List Entry)×(List Int))).bind fun v29=>some (Sum.inl (v29.1,ho,v29.2.1,v29.2.2))
 else
 zbv (if decide ((Msg.Kind m)=(8:Int)) then
 (zzH (List.length bu:Int) (Msg.Line m)).bind fun v31=>(zzG bu v31).bind fun v32=>if decide ((0:Int)<v32) then
 ((zaf po (Msg.mk (10:Int) (0:Int) (Msg.From m) (Msg.Line m) (0:Int) (0:Int) false (0:Int) (0:Int))).bind fun v37=>some (v37.1):Option Pool).bind fun v37=>some (Sum.inr (Sum.inr ((v37,ho,di,bu))))
 else
 (zzH (List.length di:Int) (Msg.Line m)).bind fun v35=>(zzG di v35).bind fun v36=>(zeZ v36 (w64 ((Msg.From m) - (1:Int)))).bind fun v39=>(if decide (v39.2=(0:Int)) then
 (zzH (List.length di:Int) (Msg.Line m)).bind fun v45=>(zzI di v45 v39.1).bind fun v46=>(zzH (List.length ho:Int) (Msg.Line m)).bind fun v47=>(zzI ho v47 (Msg.Val m)).bind fun v48=>some ((v48,v46))
 else
 some ((ho,di)):Option ((List Int)×(List Entry))).bind fun v42=>((zaf po (Msg.mk (9:Int) (0:Int) (Msg.From m) (Msg.Line m) (0:Int) (0:Int) false (0:Int) (0:Int))).bind fun v47=>some (v47.1):Option Pool).bind fun v47=>some (Sum.inl (v47,v42.1,v42.2,bu))
 else
 (if decide ((Msg.Kind m)=(11:Int)) then
 (zzH (List.length bu:Int) (Msg.Line m)).bind fun v32=>(zzG bu v32).bind fun v33=>(if decide (v33=(Msg.From m)) then
 (zzH (List.length bu:Int) (Msg.Line m)).bind fun v37=>(zzI bu v37 (0:Int)).bind fun v38=>some (v38)
 else
 some (bu):Option (List Int)).bind fun v36=>some (v36)
 else
 some (bu):Option (List Int)).bind fun v31=>some (Sum.inl (po,ho,di,v31)):Option ((Pool×(List Int)×(List Entry)×(List Int))⊕(Pool×(List Int)×(List Entry)×(List Int))⊕(Pool×(List Int)×(List Entry)×(List Int)))) fun v30=>some (Sum.inl (v30.1,v30.2.1,v30.2.2.1,v30.2.2.2)):Option ((Pool×(List Int)×(List Entry)×(List Int))⊕(Pool×(List Int)×(List Entry)×(List Int)))) fun v29=>some ((v29.1,v29.2.1,v29.2.2.1,v29.2.2.2))
theorem zlq (p0:Proto) (p1:Int):zax p0 p1 =
 (
  (
   let v3:Int:=(List.length (Proto.State p0):Int)
   (
    zae (zdl (Proto.State p0) v3) ((0:Int),([]:List (List Int))):Option (List (List Int))).bind fun v4 =>
   some (v4):Option (List (List Int))).bind fun v3 =>
  (
   let v5:Int:=(List.length (Proto.Val p0):Int)
   (
    zae (zds (Proto.Val p0) v5) ((0:Int),([]:List (List Int))):Option (List (List Int))).bind fun v6 =>
   some (v6):Option (List (List Int))).bind fun v5 =>
  (zat 40 (Proto.Wait p0)).bind fun v7 =>
  (zat 4 (Proto.Home p0)).bind fun v9 =>
  (zat 8 (Proto.Busy p0)).bind fun v11 =>
  let v19:Int:=(List.length (Proto.Dir p0):Int)
  (
   zae (zdk (Proto.Dir p0) v19) ((0:Int),([]:List Entry)):Option (List Entry)).bind fun v20 =>
  let v21:List (List Int):=Pool.Frames (Proto.Pool p0)
  (
   let v22:Int:=(List.length v21:Int)
   (
    zae (zdn v21 v22) ((0:Int),([]:List (List Int))):Option (List (List Int))).bind fun v23 =>
   some (v23):Option (List (List Int))).bind fun v22 =>
  some ((v3,v5,v7,v9,v20,v11,v22)):Option ((List (List Int))×(List (List Int))×(List Wait)×(List Int)×(List Entry)×(List Int)×(List (List Int)))).bind fun v2 =>
 (za4 p0).bind fun v9 =>
 if !v9 then
  some ((Proto.mk v2.1 v2.2.1 v2.2.2.1 v2.2.2.2.1 v2.2.2.2.2.1 v2.2.2.2.2.2.1 (Pool.mk v2.2.2.2.2.2.2),(1:Int)))
 else
  (zdd (Proto.Pool p0) p1).bind fun v12 =>
  if decide (v12.2.2=(7:Int)) then
   some ((Proto.mk v2.1 v2.2.1 v2.2.2.1 v2.2.2.2.1 v2.2.2.2.2.1 v2.2.2.2.2.2.1 (Pool.mk v2.2.2.2.2.2.2),v12.2.2))
  else
   (zcr v12.1).bind fun v16 =>
   if decide (v16<(w64 ((List.length (Proto.Wait p0):Int) + (1:Int)))) then
    some ((Proto.mk v2.1 v2.2.1 v2.2.2.1 v2.2.2.2.1 v2.2.2.2.2.1 v2.2.2.2.2.2.1 (Pool.mk v2.2.2.2.2.2.2),(6:Int)))
   else
    (
     if (!decide (v12.2.2=(0:Int)))||(!(zcz p0 v12.2.1)) then
      some ((v12.1,v2.1,v2.2.1,v2.2.2.1,v2.2.2.2.1,v2.2.2.2.2.1,v2.2.2.2.2.2.1))
     else
      (
       if decide ((0:Int)<(Msg.To v12.2.1)) then
        let v25:Int:=w64 ((Msg.To v12.2.1) - (1:Int))
        (zey v12.1 v12.2.1 v2.1 v2.2.1 v2.2.2.1 v25).bind fun v26 =>
        some ((v26.1,v26.2.1,v26.2.2.1,v26.2.2.2,v2.2.2.2.1,v2.2.2.2.2.1,v2.2.2.2.2.2.1))
       else
        (
         if decide ((0:Int)<(Msg.From v12.2.1)) then
          (zgl v12.1 v12.2.1 v2.2.2.2.1 v2.2.2.2.2.1 v2.2.2.2.2.2.1).bind fun v26 =>
          some ((v26.1,v26.2.1,v26.2.2.1,v26.2.2.2))
         else
          some ((v12.1,v2.2.2.2.1,v2.2.2.2.2.1,v2.2.2.2.2.2.1)):Option (Pool×(List Int)×(List Entry)×(List Int))).bind fun v26 =>
        some ((v26.1,v2.1,v2.2.1,v2.2.2.1,v26.2.1,v26.2.2.1,v26.2.2.2)):Option (Pool×(List (List Int))×(List (List Int))×(List Wait)×(List Int)×(List Entry)×(List Int))).bind fun v24 =>
      some ((v24.1,v24.2.1,v24.2.2.1,v24.2.2.2.1,v24.2.2.2.2.1,v24.2.2.2.2.2.1,v24.2.2.2.2.2.2)):Option (Pool×(List (List Int))×(List (List Int))×(List Wait)×(List Int)×(List Entry)×(List Int))).bind fun v22 =>
    some ((Proto.mk v22.2.1 v22.2.2.1 v22.2.2.2.1 v22.2.2.2.2.1 v22.2.2.2.2.2.1 v22.2.2.2.2.2.2 v22.1,v12.2.2)):=rfl
end Go.Proofs.Ytlgjbfdojbmmgaa
