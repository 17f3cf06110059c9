import Derived.Test.YtdfohlonacbelaaGreatQ3
set_option linter.unusedSimpArgs false
set_option linter.unusedVariables false
namespace Go.Proofs.YtdfohlonacbelaaGreat
open Go.SX
def zmg (l:List (List Int)) (n m:Nat):Bool:=decide (l.length=n)&&l.all fun r=>decide (r.length=m)
theorem zwI (l:List (List Int)) (n m:Nat) (hl:l.length≤1000):zde l (n:Int) (m:Int)=some (zmg l n m):=by
 unfold zde zmg
 by_cases hn:l.length=n
 ·have hn':(l.length:Int)=(n:Int):=by omega
  have lp:=zlk (f:=zbv l (m:Int) (List.length l:Int)) (n:=l.length) (fun i=>(i:Int)) (fun i=>zAV (fun r=>decide (r.length=m)) l[i]?) (e:=(Sum.inl ():Unit⊕Int)) (r:=fun i=>.inr (i:Int)) (fun i hi _=>by
   have hlt:(i:Int)<(List.length l:Int):=by omega
   rw [zbm hi]
   unfold zbv
   simp only [hlt,vE0,if_true,zac hi,wC0,zas (show i<4611686018427387904 by omega)]
   by_cases h:l[i].length=m
   ·have h':(l[i].length:Int)=(m:Int):=by omega
    simp only [h,h',vE0,wH0,wA0,if_false,if_true]
   ·have h':¬ (l[i].length:Int)=(m:Int):=by omega
    simp only [h,h',vF0,vH0,wA0,if_false,if_true]) (fun _=>by
   unfold zbv
   simp only [show ¬ (List.length l:Int)<(List.length l:Int) by omega,vF0,wA0,if_false])
  rw [show (((0:Nat):Int))=0 from rfl] at lp
  have f1:=(zcB (fun i=>zAV (fun r:List Int=>decide (r.length=m)) l[i]?) l.length).1
  have f2:=zhY (ok:=fun i=>zAV (fun r:List Int=>decide (r.length=m)) l[i]?) (n:=l.length)
  rw [← zaQ,← zb8] at f2
  rw [vC0 hn',if_pos rfl,vC0 hn,vC1]
  simp only [lp]
  by_cases ha:(l.all fun r=>decide (r.length=m))=true
  ·have:=f2.2 ha
   rw [if_neg (by omega),ha]
   rfl
  ·have:zbI (fun i=>zAV (fun r:List Int=>decide (r.length=m)) l[i]?) l.length<l.length:=by
    rcases vV0 (zbI (fun i=>zAV (fun r:List Int=>decide (r.length=m)) l[i]?) l.length) l.length with q|q
    ·exact q
    ·exact absurd (f2.1 (by omega)) ha
   rw [if_pos this,Bool.eq_false_iff.2 ha]
   have h0:(0:Int)≤((zbI (fun i=>zAV (fun r:List Int=>decide (r.length=m)) l[i]?) l.length:Nat):Int):=by omega
   simp only [za6,wC0,h0,vE0,wH0]
 ·have hn':¬ (l.length:Int)=(n:Int):=by omega
  rw [vD0 hn',if_neg (by simp),vD0 hn]
  rfl
theorem zyM (l:List (List Int)) (n m:Nat) (hl:l.length≤1000):zcS l (n:Int) (m:Int)=some (zmg l n m):=zwI l n m hl
theorem zmP {l:List (List Int)}{n m:Nat}(h:zmg l n m=true):l.length=n∧∀ r∈l,r.length=m:=by
 unfold zmg at h
 rw [wD0,vG0,List.all_eq_true] at h
 exact ⟨h.1,fun r hr=>of_decide_eq_true (h.2 r hr)⟩
structure Formed (p:Proto):Prop where
 wl:(Proto.Wait p).length≤4
 hl:(Proto.Home p).length≤16
 state:(Proto.State p).length=(Proto.Wait p).length∧∀ r∈Proto.State p,r.length=(Proto.Home p).length
 val:(Proto.Val p).length=(Proto.Wait p).length∧∀ r∈Proto.Val p,r.length=(Proto.Home p).length
 dir:(Proto.Dir p).length=(Proto.Home p).length
 busy:(Proto.Busy p).length=(Proto.Home p).length
structure zff (p:Proto):Prop where
 state:(Proto.State p).length≤6
 val:(Proto.Val p).length≤6
 wait:(Proto.Wait p).length≤6
 home:(Proto.Home p).length≤20
 frames:(Pool.Frames (Proto.Pool p)).length≤80
def zdC (h:Nat) (w:Wait):Bool:=(decide (0≤Wait.Line w)&&decide (Wait.Line w≤(h:Int)))&&((decide (0≤Wait.Need w)&&decide (Wait.Need w≤255))&&(decide (0≤Wait.Got w)&&decide (Wait.Got w≤255)))
def stB (s:Int):Bool:=decide (0≤s)&&decide (s≤4)
def zdE (p:Proto) (n:Nat):List Int:=(Proto.State p)[n]?.getD []
def zus (p:Proto) (n:Nat):List Int:=(Proto.Val p)[n]?.getD []
def zmi (p:Proto) (n:Nat):Bool:=zAV (zdC (Proto.Home p).length) (Proto.Wait p)[n]?&&(zdE p n).all stB
def zpi (p:Proto) (l:Nat):Bool:=zAV (fun e=>zAP e (Proto.Wait p).length) (Proto.Dir p)[l]?&&zAV (fun b=>decide (0≤b)&&decide (b≤((Proto.Wait p).length:Int))) (Proto.Busy p)[l]?
def zih (p:Proto):Bool:=decide (1≤(Proto.Wait p).length∧(Proto.Wait p).length≤4∧1≤(Proto.Home p).length∧(Proto.Home p).length≤16∧(Proto.State p).length=(Proto.Wait p).length∧(Proto.Val p).length=(Proto.Wait p).length∧(Proto.Dir p).length=(Proto.Home p).length∧(Proto.Busy p).length=(Proto.Home p).length)
def zA9 (p:Proto) (n:Nat):Bool:=decide ((zdE p n).length=(Proto.Home p).length)&&decide ((zus p n).length=(Proto.Home p).length)
def zds (p:Proto):Bool:=(zih p&&(List.range (Proto.Wait p).length).all (zA9 p))&&(zcg (Proto.Pool p)&&((List.range (Proto.Wait p).length).all (zmi p)&&(List.range (Proto.Home p).length).all (zpi p)))
theorem zyh {p:Proto}(hs:zff p):zeO p=some (zih p&&(List.range (Proto.Wait p).length).all (zA9 p)):=by
 have e1:=zwI (Proto.State p) (Proto.Wait p).length (Proto.Home p).length (by have:=hs.state;omega)
 have e2:=zyM (Proto.Val p) (Proto.Wait p).length (Proto.Home p).length (by have:=hs.val;omega)
 unfold zeO
 simp only [e1,e2,wC0]
 by_cases hz:zih p=true
 ·rw [hz,vC1]
  unfold zih at hz
  have z:=of_decide_eq_true hz
  obtain ⟨z1,z2,z3,z4,z5,z6,z7,z8⟩:=z
  have hc:((decide ((List.length (Proto.Wait p):Int)<(1:Int)))||((decide ((4:Int)<(List.length (Proto.Wait p):Int)))||((decide ((List.length (Proto.Home p):Int)<(1:Int)))||(decide ((16:Int)<(List.length (Proto.Home p):Int))))))=false:=by
   rw [Bool.eq_false_iff]
   simp only [ne_eq,Bool.or_eq_true,vG0]
   omega
  have h3:(List.length (Proto.Dir p):Int)=(List.length (Proto.Home p):Int):=by omega
  have h4:(List.length (Proto.Busy p):Int)=(List.length (Proto.Home p):Int):=by omega
  have hr:(List.range (Proto.Wait p).length).all (zA9 p)=(zmg (Proto.State p) (Proto.Wait p).length (Proto.Home p).length&&zmg (Proto.Val p) (Proto.Wait p).length (Proto.Home p).length):=by
   unfold zmg
   rw [vC0 z5,vC0 z6,vC1,vC1,zb8 (l:=Proto.State p),zb8 (l:=Proto.Val p),z5,z6,Bool.eq_iff_iff,wD0,zaQ,zaQ,zaQ]
   constructor
   ·intro q
    constructor
    ·intro i hi
     have:=q i hi
     unfold zA9 zdE at this
     rw [wD0] at this
     have t:=this.1
     have hil:i<(Proto.State p).length:=by omega
     rw [wF0 hil] at t ⊢
     exact t
    ·intro i hi
     have:=q i hi
     unfold zA9 zus at this
     rw [wD0] at this
     have t:=this.2
     have hil:i<(Proto.Val p).length:=by omega
     rw [wF0 hil] at t ⊢
     exact t
   ·rintro ⟨q1,q2⟩ i hi
    have t1:=q1 i hi
    have t2:=q2 i hi
    have hil:i<(Proto.State p).length:=by omega
    have hil2:i<(Proto.Val p).length:=by omega
    unfold zA9 zdE zus
    rw [wF0 hil] at t1 ⊢
    rw [wF0 hil2] at t2 ⊢
    rw [wD0]
    exact ⟨t1,t2⟩
  rw [hc,hr]
  simp only [wA0,if_false,h3,h4,vE0]
  cases zmg (Proto.State p) (Proto.Wait p).length (Proto.Home p).length
  ·rfl
  ·cases zmg (Proto.Val p) (Proto.Wait p).length (Proto.Home p).length<;>rfl
 ·rw [Bool.eq_false_iff.2 hz,vD1]
  by_cases hc:((decide ((List.length (Proto.Wait p):Int)<(1:Int)))||((decide ((4:Int)<(List.length (Proto.Wait p):Int)))||((decide ((List.length (Proto.Home p):Int)<(1:Int)))||(decide ((16:Int)<(List.length (Proto.Home p):Int))))))=true
  ·rw [if_pos hc]
  ·rw [if_neg hc]
   simp only [Bool.or_eq_true,vG0] at hc
   cases h1:zmg (Proto.State p) (Proto.Wait p).length (Proto.Home p).length
   ·rfl
   cases h2:zmg (Proto.Val p) (Proto.Wait p).length (Proto.Home p).length
   ·rfl
   have f1:=(zmP h1).1
   have f2:=(zmP h2).1
   by_cases h3:(List.length (Proto.Dir p):Int)=(List.length (Proto.Home p):Int)
   ·have h4:¬ (List.length (Proto.Busy p):Int)=(List.length (Proto.Home p):Int):=fun h4=>hz (by
     unfold zih
     exact vC0 (by omega))
    simp only [if_true,h3,h4,vE0,vF0,wC0]
   ·simp only [if_true,h3,vF0,wC0,wA0,if_false]
theorem zgP {a b:Int}:zav a (b + 1)=(decide (0≤a)&&decide (a≤b)):=by
 unfold zav
 congr 1
 rw [Bool.eq_iff_iff,vG0,vG0]
 omega
theorem ze3 {p:Proto}(hs:zff p):zcl p=some (zds p):=by
 unfold zcl zds
 rw [zyh hs,zbh _ (by have:=hs.frames;omega)]
 cases hz:(zih p&&(List.range (Proto.Wait p).length).all (zA9 p))
 ·rfl
 rw [wD0] at hz
 have z:=of_decide_eq_true hz.1
 obtain ⟨z1,z2,z3,z4,z5,z6,z7,z8⟩:=z
 cases zcg (Proto.Pool p)
 ·rfl
 simp only [wC0,wH0,wA0,if_false,vC1]
 have e5:w64 ((List.length (Proto.Home p):Int) + 1)=(List.length (Proto.Home p):Int) + 1:=zaV (by omega) (by omega)
 have e3:w64 ((List.length (Proto.Wait p):Int) + 1)=(List.length (Proto.Wait p):Int) + 1:=zaV (by omega) (by omega)
 have l3:=fun g=>ze6 (f:=zc7 p (List.length (Proto.Home p):Int) (Proto.Wait p) (List.length (Proto.Wait p):Int)) (n:=(Proto.Wait p).length) (g:=g) (fun i=>(i:Int)) (zmi p) (fun i hi _=>by
  have hlt:(i:Int)<(List.length (Proto.Wait p):Int):=by omega
  have his:i<(Proto.State p).length:=by omega
  obtain ⟨row,hr⟩:∃ row,row=(Proto.State p)[i]:=⟨_,rfl⟩
  have hsa:zdE p i=row:=by unfold zdE;rw [wF0 his,hr];rfl
  have hrl:row.length≤1000:=by
   have:=zaQ.1 hz.2 i hi
   unfold zA9 at this
   rw [wD0,hsa] at this
   have:=of_decide_eq_true this.1
   omega
  have l2:=zki (f:=zda row (List.length row:Int)) (n:=row.length) (fun j=>zAV stB row[j]?) (fun j hj=>by
   have hlt:(j:Int)<(List.length row:Int):=by omega
   rw [zbm hj]
   have h5:zdN row[j]=!stB row[j]:=by
    unfold zdN stB
    rw [show (5:Int)=4 + 1 from rfl,zgP]
   unfold zda
   simp only [hlt,vE0,if_true,zac hj,wC0,h5,zas (show j<4611686018427387904 by omega)]
   cases stB row[j]<;>rfl) (by
   unfold zda
   simp only [show ¬ (List.length row:Int)<(List.length row:Int) by omega,vF0,wA0,if_false])
  rw [← zb8] at l2
  have hw:((!(zav (Wait.Line (Proto.Wait p)[i]) (w64 ((List.length (Proto.Home p):Int) + (1:Int)))))||((!(zav (Wait.Need (Proto.Wait p)[i]) (256:Int)))||(!(zav (Wait.Got (Proto.Wait p)[i]) (256:Int)))))=!zdC (Proto.Home p).length (Proto.Wait p)[i]:=by
   rw [e5,show (256:Int)=255 + 1 from rfl,zgP,zgP,zgP]
   unfold zdC
   cases (decide (0≤Wait.Line (Proto.Wait p)[i])&&decide (Wait.Line (Proto.Wait p)[i]≤((Proto.Home p).length:Int)))<;>cases (decide (0≤Wait.Need (Proto.Wait p)[i])&&decide (Wait.Need (Proto.Wait p)[i]≤255))<;>cases (decide (0≤Wait.Got (Proto.Wait p)[i])&&decide (Wait.Got (Proto.Wait p)[i]≤255))<;>rfl
  unfold zc7 zmi
  rw [zbm hi,hsa]
  simp only [hlt,vE0,if_true,zac hi,zac his,wC0,hw,← hr,zas (show i<4611686018427387904 by omega)]
  rw [l2]
  cases zdC (Proto.Home p).length (Proto.Wait p)[i]
  ·rfl
  ·simp only [wH0,wA0,if_false,wC0,vC1]
   cases row.all stB<;>rfl) (fun _=>by
  unfold zc7
  simp only [show ¬ (List.length (Proto.Wait p):Int)<(List.length (Proto.Wait p):Int) by omega,vF0,wA0,if_false])
 have l1:=ze6 (f:=zb9 p (List.length (Proto.Wait p):Int) (Proto.Dir p) (List.length (Proto.Dir p):Int)) (n:=(Proto.Home p).length) (g:=fun _=>some true) (fun i=>(i:Int)) (zpi p) (fun i hi _=>by
  have hlt:(i:Int)<(List.length (Proto.Dir p):Int):=by omega
  have hid:i<(Proto.Dir p).length:=by omega
  have hib:i<(Proto.Busy p).length:=by omega
  unfold zb9 zpi
  rw [zbm hid,zbm hib]
  simp only [hlt,vE0,if_true,zac hid,zac hib,zhG,wC0,e3,zgP,zas (show i<4611686018427387904 by omega)]
  cases zAP (Proto.Dir p)[i] (Proto.Wait p).length
  ·rfl
  ·simp only [wH0,wA0,if_false,wC0,vC1]
   cases (decide (0≤(Proto.Busy p)[i])&&decide ((Proto.Busy p)[i]≤((Proto.Wait p).length:Int)))<;>rfl) (fun _=>by
  unfold zb9
  have:¬ ((Proto.Home p).length:Int)<(List.length (Proto.Dir p):Int):=by omega
  simp only [this,vF0,wA0,if_false])
 rw [show (((0:Nat):Int))=0 from rfl] at l1
 have l3':=l3 (fun _:Unit=>zaO (zaf (zb9 p (List.length (Proto.Wait p):Int) (Proto.Dir p) (List.length (Proto.Dir p):Int)) (0:Int)) fun _:Unit=>some true)
 rw [show (((0:Nat):Int))=0 from rfl] at l3'
 rw [l3',l1]
 cases (List.range (Proto.Wait p).length).all (zmi p)
 ·rfl
 ·cases (List.range (Proto.Home p).length).all (zpi p)<;>rfl
theorem zlO {p:Proto}(hs:zff p):ze4 p=some (zds p):=by
 unfold ze4 zds
 rw [zeN _ (by have:=hs.frames;omega)]
 have hcond:(
  if decide ((List.length (Proto.Wait p):Int)<(1:Int)) then
   some (true)
  else
   if decide ((4:Int)<(List.length (Proto.Wait p):Int)) then
    some (true)
   else
    if decide ((List.length (Proto.Home p):Int)<(1:Int)) then
     some (true)
    else
     if decide ((16:Int)<(List.length (Proto.Home p):Int)) then
      some (true)
     else
      if !decide ((List.length (Proto.State p):Int)=(List.length (Proto.Wait p):Int)) then
       some (true)
      else
       if !decide ((List.length (Proto.Val p):Int)=(List.length (Proto.Wait p):Int)) then
        some (true)
       else
        if !decide ((List.length (Proto.Dir p):Int)=(List.length (Proto.Home p):Int)) then
         some (true)
        else
         if !decide ((List.length (Proto.Busy p):Int)=(List.length (Proto.Home p):Int)) then
          some (true)
         else
          (some (zcg (Proto.Pool p))).bind fun v22 =>
          some ((!v22)):Option Bool)=some (!(zih p&&zcg (Proto.Pool p))):=by
  have no:¬ (1≤(Proto.Wait p).length∧(Proto.Wait p).length≤4∧1≤(Proto.Home p).length∧(Proto.Home p).length≤16∧(Proto.State p).length=(Proto.Wait p).length∧(Proto.Val p).length=(Proto.Wait p).length∧(Proto.Dir p).length=(Proto.Home p).length∧(Proto.Busy p).length=(Proto.Home p).length)→zih p=false:=fun q=>vD0 q
  have yes:(1≤(Proto.Wait p).length∧(Proto.Wait p).length≤4∧1≤(Proto.Home p).length∧(Proto.Home p).length≤16∧(Proto.State p).length=(Proto.Wait p).length∧(Proto.Val p).length=(Proto.Wait p).length∧(Proto.Dir p).length=(Proto.Home p).length∧(Proto.Busy p).length=(Proto.Home p).length)→zih p=true:=fun q=>vC0 q
  by_cases c1:(List.length (Proto.Wait p):Int)<1
  ·rw [vC0 c1,no (by omega)];rfl
  rw [vD0 c1]
  by_cases c2:(4:Int)<(List.length (Proto.Wait p):Int)
  ·rw [vC0 c2,no (by omega)];rfl
  rw [vD0 c2]
  by_cases c3:(List.length (Proto.Home p):Int)<1
  ·rw [vC0 c3,no (by omega)];rfl
  rw [vD0 c3]
  by_cases c4:(16:Int)<(List.length (Proto.Home p):Int)
  ·rw [vC0 c4,no (by omega)];rfl
  rw [vD0 c4]
  by_cases c5:(List.length (Proto.State p):Int)=(List.length (Proto.Wait p):Int)
  ·rw [vC0 c5]
   by_cases c6:(List.length (Proto.Val p):Int)=(List.length (Proto.Wait p):Int)
   ·rw [vC0 c6]
    by_cases c7:(List.length (Proto.Dir p):Int)=(List.length (Proto.Home p):Int)
    ·rw [vC0 c7]
     by_cases c8:(List.length (Proto.Busy p):Int)=(List.length (Proto.Home p):Int)
     ·rw [vC0 c8,yes (by omega)];rfl
     ·rw [vD0 c8,no (by omega)];rfl
    ·rw [vD0 c7,no (by omega)];rfl
   ·rw [vD0 c6,no (by omega)];rfl
  ·rw [vD0 c5,no (by omega)];rfl
 simp only [wC0] at hcond ⊢
 rw [hcond]
 simp only [wC0]
 cases hz:zih p
 ·rfl
 have z:=of_decide_eq_true hz
 obtain ⟨z1,z2,z3,z4,z5,z6,z7,z8⟩:=z
 cases zcg (Proto.Pool p)
 ·simp
 simp only [Bool.and_self,wH0,wA0,if_false,vC1]
 have l3:=fun g=>ze6 (f:=zeK p (List.length (Proto.Wait p):Int) (List.length (Proto.Home p):Int)) (n:=(Proto.Wait p).length) (g:=g) (fun i=>(i:Int)) (fun i=>zA9 p i&&zmi p i) (fun i hi _=>by
  have hlt:(i:Int)<(List.length (Proto.Wait p):Int):=by omega
  have his:i<(Proto.State p).length:=by omega
  have hiv:i<(Proto.Val p).length:=by omega
  obtain ⟨row,hr⟩:∃ row,row=(Proto.State p)[i]:=⟨_,rfl⟩
  obtain ⟨vrow,hvr⟩:∃ row,row=(Proto.Val p)[i]:=⟨_,rfl⟩
  have hsa:zdE p i=row:=by unfold zdE;rw [wF0 his,hr];rfl
  have hva:zus p i=vrow:=by unfold zus;rw [wF0 hiv,hvr];rfl
  have hgs:zAF (Proto.State p) (i:Int)=some row:=by rw [zac his,hr]
  have hgv:zAF (Proto.Val p) (i:Int)=some vrow:=by rw [zac hiv,hvr]
  unfold zeK zmi zA9
  rw [zbm hi,hsa,hva]
  simp only [hlt,vE0,if_true,zac hi,hgs,hgv,wC0,zas (show i<4611686018427387904 by omega)]
  by_cases c1:row.length=(Proto.Home p).length
  ·have c1':(row.length:Int)=((Proto.Home p).length:Int):=by omega
   by_cases c2:vrow.length=(Proto.Home p).length
   ·have c2':(vrow.length:Int)=((Proto.Home p).length:Int):=by omega
    have hcond:(
     if decide ((Wait.Line (Proto.Wait p)[i])<(0:Int)) then
      some (true)
     else
      if decide ((List.length (Proto.Home p):Int)<(Wait.Line (Proto.Wait p)[i])) then
       some (true)
      else
       if decide ((Wait.Need (Proto.Wait p)[i])<(0:Int)) then
        some (true)
       else
        if decide ((255:Int)<(Wait.Need (Proto.Wait p)[i])) then
         some (true)
        else
         if decide ((Wait.Got (Proto.Wait p)[i])<(0:Int)) then
          some (true)
         else
          some ((decide ((255:Int)<(Wait.Got (Proto.Wait p)[i])))):Option Bool)=some (!zdC (Proto.Home p).length (Proto.Wait p)[i]):=by
     unfold zdC
     by_cases d1:Wait.Line (Proto.Wait p)[i]<0
     ·rw [vC0 d1,vD0 (show ¬ 0≤Wait.Line (Proto.Wait p)[i] by omega)];rfl
     rw [vD0 d1,vC0 (show 0≤Wait.Line (Proto.Wait p)[i] by omega)]
     by_cases d2:((Proto.Home p).length:Int)<Wait.Line (Proto.Wait p)[i]
     ·rw [vC0 d2,vD0 (show ¬ Wait.Line (Proto.Wait p)[i]≤((Proto.Home p).length:Int) by omega)];rfl
     rw [vD0 d2,vC0 (show Wait.Line (Proto.Wait p)[i]≤((Proto.Home p).length:Int) by omega)]
     by_cases d3:Wait.Need (Proto.Wait p)[i]<0
     ·rw [vC0 d3,vD0 (show ¬ 0≤Wait.Need (Proto.Wait p)[i] by omega)];rfl
     rw [vD0 d3,vC0 (show 0≤Wait.Need (Proto.Wait p)[i] by omega)]
     by_cases d4:255<Wait.Need (Proto.Wait p)[i]
     ·rw [vC0 d4,vD0 (show ¬ Wait.Need (Proto.Wait p)[i]≤255 by omega)];rfl
     rw [vD0 d4,vC0 (show Wait.Need (Proto.Wait p)[i]≤255 by omega)]
     by_cases d5:Wait.Got (Proto.Wait p)[i]<0
     ·rw [vC0 d5,vD0 (show ¬ 0≤Wait.Got (Proto.Wait p)[i] by omega)];rfl
     rw [vD0 d5,vC0 (show 0≤Wait.Got (Proto.Wait p)[i] by omega)]
     by_cases d6:255<Wait.Got (Proto.Wait p)[i]
     ·rw [vC0 d6,vD0 (show ¬ Wait.Got (Proto.Wait p)[i]≤255 by omega)];rfl
     ·rw [vD0 d6,vC0 (show Wait.Got (Proto.Wait p)[i]≤255 by omega)];rfl
    have l2:=zpG (f:=zeH p (List.length (Proto.Home p):Int) (i:Int)) (n:=row.length) (e:=(Sum.inl ():Unit⊕Int⊕Unit⊕Bool)) (r:=.inr (.inr (.inr false))) (fun j=>(j:Int)) (fun j=>zAV stB row[j]?) (fun j hj _=>by
     have hlt:(j:Int)<(List.length (Proto.Home p):Int):=by omega
     rw [zbm hj]
     unfold zeH stB
     simp only [hlt,vE0,if_true,hgs,zac hj,wC0,zas (show j<4611686018427387904 by omega)]
     by_cases s1:row[j]<0
     ·rw [vC0 s1,vD0 (show ¬ 0≤row[j] by omega)];rfl
     rw [vD0 s1,vC0 (show 0≤row[j] by omega)]
     by_cases s2:4<row[j]
     ·rw [vC0 s2,vD0 (show ¬ row[j]≤4 by omega)];rfl
     ·rw [vD0 s2,vC0 (show row[j]≤4 by omega)];rfl) (fun _=>by
     unfold zeH
     have:¬ (row.length:Int)<(List.length (Proto.Home p):Int):=by omega
     simp only [this,vF0,wA0,if_false])
    rw [show (((0:Nat):Int))=0 from rfl,← zb8] at l2
    simp only [c1,c2,c1',c2',vE0,wH0,wA0,if_false,hcond,wC0,l2,vC1]
    cases zdC (Proto.Home p).length (Proto.Wait p)[i]
    ·rfl
    ·cases row.all stB<;>rfl
   ·have c2':¬ (vrow.length:Int)=((Proto.Home p).length:Int):=by omega
    simp only [c1,c2,c1',c2',vE0,vF0,wH0,vH0,wA0,if_false,if_true,wC0,Bool.and_false,vD1]
  ·have c1':¬ (row.length:Int)=((Proto.Home p).length:Int):=by omega
   simp only [c1,c1',vF0,vH0,if_true,wC0,vD1,wA0,if_false]) (fun _=>by
  unfold zeK
  simp only [show ¬ (List.length (Proto.Wait p):Int)<(List.length (Proto.Wait p):Int) by omega,vF0,wA0,if_false])
 have l1:=ze6 (f:=zdm p (List.length (Proto.Wait p):Int) (List.length (Proto.Home p):Int)) (n:=(Proto.Home p).length) (g:=fun _=>some true) (fun i=>(i:Int)) (zpi p) (fun i hi _=>by
  have hlt:(i:Int)<(List.length (Proto.Home p):Int):=by omega
  have hid:i<(Proto.Dir p).length:=by omega
  have hib:i<(Proto.Busy p).length:=by omega
  unfold zdm zpi
  rw [zbm hid,zbm hib]
  simp only [hlt,vE0,if_true,zac hid,zac hib,zpC,wC0,zas (show i<4611686018427387904 by omega)]
  cases zAP (Proto.Dir p)[i] (Proto.Wait p).length
  ·rfl
  ·simp only [wH0,wA0,if_false,wC0,vC1]
   by_cases s1:(Proto.Busy p)[i]<0
   ·rw [vC0 s1,vD0 (show ¬ 0≤(Proto.Busy p)[i] by omega)];rfl
   rw [vD0 s1,vC0 (show 0≤(Proto.Busy p)[i] by omega)]
   by_cases s2:((Proto.Wait p).length:Int)<(Proto.Busy p)[i]
   ·rw [vC0 s2,vD0 (show ¬ (Proto.Busy p)[i]≤((Proto.Wait p).length:Int) by omega)];rfl
   ·rw [vD0 s2,vC0 (show (Proto.Busy p)[i]≤((Proto.Wait p).length:Int) by omega)];rfl) (fun _=>by
  unfold zdm
  simp only [show ¬ (List.length (Proto.Home p):Int)<(List.length (Proto.Home p):Int) by omega,vF0,wA0,if_false])
 rw [show (((0:Nat):Int))=0 from rfl] at l1
 have l3':=l3 (fun _:Unit=>zaO (zaf (zdm p (List.length (Proto.Wait p):Int) (List.length (Proto.Home p):Int)) (0:Int)) fun _:Unit=>some true)
 rw [show (((0:Nat):Int))=0 from rfl] at l3'
 rw [l3',l1]
 have hand:((List.range (Proto.Wait p).length).all fun i=>zA9 p i&&zmi p i)=((List.range (Proto.Wait p).length).all (zA9 p)&&(List.range (Proto.Wait p).length).all (zmi p)):=by
  rw [Bool.eq_iff_iff,wD0,zaQ,zaQ,zaQ]
  constructor
  ·intro q
   exact ⟨fun i hi=>(wD0 _ _▸q i hi).1,fun i hi=>(wD0 _ _▸q i hi).2⟩
  ·rintro ⟨q1,q2⟩ i hi
   rw [q1 i hi,q2 i hi]
   rfl
 rw [hand]
 cases (List.range (Proto.Wait p).length).all (zA9 p)
 ·rfl
 ·cases (List.range (Proto.Wait p).length).all (zmi p)
  ·rfl
  ·cases (List.range (Proto.Home p).length).all (zpi p)<;>rfl
end Go.Proofs.YtdfohlonacbelaaGreat
