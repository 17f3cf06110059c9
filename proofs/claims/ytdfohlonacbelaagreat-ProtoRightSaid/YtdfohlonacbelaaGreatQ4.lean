/- Systems. -/
import Derived.Test.YtdfohlonacbelaaGreatQ3
set_option linter.unusedSimpArgs false
set_option linter.unusedVariables false
namespace Go.Proofs.YtdfohlonacbelaaGreat
open Go.SX
def zmg (l:List (List Int)) (n m:Nat):Bool:=decide (l.length=n)&&l.all fun r=>decide (r.length=m)
theorem zxE (l:List (List Int)) (n m:Nat) (hl:l.length≤1000):zdb l (n:Int) (m:Int)=some (zmg l n m):=by
 unfold zdb zmg
 by_cases hn:l.length=n
 ·have hn':(l.length:Int)=(n:Int):=by omega
  have lp:=zls (f:=zbq l (m:Int) (List.length l:Int)) (n:=l.length) (fun i=>(i:Int)) (fun i=>optT (fun r=>decide (r.length=m)) l[i]?) (e:=(Sum.inl ():Unit⊕Int)) (r:=fun i=>.inr (i:Int)) (fun i hi _=>by
   have hlt:(i:Int)<(List.length l:Int):=by omega
   rw [zbd hi]
   unfold zbq
   simp only [hlt,decide_true,if_true,zab hi,wC0,zat (show i<4611686018427387904 by omega)]
   by_cases h:l[i].length=m
   ·have h':(l[i].length:Int)=(m:Int):=by omega
    simp only [h,h',decide_true,wH0,wA0,if_false,if_true]
   ·have h':¬ (l[i].length:Int)=(m:Int):=by omega
    simp only [h,h',decide_false,Bool.not_false,wA0,if_false,if_true]) (fun _=>by
   unfold zbq
   simp only [show ¬ (List.length l:Int)<(List.length l:Int) by omega,decide_false,wA0,if_false])
  rw [show (((0:Nat):Int))=0 from rfl] at lp
  have f1:=(zcD (fun i=>optT (fun r:List Int=>decide (r.length=m)) l[i]?) l.length).1
  have f2:=zhS (ok:=fun i=>optT (fun r:List Int=>decide (r.length=m)) l[i]?) (n:=l.length)
  rw [← za5,← zbH] at f2
  rw [decide_eq_true hn',if_pos rfl,decide_eq_true hn,Bool.true_and]
  simp only [lp]
  by_cases ha:(l.all fun r=>decide (r.length=m))=true
  ·have:=f2.2 ha
   rw [if_neg (by omega),ha]
   rfl
  ·have:zbG (fun i=>optT (fun r:List Int=>decide (r.length=m)) l[i]?) l.length<l.length:=by
    rcases Nat.lt_or_ge (zbG (fun i=>optT (fun r:List Int=>decide (r.length=m)) l[i]?) l.length) l.length with q|q
    ·exact q
    ·exact absurd (f2.1 (by omega)) ha
   rw [if_pos this,Bool.eq_false_iff.2 ha]
   have h0:(0:Int)≤((zbG (fun i=>optT (fun r:List Int=>decide (r.length=m)) l[i]?) l.length:Nat):Int):=by omega
   simp only [za0,wC0,h0,decide_true,wH0]
 ·have hn':¬ (l.length:Int)=(n:Int):=by omega
  rw [decide_eq_false hn',if_neg (by simp),decide_eq_false hn]
  rfl
theorem zyn (l:List (List Int)) (n m:Nat) (hl:l.length≤1000):zc0 l (n:Int) (m:Int)=some (zmg l n m):=zxE l n m hl
theorem znB {l:List (List Int)}{n m:Nat}(h:zmg l n m=true):l.length=n∧∀ r∈l,r.length=m:=by
 unfold zmg at h
 rw [wD0,decide_eq_true_eq,List.all_eq_true] at h
 exact ⟨h.1,fun r hr=>of_decide_eq_true (h.2 r hr)⟩
structure Formed (p:Proto):Prop where
 wl:(Proto.Wait p).length≤4
 hl:(Proto.Home p).length≤16
 state:(Proto.State p).length=(Proto.Wait p).length∧∀ r∈Proto.State p,r.length=(Proto.Home p).length
 val:(Proto.Val p).length=(Proto.Wait p).length∧∀ r∈Proto.Val p,r.length=(Proto.Home p).length
 dir:(Proto.Dir p).length=(Proto.Home p).length
 busy:(Proto.Busy p).length=(Proto.Home p).length
structure zdW (p:Proto):Prop where
 state:(Proto.State p).length≤6
 val:(Proto.Val p).length≤6
 wait:(Proto.Wait p).length≤6
 home:(Proto.Home p).length≤20
 frames:(Pool.Frames (Proto.Pool p)).length≤80
def zq2 (h:Nat) (w:Wait):Bool:=(decide (0≤Wait.Line w)&&decide (Wait.Line w≤(h:Int)))&&((decide (0≤Wait.Need w)&&decide (Wait.Need w≤255))&&(decide (0≤Wait.Got w)&&decide (Wait.Got w≤255)))
def stB (s:Int):Bool:=decide (0≤s)&&decide (s≤4)
def zeX (p:Proto) (n:Nat):List Int:=(Proto.State p)[n]?.getD []
def zwb (p:Proto) (n:Nat):List Int:=(Proto.Val p)[n]?.getD []
def zmN (p:Proto) (n:Nat):Bool:=optT (zq2 (Proto.Home p).length) (Proto.Wait p)[n]?&&(zeX p n).all stB
def zra (p:Proto) (l:Nat):Bool:=optT (fun e=>mayB e (Proto.Wait p).length) (Proto.Dir p)[l]?&&optT (fun b=>decide (0≤b)&&decide (b≤((Proto.Wait p).length:Int))) (Proto.Busy p)[l]?
def zia (p:Proto):Bool:=decide (1≤(Proto.Wait p).length∧(Proto.Wait p).length≤4∧1≤(Proto.Home p).length∧(Proto.Home p).length≤16∧(Proto.State p).length=(Proto.Wait p).length∧(Proto.Val p).length=(Proto.Wait p).length∧(Proto.Dir p).length=(Proto.Home p).length∧(Proto.Busy p).length=(Proto.Home p).length)
def rowB (p:Proto) (n:Nat):Bool:=decide ((zeX p n).length=(Proto.Home p).length)&&decide ((zwb p n).length=(Proto.Home p).length)
def zeb (p:Proto):Bool:=(zia p&&(List.range (Proto.Wait p).length).all (rowB p))&&(zdD (Proto.Pool p)&&((List.range (Proto.Wait p).length).all (zmN p)&&(List.range (Proto.Home p).length).all (zra p)))
theorem zwu {p:Proto}(hs:zdW p):zeQ p=some (zia p&&(List.range (Proto.Wait p).length).all (rowB p)):=by
 have e1:=zxE (Proto.State p) (Proto.Wait p).length (Proto.Home p).length (by have:=hs.state;omega)
 have e2:=zyn (Proto.Val p) (Proto.Wait p).length (Proto.Home p).length (by have:=hs.val;omega)
 unfold zeQ
 simp only [e1,e2,wC0]
 by_cases hz:zia p=true
 ·rw [hz,Bool.true_and]
  unfold zia at hz
  have z:=of_decide_eq_true hz
  obtain ⟨z1,z2,z3,z4,z5,z6,z7,z8⟩:=z
  have hc:((decide ((List.length (Proto.Wait p):Int)<(1:Int)))||((decide ((4:Int)<(List.length (Proto.Wait p):Int)))||((decide ((List.length (Proto.Home p):Int)<(1:Int)))||(decide ((16:Int)<(List.length (Proto.Home p):Int))))))=false:=by
   rw [Bool.eq_false_iff]
   simp only [ne_eq,Bool.or_eq_true,decide_eq_true_eq]
   omega
  have h3:(List.length (Proto.Dir p):Int)=(List.length (Proto.Home p):Int):=by omega
  have h4:(List.length (Proto.Busy p):Int)=(List.length (Proto.Home p):Int):=by omega
  have hr:(List.range (Proto.Wait p).length).all (rowB p)=(zmg (Proto.State p) (Proto.Wait p).length (Proto.Home p).length&&zmg (Proto.Val p) (Proto.Wait p).length (Proto.Home p).length):=by
   unfold zmg
   rw [decide_eq_true z5,decide_eq_true z6,Bool.true_and,Bool.true_and,zbH (l:=Proto.State p),zbH (l:=Proto.Val p),z5,z6,Bool.eq_iff_iff,wD0,za5,za5,za5]
   constructor
   ·intro q
    constructor
    ·intro i hi
     have:=q i hi
     unfold rowB zeX at this
     rw [wD0] at this
     have t:=this.1
     have hil:i<(Proto.State p).length:=by omega
     rw [wF0 hil] at t ⊢
     exact t
    ·intro i hi
     have:=q i hi
     unfold rowB zwb at this
     rw [wD0] at this
     have t:=this.2
     have hil:i<(Proto.Val p).length:=by omega
     rw [wF0 hil] at t ⊢
     exact t
   ·rintro ⟨q1,q2⟩ i hi
    have t1:=q1 i hi
    have t2:=q2 i hi
    have hil:i<(Proto.State p).length:=by omega
    have hil2:i<(Proto.Val p).length:=by omega
    unfold rowB zeX zwb
    rw [wF0 hil] at t1 ⊢
    rw [wF0 hil2] at t2 ⊢
    rw [wD0]
    exact ⟨t1,t2⟩
  rw [hc,hr]
  simp only [wA0,if_false,h3,h4,decide_true]
  cases zmg (Proto.State p) (Proto.Wait p).length (Proto.Home p).length
  ·rfl
  ·cases zmg (Proto.Val p) (Proto.Wait p).length (Proto.Home p).length<;>rfl
 ·rw [Bool.eq_false_iff.2 hz,Bool.false_and]
  by_cases hc:((decide ((List.length (Proto.Wait p):Int)<(1:Int)))||((decide ((4:Int)<(List.length (Proto.Wait p):Int)))||((decide ((List.length (Proto.Home p):Int)<(1:Int)))||(decide ((16:Int)<(List.length (Proto.Home p):Int))))))=true
  ·rw [if_pos hc]
  ·rw [if_neg hc]
   simp only [Bool.or_eq_true,decide_eq_true_eq] at hc
   cases h1:zmg (Proto.State p) (Proto.Wait p).length (Proto.Home p).length
   ·rfl
   cases h2:zmg (Proto.Val p) (Proto.Wait p).length (Proto.Home p).length
   ·rfl
   have f1:=(znB h1).1
   have f2:=(znB h2).1
   by_cases h3:(List.length (Proto.Dir p):Int)=(List.length (Proto.Home p):Int)
   ·have h4:¬ (List.length (Proto.Busy p):Int)=(List.length (Proto.Home p):Int):=fun h4=>hz (by
     unfold zia
     exact decide_eq_true (by omega))
    simp only [if_true,h3,h4,decide_true,decide_false,wC0]
   ·simp only [if_true,h3,decide_false,wC0,wA0,if_false]
theorem zgP {a b:Int}:zau a (b + 1)=(decide (0≤a)&&decide (a≤b)):=by
 unfold zau
 congr 1
 rw [Bool.eq_iff_iff,decide_eq_true_eq,decide_eq_true_eq]
 omega
theorem ze5 {p:Proto}(hs:zdW p):zcs p=some (zeb p):=by
 unfold zcs zeb
 rw [zwu hs,zbZ _ (by have:=hs.frames;omega)]
 cases hz:(zia p&&(List.range (Proto.Wait p).length).all (rowB p))
 ·rfl
 rw [wD0] at hz
 have z:=of_decide_eq_true hz.1
 obtain ⟨z1,z2,z3,z4,z5,z6,z7,z8⟩:=z
 cases zdD (Proto.Pool p)
 ·rfl
 simp only [wC0,wH0,wA0,if_false,Bool.true_and]
 have e5:w64 ((List.length (Proto.Home p):Int) + 1)=(List.length (Proto.Home p):Int) + 1:=zbc (by omega) (by omega)
 have e3:w64 ((List.length (Proto.Wait p):Int) + 1)=(List.length (Proto.Wait p):Int) + 1:=zbc (by omega) (by omega)
 have l3:=fun g=>zdf (f:=zc6 p (List.length (Proto.Home p):Int) (Proto.Wait p) (List.length (Proto.Wait p):Int)) (n:=(Proto.Wait p).length) (g:=g) (fun i=>(i:Int)) (zmN p) (fun i hi _=>by
  have hlt:(i:Int)<(List.length (Proto.Wait p):Int):=by omega
  have his:i<(Proto.State p).length:=by omega
  obtain ⟨row,hr⟩:∃ row,row=(Proto.State p)[i]:=⟨_,rfl⟩
  have hsa:zeX p i=row:=by unfold zeX;rw [wF0 his,hr];rfl
  have hrl:row.length≤1000:=by
   have:=za5.1 hz.2 i hi
   unfold rowB at this
   rw [wD0,hsa] at this
   have:=of_decide_eq_true this.1
   omega
  have l2:=zjQ (f:=zc9 row (List.length row:Int)) (n:=row.length) (fun j=>optT stB row[j]?) (fun j hj=>by
   have hlt:(j:Int)<(List.length row:Int):=by omega
   rw [zbd hj]
   have h5:zdO row[j]=!stB row[j]:=by
    unfold zdO stB
    rw [show (5:Int)=4 + 1 from rfl,zgP]
   unfold zc9
   simp only [hlt,decide_true,if_true,zab hj,wC0,h5,zat (show j<4611686018427387904 by omega)]
   cases stB row[j]<;>rfl) (by
   unfold zc9
   simp only [show ¬ (List.length row:Int)<(List.length row:Int) by omega,decide_false,wA0,if_false])
  rw [← zbH] at l2
  have hw:((!(zau (Wait.Line (Proto.Wait p)[i]) (w64 ((List.length (Proto.Home p):Int) + (1:Int)))))||((!(zau (Wait.Need (Proto.Wait p)[i]) (256:Int)))||(!(zau (Wait.Got (Proto.Wait p)[i]) (256:Int)))))=!zq2 (Proto.Home p).length (Proto.Wait p)[i]:=by
   rw [e5,show (256:Int)=255 + 1 from rfl,zgP,zgP,zgP]
   unfold zq2
   cases (decide (0≤Wait.Line (Proto.Wait p)[i])&&decide (Wait.Line (Proto.Wait p)[i]≤((Proto.Home p).length:Int)))<;>cases (decide (0≤Wait.Need (Proto.Wait p)[i])&&decide (Wait.Need (Proto.Wait p)[i]≤255))<;>cases (decide (0≤Wait.Got (Proto.Wait p)[i])&&decide (Wait.Got (Proto.Wait p)[i]≤255))<;>rfl
  unfold zc6 zmN
  rw [zbd hi,hsa]
  simp only [hlt,decide_true,if_true,zab hi,zab his,wC0,hw,← hr,zat (show i<4611686018427387904 by omega)]
  rw [l2]
  cases zq2 (Proto.Home p).length (Proto.Wait p)[i]
  ·rfl
  ·simp only [wH0,wA0,if_false,wC0,Bool.true_and]
   cases row.all stB<;>rfl) (fun _=>by
  unfold zc6
  simp only [show ¬ (List.length (Proto.Wait p):Int)<(List.length (Proto.Wait p):Int) by omega,decide_false,wA0,if_false])
 have l1:=zdf (f:=zch p (List.length (Proto.Wait p):Int) (Proto.Dir p) (List.length (Proto.Dir p):Int)) (n:=(Proto.Home p).length) (g:=fun _=>some true) (fun i=>(i:Int)) (zra p) (fun i hi _=>by
  have hlt:(i:Int)<(List.length (Proto.Dir p):Int):=by omega
  have hid:i<(Proto.Dir p).length:=by omega
  have hib:i<(Proto.Busy p).length:=by omega
  unfold zch zra
  rw [zbd hid,zbd hib]
  simp only [hlt,decide_true,if_true,zab hid,zab hib,zg5,wC0,e3,zgP,zat (show i<4611686018427387904 by omega)]
  cases mayB (Proto.Dir p)[i] (Proto.Wait p).length
  ·rfl
  ·simp only [wH0,wA0,if_false,wC0,Bool.true_and]
   cases (decide (0≤(Proto.Busy p)[i])&&decide ((Proto.Busy p)[i]≤((Proto.Wait p).length:Int)))<;>rfl) (fun _=>by
  unfold zch
  have:¬ ((Proto.Home p).length:Int)<(List.length (Proto.Dir p):Int):=by omega
  simp only [this,decide_false,wA0,if_false])
 rw [show (((0:Nat):Int))=0 from rfl] at l1
 have l3':=l3 (fun _:Unit=>zaG (zai (zch p (List.length (Proto.Wait p):Int) (Proto.Dir p) (List.length (Proto.Dir p):Int)) (0:Int)) fun _:Unit=>some true)
 rw [show (((0:Nat):Int))=0 from rfl] at l3'
 rw [l3',l1]
 cases (List.range (Proto.Wait p).length).all (zmN p)
 ·rfl
 ·cases (List.range (Proto.Home p).length).all (zra p)<;>rfl
theorem zhm {p:Proto}(hs:zdW p):zek p=some (zeb p):=by
 unfold zek zeb
 rw [zeU _ (by have:=hs.frames;omega)]
 have hcond:(
  if decide ((List.length (Proto.Wait p):Int)<(1:Int)) then
   some (true)
  else
   if decide ((4:Int)<(List.length (Proto.Wait p):Int)) then
    some (true)
   else
    if decide ((List.length (Proto.Home p):Int)<(1:Int)) then
     some (true)
    else
     if decide ((16:Int)<(List.length (Proto.Home p):Int)) then
      some (true)
     else
      if !decide ((List.length (Proto.State p):Int)=(List.length (Proto.Wait p):Int)) then
       some (true)
      else
       if !decide ((List.length (Proto.Val p):Int)=(List.length (Proto.Wait p):Int)) then
        some (true)
       else
        if !decide ((List.length (Proto.Dir p):Int)=(List.length (Proto.Home p):Int)) then
         some (true)
        else
         if !decide ((List.length (Proto.Busy p):Int)=(List.length (Proto.Home p):Int)) then
          some (true)
         else
          (some (zdD (Proto.Pool p))).bind fun v22 =>
          some ((!v22)):Option Bool)=some (!(zia p&&zdD (Proto.Pool p))):=by
  have no:¬ (1≤(Proto.Wait p).length∧(Proto.Wait p).length≤4∧1≤(Proto.Home p).length∧(Proto.Home p).length≤16∧(Proto.State p).length=(Proto.Wait p).length∧(Proto.Val p).length=(Proto.Wait p).length∧(Proto.Dir p).length=(Proto.Home p).length∧(Proto.Busy p).length=(Proto.Home p).length)→zia p=false:=fun q=>decide_eq_false q
  have yes:(1≤(Proto.Wait p).length∧(Proto.Wait p).length≤4∧1≤(Proto.Home p).length∧(Proto.Home p).length≤16∧(Proto.State p).length=(Proto.Wait p).length∧(Proto.Val p).length=(Proto.Wait p).length∧(Proto.Dir p).length=(Proto.Home p).length∧(Proto.Busy p).length=(Proto.Home p).length)→zia p=true:=fun q=>decide_eq_true q
  by_cases c1:(List.length (Proto.Wait p):Int)<1
  ·rw [decide_eq_true c1,no (by omega)];rfl
  rw [decide_eq_false c1]
  by_cases c2:(4:Int)<(List.length (Proto.Wait p):Int)
  ·rw [decide_eq_true c2,no (by omega)];rfl
  rw [decide_eq_false c2]
  by_cases c3:(List.length (Proto.Home p):Int)<1
  ·rw [decide_eq_true c3,no (by omega)];rfl
  rw [decide_eq_false c3]
  by_cases c4:(16:Int)<(List.length (Proto.Home p):Int)
  ·rw [decide_eq_true c4,no (by omega)];rfl
  rw [decide_eq_false c4]
  by_cases c5:(List.length (Proto.State p):Int)=(List.length (Proto.Wait p):Int)
  ·rw [decide_eq_true c5]
   by_cases c6:(List.length (Proto.Val p):Int)=(List.length (Proto.Wait p):Int)
   ·rw [decide_eq_true c6]
    by_cases c7:(List.length (Proto.Dir p):Int)=(List.length (Proto.Home p):Int)
    ·rw [decide_eq_true c7]
     by_cases c8:(List.length (Proto.Busy p):Int)=(List.length (Proto.Home p):Int)
     ·rw [decide_eq_true c8,yes (by omega)];rfl
     ·rw [decide_eq_false c8,no (by omega)];rfl
    ·rw [decide_eq_false c7,no (by omega)];rfl
   ·rw [decide_eq_false c6,no (by omega)];rfl
  ·rw [decide_eq_false c5,no (by omega)];rfl
 simp only [wC0] at hcond ⊢
 rw [hcond]
 simp only [wC0]
 cases hz:zia p
 ·rfl
 have z:=of_decide_eq_true hz
 obtain ⟨z1,z2,z3,z4,z5,z6,z7,z8⟩:=z
 cases zdD (Proto.Pool p)
 ·simp
 simp only [Bool.and_self,wH0,wA0,if_false,Bool.true_and]
 have l3:=fun g=>zdf (f:=zeC p (List.length (Proto.Wait p):Int) (List.length (Proto.Home p):Int)) (n:=(Proto.Wait p).length) (g:=g) (fun i=>(i:Int)) (fun i=>rowB p i&&zmN p i) (fun i hi _=>by
  have hlt:(i:Int)<(List.length (Proto.Wait p):Int):=by omega
  have his:i<(Proto.State p).length:=by omega
  have hiv:i<(Proto.Val p).length:=by omega
  obtain ⟨row,hr⟩:∃ row,row=(Proto.State p)[i]:=⟨_,rfl⟩
  obtain ⟨vrow,hvr⟩:∃ row,row=(Proto.Val p)[i]:=⟨_,rfl⟩
  have hsa:zeX p i=row:=by unfold zeX;rw [wF0 his,hr];rfl
  have hva:zwb p i=vrow:=by unfold zwb;rw [wF0 hiv,hvr];rfl
  have hgs:getO (Proto.State p) (i:Int)=some row:=by rw [zab his,hr]
  have hgv:getO (Proto.Val p) (i:Int)=some vrow:=by rw [zab hiv,hvr]
  unfold zeC zmN rowB
  rw [zbd hi,hsa,hva]
  simp only [hlt,decide_true,if_true,zab hi,hgs,hgv,wC0,zat (show i<4611686018427387904 by omega)]
  by_cases c1:row.length=(Proto.Home p).length
  ·have c1':(row.length:Int)=((Proto.Home p).length:Int):=by omega
   by_cases c2:vrow.length=(Proto.Home p).length
   ·have c2':(vrow.length:Int)=((Proto.Home p).length:Int):=by omega
    have hcond:(
     if decide ((Wait.Line (Proto.Wait p)[i])<(0:Int)) then
      some (true)
     else
      if decide ((List.length (Proto.Home p):Int)<(Wait.Line (Proto.Wait p)[i])) then
       some (true)
      else
       if decide ((Wait.Need (Proto.Wait p)[i])<(0:Int)) then
        some (true)
       else
        if decide ((255:Int)<(Wait.Need (Proto.Wait p)[i])) then
         some (true)
        else
         if decide ((Wait.Got (Proto.Wait p)[i])<(0:Int)) then
          some (true)
         else
          some ((decide ((255:Int)<(Wait.Got (Proto.Wait p)[i])))):Option Bool)=some (!zq2 (Proto.Home p).length (Proto.Wait p)[i]):=by
     unfold zq2
     by_cases d1:Wait.Line (Proto.Wait p)[i]<0
     ·rw [decide_eq_true d1,decide_eq_false (show ¬ 0≤Wait.Line (Proto.Wait p)[i] by omega)];rfl
     rw [decide_eq_false d1,decide_eq_true (show 0≤Wait.Line (Proto.Wait p)[i] by omega)]
     by_cases d2:((Proto.Home p).length:Int)<Wait.Line (Proto.Wait p)[i]
     ·rw [decide_eq_true d2,decide_eq_false (show ¬ Wait.Line (Proto.Wait p)[i]≤((Proto.Home p).length:Int) by omega)];rfl
     rw [decide_eq_false d2,decide_eq_true (show Wait.Line (Proto.Wait p)[i]≤((Proto.Home p).length:Int) by omega)]
     by_cases d3:Wait.Need (Proto.Wait p)[i]<0
     ·rw [decide_eq_true d3,decide_eq_false (show ¬ 0≤Wait.Need (Proto.Wait p)[i] by omega)];rfl
     rw [decide_eq_false d3,decide_eq_true (show 0≤Wait.Need (Proto.Wait p)[i] by omega)]
     by_cases d4:255<Wait.Need (Proto.Wait p)[i]
     ·rw [decide_eq_true d4,decide_eq_false (show ¬ Wait.Need (Proto.Wait p)[i]≤255 by omega)];rfl
     rw [decide_eq_false d4,decide_eq_true (show Wait.Need (Proto.Wait p)[i]≤255 by omega)]
     by_cases d5:Wait.Got (Proto.Wait p)[i]<0
     ·rw [decide_eq_true d5,decide_eq_false (show ¬ 0≤Wait.Got (Proto.Wait p)[i] by omega)];rfl
     rw [decide_eq_false d5,decide_eq_true (show 0≤Wait.Got (Proto.Wait p)[i] by omega)]
     by_cases d6:255<Wait.Got (Proto.Wait p)[i]
     ·rw [decide_eq_true d6,decide_eq_false (show ¬ Wait.Got (Proto.Wait p)[i]≤255 by omega)];rfl
     ·rw [decide_eq_false d6,decide_eq_true (show Wait.Got (Proto.Wait p)[i]≤255 by omega)];rfl
    have l2:=zpI (f:=zeH p (List.length (Proto.Home p):Int) (i:Int)) (n:=row.length) (e:=(Sum.inl ():Unit⊕Int⊕Unit⊕Bool)) (r:=.inr (.inr (.inr false))) (fun j=>(j:Int)) (fun j=>optT stB row[j]?) (fun j hj _=>by
     have hlt:(j:Int)<(List.length (Proto.Home p):Int):=by omega
     rw [zbd hj]
     unfold zeH stB
     simp only [hlt,decide_true,if_true,hgs,zab hj,wC0,zat (show j<4611686018427387904 by omega)]
     by_cases s1:row[j]<0
     ·rw [decide_eq_true s1,decide_eq_false (show ¬ 0≤row[j] by omega)];rfl
     rw [decide_eq_false s1,decide_eq_true (show 0≤row[j] by omega)]
     by_cases s2:4<row[j]
     ·rw [decide_eq_true s2,decide_eq_false (show ¬ row[j]≤4 by omega)];rfl
     ·rw [decide_eq_false s2,decide_eq_true (show row[j]≤4 by omega)];rfl) (fun _=>by
     unfold zeH
     have:¬ (row.length:Int)<(List.length (Proto.Home p):Int):=by omega
     simp only [this,decide_false,wA0,if_false])
    rw [show (((0:Nat):Int))=0 from rfl,← zbH] at l2
    simp only [c1,c2,c1',c2',decide_true,wH0,wA0,if_false,hcond,wC0,l2,Bool.true_and]
    cases zq2 (Proto.Home p).length (Proto.Wait p)[i]
    ·rfl
    ·cases row.all stB<;>rfl
   ·have c2':¬ (vrow.length:Int)=((Proto.Home p).length:Int):=by omega
    simp only [c1,c2,c1',c2',decide_true,decide_false,wH0,Bool.not_false,wA0,if_false,if_true,wC0,Bool.and_false,Bool.false_and]
  ·have c1':¬ (row.length:Int)=((Proto.Home p).length:Int):=by omega
   simp only [c1,c1',decide_false,Bool.not_false,if_true,wC0,Bool.false_and,wA0,if_false]) (fun _=>by
  unfold zeC
  simp only [show ¬ (List.length (Proto.Wait p):Int)<(List.length (Proto.Wait p):Int) by omega,decide_false,wA0,if_false])
 have l1:=zdf (f:=zdk p (List.length (Proto.Wait p):Int) (List.length (Proto.Home p):Int)) (n:=(Proto.Home p).length) (g:=fun _=>some true) (fun i=>(i:Int)) (zra p) (fun i hi _=>by
  have hlt:(i:Int)<(List.length (Proto.Home p):Int):=by omega
  have hid:i<(Proto.Dir p).length:=by omega
  have hib:i<(Proto.Busy p).length:=by omega
  unfold zdk zra
  rw [zbd hid,zbd hib]
  simp only [hlt,decide_true,if_true,zab hid,zab hib,zpX,wC0,zat (show i<4611686018427387904 by omega)]
  cases mayB (Proto.Dir p)[i] (Proto.Wait p).length
  ·rfl
  ·simp only [wH0,wA0,if_false,wC0,Bool.true_and]
   by_cases s1:(Proto.Busy p)[i]<0
   ·rw [decide_eq_true s1,decide_eq_false (show ¬ 0≤(Proto.Busy p)[i] by omega)];rfl
   rw [decide_eq_false s1,decide_eq_true (show 0≤(Proto.Busy p)[i] by omega)]
   by_cases s2:((Proto.Wait p).length:Int)<(Proto.Busy p)[i]
   ·rw [decide_eq_true s2,decide_eq_false (show ¬ (Proto.Busy p)[i]≤((Proto.Wait p).length:Int) by omega)];rfl
   ·rw [decide_eq_false s2,decide_eq_true (show (Proto.Busy p)[i]≤((Proto.Wait p).length:Int) by omega)];rfl) (fun _=>by
  unfold zdk
  simp only [show ¬ (List.length (Proto.Home p):Int)<(List.length (Proto.Home p):Int) by omega,decide_false,wA0,if_false])
 rw [show (((0:Nat):Int))=0 from rfl] at l1
 have l3':=l3 (fun _:Unit=>zaG (zai (zdk p (List.length (Proto.Wait p):Int) (List.length (Proto.Home p):Int)) (0:Int)) fun _:Unit=>some true)
 rw [show (((0:Nat):Int))=0 from rfl] at l3'
 rw [l3',l1]
 have hand:((List.range (Proto.Wait p).length).all fun i=>rowB p i&&zmN p i)=((List.range (Proto.Wait p).length).all (rowB p)&&(List.range (Proto.Wait p).length).all (zmN p)):=by
  rw [Bool.eq_iff_iff,wD0,za5,za5,za5]
  constructor
  ·intro q
   exact ⟨fun i hi=>(wD0 _ _▸q i hi).1,fun i hi=>(wD0 _ _▸q i hi).2⟩
  ·rintro ⟨q1,q2⟩ i hi
   rw [q1 i hi,q2 i hi]
   rfl
 rw [hand]
 cases (List.range (Proto.Wait p).length).all (rowB p)
 ·rfl
 ·cases (List.range (Proto.Wait p).length).all (zmN p)
  ·rfl
  ·cases (List.range (Proto.Home p).length).all (zra p)<;>rfl
end Go.Proofs.YtdfohlonacbelaaGreat
