/- The law ProtoRight on typed data. -/
import Derived.Test.YtdfohlonacbelaaGreatQC
set_option linter.unusedSimpArgs false
set_option linter.unusedVariables false
set_option maxRecDepth 100000
namespace Go.Proofs.YtdfohlonacbelaaGreat
open Go.SX
theorem zyh {st va:List (List Int)}{wa:List Wait}{ho:List Int}{di:List Entry}{bu:List Int}{po q:Pool}{m:Msg}{e k:Int}(hR:zek (Proto.mk st va wa ho di bu po)=some true) (hT:zf4 po k=some (q,m,e)):zcq (Proto.mk st va wa ho di bu po) k =
  if decide (e=7) then some (Proto.mk st va wa ho di bu po,7) else
  if decide ((64:Int)<w64 (w64 ((List.length (Pool.Frames q):Int) + (List.length wa:Int)) + 1)) then some (Proto.mk st va wa ho di bu po,6) else
  if !decide (e=0) then some (Proto.mk st va wa ho di bu q,e) else
  if ((decide ((List.length ho:Int)≤Msg.Line m))||((decide ((List.length wa:Int)<Msg.From m))||((decide ((List.length wa:Int)<Msg.To m))||((decide ((List.length wa:Int)<Msg.For m))||((decide (Msg.To m=0))&&(decide (Msg.From m=0))))))) then some (Proto.mk st va wa ho di bu q,0) else
  if decide (Msg.To m=0) then (zfH (Proto.mk st va wa ho di bu q) m).bind fun v21=>some (v21,0)
  else (zfm (Proto.mk st va wa ho di bu q) (w64 (Msg.To m - 1)) m).bind fun v23=>some (v23,0):=by
 have hT':zf4 (Proto.Pool (Proto.mk st va wa ho di bu po)) k=some (q,m,e):=hT
 unfold zcq
 rw [hR,hT']
 rfl
theorem zqx {st va:List (List Int)}{wa:List Wait}{ho:List Int}{di:List Entry}{bu:List Int}{po:Pool}(h:Ok10 (Proto.mk st va wa ho di bu po)) (hs:zdW (Proto.mk st va wa ho di bu po)) (k:Int):∃ q e,zcO (Proto.mk st va wa ho di bu po) k=some (q,e)∧zcq (Proto.mk st va wa ho di bu po) k=some (q,e)∧Ok10 q:=by
 rw [ztQ]
 have k1:=zyf h
 have k2:=zyo h
 have k3:=zyg h
 have k4:=zx6 h
 have k5:=zqq h
 have k6:=zqH h
 have k7:=zqM h
 simp only [ps,pv,pw,ph,pd,pb,pp] at k1 k2 k3 k4 k5 k6 k7
 simp only [ps,pv,pw,ph,pd,pb,pp,d2,d3,d4,d5,k1,k2,k3,k4,k5,k6,k7,ze5 hs,wC0]
 have hrr:=zhm hs
 cases hr:zeb (Proto.mk st va wa ho di bu po)
 ·rw [hr] at hrr
  exact ⟨_,_,rfl,by unfold zcq;rw [hrr];rfl,h⟩
 rw [hr] at hrr
 have R:=zbO hr
 obtain ⟨q,m,e,t1,t2,t3,t4,t5⟩:=zvF po h.po R.po k
 rw [zyh hrr t2]
 simp only [t1,wC0,wH0,wA0,if_false]
 by_cases h7:e=7
 ·subst h7
  exact ⟨_,_,rfl,rfl,h⟩
 simp only [h7,decide_false,wA0,if_false]
 have hq:=t4 h7
 have q64:=(zdl.1 hq).1
 have c4:=R.c4
 have h16:=R.h16
 have rst:=R.st
 have rva:=R.va
 have rdi:=R.di
 have rbu:=R.bu
 have rsr:=R.sr
 have rvr:=R.vr
 have rdm:=R.dm
 have rbb:=R.bb
 simp only [ps,pv,pw,ph,pd,pb,pp] at c4 h16 rst rva rdi rbu rsr rvr rdm rbb
 rw [zhw q (by omega),if_pos hq]
 have hw:w64 (w64 ((List.length (Pool.Frames q):Int) + (List.length wa:Int)) + 1)=(List.length (Pool.Frames q):Int) + (List.length wa:Int) + 1:=by rw [zbc (n:=(List.length (Pool.Frames q):Int) + (List.length wa:Int)) (by omega) (by omega),zbc (by omega) (by omega)]
 have hw2:w64 ((List.length wa:Int) + 1)=(List.length wa:Int) + 1:=zbc (by omega) (by omega)
 simp only [wC0,pw,hw,hw2]
 have hroom:decide ((64:Int)<(List.length (Pool.Frames q):Int) + (List.length wa:Int) + 1)=decide (64 - (List.length (Pool.Frames q):Int)<(List.length wa:Int) + 1):=by rw [decide_eq_decide];omega
 rw [hroom]
 cases hc:decide (64 - (List.length (Pool.Frames q):Int)<(List.length wa:Int) + 1)
 rotate_left
 ·exact ⟨_,_,rfl,rfl,h⟩
 simp only [wA0,if_false]
 have g1:=zbv h t3
 rw [ps,pv,pw,ph,pd,pb] at g1
 by_cases h0:e=0
 rotate_left
 ·simp only [h0,decide_false,Bool.not_false,Bool.true_or,if_true,wC0]
  exact ⟨_,_,rfl,rfl,g1⟩
 have M:=t5 h0
 simp only [h0,decide_true,wH0,wA0,if_false,Bool.false_or,pq,ph]
 have m1:=M.src
 have m2:=M.dst
 have m3:=M.line
 have hcond:∀ (i1:Decidable ((List.length ho:Int)≤Msg.Line m)) (i2:Decidable ((List.length wa:Int)<Msg.From m)) (i3:Decidable ((List.length wa:Int)<Msg.To m)) (i4:Decidable ((List.length wa:Int)<Msg.For m)) (i5:Decidable (Msg.To m=0)) (i6:Decidable (Msg.From m=0)),((@decide _ i1)||((@decide _ i2)||((@decide _ i3)||((@decide _ i4)||((@decide _ i5)&&(@decide _ i6))))))=(!zc3 (Proto.mk st va wa ho di bu po) m||(decide (Msg.To m=0)&&decide (Msg.From m=0))):=by
  intros
  unfold zc3
  rw [pw,ph,Bool.eq_iff_iff]
  simp only [Bool.or_eq_true,wD0,Bool.not_eq_true',Bool.and_eq_false_iff,decide_eq_true_eq,decide_eq_false_iff_not]
  omega
 simp only [hcond]
 cases hfit:zc3 (Proto.mk st va wa ho di bu po) m
 ·simp only [Bool.not_false,Bool.true_or,if_true,wC0]
  exact ⟨_,_,rfl,rfl,g1⟩
 have F:Msg.Line m<(ho.length:Int)∧Msg.From m≤(wa.length:Int)∧Msg.To m≤(wa.length:Int)∧Msg.For m≤(wa.length:Int):=by
  unfold zc3 at hfit
  rw [pw,ph] at hfit
  simpa using hfit
 obtain ⟨f1,f2,f3,f4⟩:=F
 obtain ⟨l,hl⟩:∃ l:Nat,Msg.Line m=(l:Int):=⟨(Msg.Line m).toNat,by omega⟩
 have lho:l<ho.length:=by omega
 have ldi:l<di.length:=by omega
 have lbu:l<bu.length:=by omega
 simp only [wH0,Bool.false_or,wA0,if_false]
 by_cases ht:Msg.To m=0
 ·have ht':¬ (0:Int)<Msg.To m:=by omega
  by_cases hF0:Msg.From m=0
  ·have hF':¬ (0:Int)<Msg.From m:=by omega
   simp only [ht,hF0,decide_true,Bool.and_self,if_true,show decide ((0:Int)<0)=false from rfl,wA0,if_false,wC0]
   exact ⟨_,_,rfl,rfl,g1⟩
  ·have hF':(0:Int)<Msg.From m:=by omega
   obtain ⟨f,hf⟩:∃ f:Nat,Msg.From m=(f:Int) + 1:=⟨(Msg.From m - 1).toNat,by omega⟩
   obtain ⟨q',o,d,b,e1,e2,e3⟩:=zwl g1 M hl hf (by omega) c4 lho ldi lbu (rdm l ldi) (rbb l lbu).1
   refine ⟨_,0,?_,?_,e3⟩
   rotate_left
   ·simp only [ht,hF0,decide_true,decide_false,Bool.and_false,wA0,if_false,if_true,e2,wC0]
   ·simp only [ht',hF',decide_true,decide_false,wA0,if_false,if_true,e1,wC0]
 ·have ht':(0:Int)<Msg.To m:=by omega
  obtain ⟨n,hn⟩:∃ n:Nat,w64 (Msg.To m - 1)=(n:Int)∧Msg.To m=(n:Int) + 1:=⟨(Msg.To m - 1).toNat,by rw [zbc (by omega) (by omega)];omega,by omega⟩
  have hnw:n<wa.length:=by omega
  have hns:n<st.length:=by omega
  have hnv:n<va.length:=by omega
  obtain ⟨q',s,v,x,e1,e2,e3⟩:=zwY g1 M hnw hns (show l<st[n].length by rw [rsr n hns];exact lho) hnv (show l<va[n].length by rw [rvr n hnv];exact lho) hl
  refine ⟨_,0,?_,?_,e3⟩
  rotate_left
  ·simp only [ht,decide_false,Bool.false_and,wA0,if_false,hn.1,e2,wC0]
  ·simp only [ht',decide_true,if_true,hn.1,e1,wC0]
theorem zrx {p:Proto}(h:Ok10 p) (hs:zdW p) (k:Int):∃ q e,zcO p k=some (q,e)∧zcq p k=some (q,e)∧Ok10 q:=zqx (st:=Proto.State p) (va:=Proto.Val p) (wa:=Proto.Wait p) (ho:=Proto.Home p) (di:=Proto.Dir p) (bu:=Proto.Busy p) (po:=Proto.Pool p) h hs k
theorem zqF {f:Int→Option (Int⊕Unit⊕Bool)}{n:Nat}(ok:Nat→Bool) (hn:n≤1000) (step:∀ i:Nat,i<n→i<1000→f (i:Int)=some (if ok i=true then .inl ((i + 1:Nat):Int) else .inr (.inr false))) (out:f (n:Int)=some (.inr (.inl ()))) (g:Unit→Option Bool):zaG (zai f (0:Int)) g=if (List.range n).all ok=true then g () else some false:=by
 have:=zdf (f:=f) (n:=n) (g:=g) (fun i=>(i:Int)) ok (fun i hi _=>step i hi (by omega)) (fun _=>out)
 rw [show (((0:Nat):Int))=0 from rfl] at this
 exact this
structure zxx (p:Proto):Prop where
 sh:zdW p
 st:∀ r∈Proto.State p,r.length≤20
 va:∀ r∈Proto.Val p,r.length≤20
 di:(Proto.Dir p).length≤20∧∀ e∈Proto.Dir p,(Entry.Share e).length≤20
 bu:(Proto.Busy p).length≤20
 fr:∀ b∈Pool.Frames (Proto.Pool p),b.length≤100
theorem zzO (p:Proto):∃ b,zka p=some b∧(b=true→zxx p):=by
 unfold zka
 obtain ⟨f,hf,hF⟩:=zwj (Proto.Pool p)
 by_cases c1:(6:Int)<(List.length (Proto.State p):Int)
 ·simp only [c1,decide_true,if_true,wC0];exact ⟨false,rfl,fun h=>by cases h⟩
 by_cases c2:(6:Int)<(List.length (Proto.Val p):Int)
 ·simp only [c1,c2,decide_true,decide_false,wA0,if_false,if_true,wC0];exact ⟨false,rfl,fun h=>by cases h⟩
 by_cases c3:(6:Int)<(List.length (Proto.Wait p):Int)
 ·simp only [c1,c2,c3,decide_true,decide_false,wA0,if_false,if_true,wC0];exact ⟨false,rfl,fun h=>by cases h⟩
 by_cases c4:(20:Int)<(List.length (Proto.Home p):Int)
 ·simp only [c1,c2,c3,c4,decide_true,decide_false,wA0,if_false,if_true,wC0];exact ⟨false,rfl,fun h=>by cases h⟩
 by_cases c5:(20:Int)<(List.length (Proto.Dir p):Int)
 ·simp only [c1,c2,c3,c4,c5,decide_true,decide_false,wA0,if_false,if_true,wC0];exact ⟨false,rfl,fun h=>by cases h⟩
 by_cases c6:(20:Int)<(List.length (Proto.Busy p):Int)
 ·simp only [c1,c2,c3,c4,c5,c6,decide_true,decide_false,wA0,if_false,if_true,wC0];exact ⟨false,rfl,fun h=>by cases h⟩
 simp only [c1,c2,c3,c4,c5,c6,decide_false,wA0,if_false,hf,wC0]
 cases f
 ·exact ⟨false,rfl,fun h=>by cases h⟩
 obtain ⟨ff1,ff2⟩:=hF rfl
 simp only [wH0,wA0,if_false]
 have q1:=zqF (f:=zeG p) (n:=(Proto.Dir p).length) (fun i=>optT (fun e=>decide ((Entry.Share e).length≤20)) (Proto.Dir p)[i]?) (by omega) (fun i hi hk=>by
  unfold zeG
  rw [zbd hi]
  simp only [show (i:Int)<(List.length (Proto.Dir p):Int) by omega,decide_true,if_true,zab hi,wC0,zat (show i<4611686018427387904 by omega)]
  by_cases h:(Entry.Share (Proto.Dir p)[i]).length≤20
  ·simp only [h,show ¬ (20:Int)<((Entry.Share (Proto.Dir p)[i]).length:Int) by omega,decide_true,decide_false,wA0,if_false,if_true]
  ·simp only [h,show (20:Int)<((Entry.Share (Proto.Dir p)[i]).length:Int) by omega,decide_true,decide_false,wA0,if_false,if_true]) (by
  unfold zeG
  simp only [show ¬ (List.length (Proto.Dir p):Int)<(List.length (Proto.Dir p):Int) by omega,decide_false,wA0,if_false])
 have q2:=zqF (f:=zeK p) (n:=(Proto.Val p).length) (fun i=>optT (fun e=>decide (e.length≤20)) (Proto.Val p)[i]?) (by omega) (fun i hi hk=>by
  unfold zeK
  rw [zbd hi]
  simp only [show (i:Int)<(List.length (Proto.Val p):Int) by omega,decide_true,if_true,zab hi,wC0,zat (show i<4611686018427387904 by omega)]
  by_cases h:((Proto.Val p)[i]).length≤20
  ·simp only [h,show ¬ (20:Int)<(((Proto.Val p)[i]).length:Int) by omega,decide_true,decide_false,wA0,if_false,if_true]
  ·simp only [h,show (20:Int)<(((Proto.Val p)[i]).length:Int) by omega,decide_true,decide_false,wA0,if_false,if_true]) (by
  unfold zeK
  simp only [show ¬ (List.length (Proto.Val p):Int)<(List.length (Proto.Val p):Int) by omega,decide_false,wA0,if_false])
 have q3:=zqF (f:=zeO p) (n:=(Proto.State p).length) (fun i=>optT (fun e=>decide (e.length≤20)) (Proto.State p)[i]?) (by omega) (fun i hi hk=>by
  unfold zeO
  rw [zbd hi]
  simp only [show (i:Int)<(List.length (Proto.State p):Int) by omega,decide_true,if_true,zab hi,wC0,zat (show i<4611686018427387904 by omega)]
  by_cases h:((Proto.State p)[i]).length≤20
  ·simp only [h,show ¬ (20:Int)<(((Proto.State p)[i]).length:Int) by omega,decide_true,decide_false,wA0,if_false,if_true]
  ·simp only [h,show (20:Int)<(((Proto.State p)[i]).length:Int) by omega,decide_true,decide_false,wA0,if_false,if_true]) (by
  unfold zeO
  simp only [show ¬ (List.length (Proto.State p):Int)<(List.length (Proto.State p):Int) by omega,decide_false,wA0,if_false])
 rw [q3,q2,q1]
 by_cases z3:(List.range (Proto.State p).length).all (fun i=>optT (fun e:List Int=>decide (e.length≤20)) (Proto.State p)[i]?)=true
 rotate_left
 ·rw [if_neg z3];exact ⟨false,rfl,fun h=>by cases h⟩
 rw [if_pos z3]
 by_cases z2:(List.range (Proto.Val p).length).all (fun i=>optT (fun e:List Int=>decide (e.length≤20)) (Proto.Val p)[i]?)=true
 rotate_left
 ·rw [if_neg z2];exact ⟨false,rfl,fun h=>by cases h⟩
 rw [if_pos z2]
 by_cases z1:(List.range (Proto.Dir p).length).all (fun i=>optT (fun e:Entry=>decide ((Entry.Share e).length≤20)) (Proto.Dir p)[i]?)=true
 rotate_left
 ·rw [if_neg z1];exact ⟨false,rfl,fun h=>by cases h⟩
 rw [if_pos z1]
 rw [← zbH,List.all_eq_true] at z1 z2 z3
 exact ⟨true,rfl,fun _=>⟨⟨by omega,by omega,by omega,by omega,ff1⟩,fun r hr=>of_decide_eq_true (z3 r hr),fun r hr=>of_decide_eq_true (z2 r hr),⟨by omega,fun r hr=>of_decide_eq_true (z1 r hr)⟩,by omega,ff2⟩⟩
end Go.Proofs.YtdfohlonacbelaaGreat
