import Derived.Test.YtdfohlonacbelaaGreatQC
set_option linter.unusedSimpArgs false
set_option linter.unusedVariables false
set_option maxRecDepth 100000
namespace Go.Proofs.YtdfohlonacbelaaGreat
open Go.SX
theorem zyY {st va:List (List Int)}{wa:List Wait}{ho:List Int}{di:List Entry}{bu:List Int}{po q:Pool}{m:Msg}{e k:Int}(hR:ze4 (Proto.mk st va wa ho di bu po)=some true) (hT:zfM po k=some (q,m,e)):zcr (Proto.mk st va wa ho di bu po) k =
  if decide (e=7) then some (Proto.mk st va wa ho di bu po,7) else
  if decide ((64:Int)<w64 (w64 ((List.length (Pool.Frames q):Int) + (List.length wa:Int)) + 1)) then some (Proto.mk st va wa ho di bu po,6) else
  if !decide (e=0) then some (Proto.mk st va wa ho di bu q,e) else
  if ((decide ((List.length ho:Int)≤Msg.Line m))||((decide ((List.length wa:Int)<Msg.From m))||((decide ((List.length wa:Int)<Msg.To m))||((decide ((List.length wa:Int)<Msg.For m))||((decide (Msg.To m=0))&&(decide (Msg.From m=0))))))) then some (Proto.mk st va wa ho di bu q,0) else
  if decide (Msg.To m=0) then (zfw (Proto.mk st va wa ho di bu q) m).bind fun v21=>some (v21,0)
  else (ze8 (Proto.mk st va wa ho di bu q) (w64 (Msg.To m - 1)) m).bind fun v23=>some (v23,0):=by
 have hT':zfM (Proto.Pool (Proto.mk st va wa ho di bu po)) k=some (q,m,e):=hT
 unfold zcr
 rw [hR,hT']
 rfl
theorem zqI {F:Prop}{st va:List (List Int)}{wa:List Wait}{ho:List Int}{di:List Entry}{bu:List Int}{po:Pool}(h:zAM F (Proto.mk st va wa ho di bu po)) (hs:zff (Proto.mk st va wa ho di bu po)) (k:Int):∃ q e,zcE (Proto.mk st va wa ho di bu po) k=some (q,e)∧zcr (Proto.mk st va wa ho di bu po) k=some (q,e)∧zAM F q:=by
 rw [zul]
 have k1:=zyA h
 have k2:=zyK h
 have k3:=zyw h
 have k4:=zyD h
 have k5:=zqP h
 have k6:=zrr h
 have k7:=zrj h
 simp only [ps,pv,pw,ph,pd,pb,pp] at k1 k2 k3 k4 k5 k6 k7
 simp only [ps,pv,pw,ph,pd,pb,pp,d2,d3,d4,d5,k1,k2,k3,k4,k5,k6,k7,ze3 hs,wC0]
 have hrr:=zlO hs
 cases hr:zds (Proto.mk st va wa ho di bu po)
 ·rw [hr] at hrr
  exact ⟨_,_,rfl,by unfold zcr;rw [hrr];rfl,h⟩
 rw [hr] at hrr
 have R:=zcm hr
 obtain ⟨q,m,e,t1,t2,t3,t4,t5⟩:=zvV po h.po R.po k
 rw [zyY hrr t2]
 simp only [t1,wC0,wH0,wA0,if_false]
 by_cases h7:e=7
 ·subst h7
  exact ⟨_,_,rfl,rfl,h⟩
 simp only [h7,vF0,wA0,if_false]
 have hq:=t4 h7
 have q64:=(zbK.1 hq).1
 have c4:=R.c4
 have h16:=R.h16
 have rst:=R.st
 have rva:=R.va
 have rdi:=R.di
 have rbu:=R.bu
 have rsr:=R.sr
 have rvr:=R.vr
 have rdm:=R.dm
 have rbb:=R.bb
 simp only [ps,pv,pw,ph,pd,pb,pp] at c4 h16 rst rva rdi rbu rsr rvr rdm rbb
 rw [zeu q (by omega),if_pos hq]
 have hw:w64 (w64 ((List.length (Pool.Frames q):Int) + (List.length wa:Int)) + 1)=(List.length (Pool.Frames q):Int) + (List.length wa:Int) + 1:=by rw [zaV (n:=(List.length (Pool.Frames q):Int) + (List.length wa:Int)) (by omega) (by omega),zaV (by omega) (by omega)]
 have hw2:w64 ((List.length wa:Int) + 1)=(List.length wa:Int) + 1:=zaV (by omega) (by omega)
 simp only [wC0,pw,hw,hw2]
 have hroom:decide ((64:Int)<(List.length (Pool.Frames q):Int) + (List.length wa:Int) + 1)=decide (64 - (List.length (Pool.Frames q):Int)<(List.length wa:Int) + 1):=by rw [decide_eq_decide];omega
 rw [hroom]
 cases hc:decide (64 - (List.length (Pool.Frames q):Int)<(List.length wa:Int) + 1)
 rotate_left
 ·exact ⟨_,_,rfl,rfl,h⟩
 simp only [wA0,if_false]
 have g1:=zbD h (q:=q) ⟨t3,fun _=>hq⟩
 rw [ps,pv,pw,ph,pd,pb] at g1
 by_cases h0:e=0
 rotate_left
 ·simp only [h0,vF0,vH0,Bool.true_or,if_true,wC0]
  exact ⟨_,_,rfl,rfl,g1⟩
 have M:=t5 h0
 simp only [h0,vE0,wH0,wA0,if_false,Bool.false_or,pq,ph]
 have m1:=M.src
 have m2:=M.dst
 have m3:=M.line
 have hcond:∀ (i1:Decidable ((List.length ho:Int)≤Msg.Line m)) (i2:Decidable ((List.length wa:Int)<Msg.From m)) (i3:Decidable ((List.length wa:Int)<Msg.To m)) (i4:Decidable ((List.length wa:Int)<Msg.For m)) (i5:Decidable (Msg.To m=0)) (i6:Decidable (Msg.From m=0)),((@decide _ i1)||((@decide _ i2)||((@decide _ i3)||((@decide _ i4)||((@decide _ i5)&&(@decide _ i6))))))=(!zcX (Proto.mk st va wa ho di bu po) m||(decide (Msg.To m=0)&&decide (Msg.From m=0))):=by
  intros
  unfold zcX
  rw [pw,ph,Bool.eq_iff_iff]
  simp only [Bool.or_eq_true,wD0,Bool.not_eq_true',Bool.and_eq_false_iff,vG0,decide_eq_false_iff_not]
  omega
 simp only [hcond]
 cases hfit:zcX (Proto.mk st va wa ho di bu po) m
 ·simp only [vH0,Bool.true_or,if_true,wC0]
  exact ⟨_,_,rfl,rfl,g1⟩
 have F:Msg.Line m<(ho.length:Int)∧Msg.From m≤(wa.length:Int)∧Msg.To m≤(wa.length:Int)∧Msg.For m≤(wa.length:Int):=by
  unfold zcX at hfit
  rw [pw,ph] at hfit
  simpa using hfit
 obtain ⟨f1,f2,f3,f4⟩:=F
 obtain ⟨l,hl⟩:∃ l:Nat,Msg.Line m=(l:Int):=⟨(Msg.Line m).toNat,by omega⟩
 have lho:l<ho.length:=by omega
 have ldi:l<di.length:=by omega
 have lbu:l<bu.length:=by omega
 simp only [wH0,Bool.false_or,wA0,if_false]
 by_cases ht:Msg.To m=0
 ·have ht':¬ (0:Int)<Msg.To m:=by omega
  by_cases hF0:Msg.From m=0
  ·have hF':¬ (0:Int)<Msg.From m:=by omega
   simp only [ht,hF0,vE0,Bool.and_self,if_true,show decide ((0:Int)<0)=false from rfl,wA0,if_false,wC0]
   exact ⟨_,_,rfl,rfl,g1⟩
  ·have hF':(0:Int)<Msg.From m:=by omega
   obtain ⟨f,hf⟩:∃ f:Nat,Msg.From m=(f:Int) + 1:=⟨(Msg.From m - 1).toNat,by omega⟩
   obtain ⟨q',o,d,b,e1,e2,e3⟩:=zxn g1 M hl hf (by omega) c4 lho ldi lbu (rdm l ldi) (rbb l lbu).1
   refine ⟨_,0,?_,?_,e3⟩
   rotate_left
   ·simp only [ht,hF0,vE0,vF0,Bool.and_false,wA0,if_false,if_true,e2,wC0]
   ·simp only [ht',hF',vE0,vF0,wA0,if_false,if_true,e1,wC0]
 ·have ht':(0:Int)<Msg.To m:=by omega
  obtain ⟨n,hn⟩:∃ n:Nat,w64 (Msg.To m - 1)=(n:Int)∧Msg.To m=(n:Int) + 1:=⟨(Msg.To m - 1).toNat,by rw [zaV (by omega) (by omega)];omega,by omega⟩
  have hnw:n<wa.length:=by omega
  have hns:n<st.length:=by omega
  have hnv:n<va.length:=by omega
  obtain ⟨q',s,v,x,e1,e2,e3⟩:=zw6 g1 M hnw hns (show l<st[n].length by rw [rsr n hns];exact lho) hnv (show l<va[n].length by rw [rvr n hnv];exact lho) hl
  refine ⟨_,0,?_,?_,e3⟩
  rotate_left
  ·simp only [ht,vF0,vD1,wA0,if_false,hn.1,e2,wC0]
  ·simp only [ht',vE0,if_true,hn.1,e1,wC0]
theorem zsJ {F:Prop}{p:Proto}(h:zAM F p) (hs:zff p) (k:Int):∃ q e,zcE p k=some (q,e)∧zcr p k=some (q,e)∧zAM F q:=zqI (st:=Proto.State p) (va:=Proto.Val p) (wa:=Proto.Wait p) (ho:=Proto.Home p) (di:=Proto.Dir p) (bu:=Proto.Busy p) (po:=Proto.Pool p) h hs k
structure Short10 (p:Proto):Prop where
 sh:zff p
 st:∀ r∈Proto.State p,r.length≤20
 va:∀ r∈Proto.Val p,r.length≤20
 di:(Proto.Dir p).length≤20∧∀ e∈Proto.Dir p,(Entry.Share e).length≤20
 bu:(Proto.Busy p).length≤20
 fr:∀ b∈Pool.Frames (Proto.Pool p),b.length≤100
end Go.Proofs.YtdfohlonacbelaaGreat
