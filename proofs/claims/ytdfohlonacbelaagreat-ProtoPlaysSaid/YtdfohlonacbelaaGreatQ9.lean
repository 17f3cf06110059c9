import Derived.Test.YtdfohlonacbelaaGreatQ8b
set_option linter.unusedSimpArgs false
set_option linter.unusedVariables false
set_option maxRecDepth 100000
namespace Go.Proofs.YtdfohlonacbelaaGreat
open Go.SX
theorem zsO {st va:List (List Int)}{wa:List Wait}{ho:List Int}{di:List Entry}{bu:List Int}{po:Pool}{F:Prop}(h:zAM F (Proto.mk st va wa ho di bu po)) {n l:Nat}(hn:n<wa.length) (w:Wait) (hw:wa[n]=w) (hl:w64 (Wait.Line w - 1)=(l:Int)) (h1:n<st.length) (h2:l<st[n].length) (h3:n<va.length) (h4:l<va[n].length) :
  ∃ q s v x,zyO po st va wa (n:Int)=some (q,s,v,x)∧zev (Proto.mk st va wa ho di bu po) (n:Int)=some (Proto.mk s v x ho di bu q)∧zAM F (Proto.mk s v x ho di bu q):=by
 obtain ⟨c1,c2⟩:=zz0 h hn w hw
 unfold zyO
 simp only [zaz hn,zac hn,hw,wC0]
 cases hc:(!Wait.Came w||decide (Wait.Got w<Wait.Need w))
 rotate_left
 ·exact ⟨_,_,_,_,rfl,c1 hc,h⟩
 obtain ⟨q,e,q1,q2,q3⟩:=c2 hc l hl h1 h2 h3 h4
 refine ⟨_,_,_,_,?_,q2,q3⟩
 simp only [wA0,if_false,hl,zaz h1,zac h1,zaz h2,zaD h2,zaD h1,zaz h3,zac h3,zaz h4,zaD h4,zaD h3,zaD hn,q1,wC0]
 cases Wait.Keep w<;>rfl
theorem zw6 {st va:List (List Int)}{wa:List Wait}{ho:List Int}{di:List Entry}{bu:List Int}{po:Pool}{F:Prop}(h:zAM F (Proto.mk st va wa ho di bu po)) {m:Msg}(M:zwY m) {n l:Nat}(hn:n<wa.length) (h1:n<st.length) (h2:l<st[n].length) (h3:n<va.length) (h4:l<va[n].length) (hl:Msg.Line m=(l:Int)) :
  ∃ q s v x,zzY po m st va wa (n:Int)=some (q,s,v,x)∧ze8 (Proto.mk st va wa ho di bu po) (n:Int) m=some (Proto.mk s v x ho di bu q)∧zAM F (Proto.mk s v x ho di bu q):=by
 have l256:=M.line
 rw [hl] at l256
 have el:w64 ((l:Int) + 1)=(l:Int) + 1:=zaV (by omega) (by omega)
 obtain ⟨w,hw⟩:∃ w,wa[n]=w:=⟨_,rfl⟩
 obtain ⟨s,hs⟩:∃ s,st[n][l]=s:=⟨_,rfl⟩
 unfold zzY ze8
 simp only [pw,ps,hl,zaz hn,zaz h1,zaz h2,zac hn,zac h1,zac h2,hw,hs,el,wC0]
 obtain ⟨b,hb⟩:∃ b,decide (Wait.Line w=(l:Int) + 1)=b:=⟨_,rfl⟩
 have hline:b=true→w64 (Wait.Line w - 1)=(l:Int):=fun q=>by
  rw [q] at hb
  rw [of_decide_eq_true hb,zaV (by omega) (by omega)]
  omega
 simp only [hb]
 by_cases k3:Msg.Kind m=3
 ·simp only [k3,vE0,if_true]
  cases hbk:Wait.Back w
  rotate_left
  ·simp only [wH0,vD1,Bool.and_false,wA0,if_false,zai,if_true,wC0,ite_self]
   exact ⟨_,_,_,_,rfl,rfl,h⟩
  cases hcm:Wait.Came w
  rotate_left
  ·simp only [wH0,vH0,Bool.and_false,wA0,if_false,zai,if_true,wC0,ite_self]
   exact ⟨_,_,_,_,rfl,rfl,h⟩
  cases b
  ·simp only [vH0,vD1,wA0,if_false,zai,if_true,wC0]
   exact ⟨_,_,_,_,rfl,rfl,h⟩
  obtain ⟨w1,hw1⟩:∃ w1,Wait.mk (Wait.Line w) (Wait.Write w) false true (Msg.Own m) (decide (Msg.Num m=1)) (Msg.Acks m) (Wait.Got w) (Msg.Val m)=w1:=⟨_,rfl⟩
  have hv1:U32 (Wait.Val w1):=by rw [← hw1];exact M.val
  have g1:=zfW h n hv1 (fun f=>by
   have q:zdC ho.length wa[n]=true:=(h.rt f).wt n hn
   rw [hw] at q
   show zdC ho.length w1=true
   rw [← hw1]
   have ma:=M.acks
   have q':=zjy.1 q
   exact zjy.2 ⟨q'.1,⟨ma.1,by show Msg.Acks m≤255;omega⟩,q'.2.2⟩)
  simp only [ps,pv,pw,ph,pd,pb,pp] at g1
  have wi:=ziX h (n:=n) hn w1
  simp only [ps,pv,pw,ph,pd,pb,pp] at wi
  have hn1:n<(wa.set n w1).length:=by rw [vQ0];exact hn
  obtain ⟨q,s',v,x,e1,e2,e3⟩:=zsO g1 hn1 w1 (List.getElem_set_self hn1) (by rw [← hw1];exact hline rfl) h1 h2 h3 h4
  refine ⟨q,s',v,x,?_,?_,e3⟩
  ·simp only [if_true,vH0,wC0,zaD hn,zuH hn,zqR hn,zxq hbk,hw1,e1]
  ·simp only [vH0,Bool.and_self,if_true,hw1,wi,e2,wC0,za6]
 simp only [k3,vF0,wA0,if_false]
 by_cases k5:Msg.Kind m=5
 ·simp only [k5,vE0,if_true]
  cases b
  ·simp only [vH0,vD1,wA0,if_false,zai,if_true,wC0]
   exact ⟨_,_,_,_,rfl,rfl,h⟩
  cases hwr:Wait.Write w
  ·simp only [vH0,vD1,Bool.and_false,wA0,if_false,zai,if_true,wC0]
   exact ⟨_,_,_,_,rfl,rfl,h⟩
  cases hg:decide (Wait.Got w<255)
  ·simp only [vH0,vD1,Bool.and_false,wA0,if_false,zai,if_true,wC0,hg]
   exact ⟨_,_,_,_,rfl,rfl,h⟩
  obtain ⟨w1,hw1⟩:∃ w1,Wait.setGot w (w64 (Wait.Got w + 1))=w1:=⟨_,rfl⟩
  have hv1:U32 (Wait.Val w1):=by rw [← hw1];show U32 (Wait.Val w);rw [← hw];exact h.ww _ (List.getElem_mem hn)
  have g1:=zfW h n hv1 (fun f=>by
   have q:zdC ho.length wa[n]=true:=(h.rt f).wt n hn
   rw [hw] at q
   show zdC ho.length w1=true
   have hg':=of_decide_eq_true hg
   rw [← hw1]
   have q':=zjy.1 q
   have e1:w64 (Wait.Got w + 1)=Wait.Got w + 1:=zaV (by omega) (by omega)
   exact zjy.2 ⟨q'.1,q'.2.1,by show 0≤w64 (Wait.Got w + 1)∧w64 (Wait.Got w + 1)≤255;rw [e1];omega⟩)
  simp only [ps,pv,pw,ph,pd,pb,pp] at g1
  have wi:=ziX h (n:=n) hn w1
  simp only [ps,pv,pw,ph,pd,pb,pp] at wi
  have hn1:n<(wa.set n w1).length:=by rw [vQ0];exact hn
  obtain ⟨q,s',v,x,e1,e2,e3⟩:=zsO g1 hn1 w1 (List.getElem_set_self hn1) (by rw [← hw1];exact hline rfl) h1 h2 h3 h4
  refine ⟨q,s',v,x,?_,?_,e3⟩
  ·simp only [if_true,vH0,wC0,zaD hn,hw1,e1,hg]
  ·simp only [Bool.and_self,if_true,hw1,wi,e2,wC0,za6,zai,hg]
 simp only [k5,vF0,wA0,if_false]
 by_cases k4:Msg.Kind m=4
 ·simp only [k4,vE0,if_true]
  obtain ⟨s1,hs1⟩:∃ s1,(if s=1 then st.set n (st[n].set l 0) else st)=s1:=⟨_,rfl⟩
  have g1:zAM F (Proto.mk s1 va wa ho di bu po):=by
   rw [← hs1]
   by_cases q:s=1
   ·rw [if_pos q];exact zd5 h h1 l 0 (fun _=>rfl)
   ·rw [if_neg q];exact h
  have e1:(if decide (s=1)=true then (zbO (Proto.mk st va wa ho di bu po) (n:Int) (l:Int) 0).bind fun v19=>some v19 else some (Proto.mk st va wa ho di bu po))=some (Proto.mk s1 va wa ho di bu po):=by
   rw [← hs1]
   by_cases q:s=1
   ·rw [if_pos (vC0 q),if_pos q,zgf h (n:=n) (l:=l) h1 h2];rfl
   ·rw [if_neg (by rw [vG0];exact q),if_neg q]
  have e2:(if decide (s=1)=true then (zAF st (n:Int)).bind fun v44=>(zAI v44 (l:Int) 0).bind fun v45=>(zAI st (n:Int) v45).bind fun v46=>some v46 else some st)=some s1:=by
   rw [← hs1]
   by_cases q:s=1
   ·rw [if_pos (vC0 q),if_pos q,zac h1]
    simp only [wC0,zaD h2,zaD h1]
   ·rw [if_neg (by rw [vG0];exact q),if_neg q]
  obtain ⟨q,e,q1,q2,q3⟩:=zcO g1 (Msg.mk 5 (w64 ((n:Int) + 1)) (Msg.For m) (l:Int) 0 0 false 0 0) u0 u0
  simp only [ps,pv,pw,ph,pd,pb,pp] at q1 q2
  have e3:=zbD g1 q3
  simp only [ps,pv,pw,ph,pd,pb,pp] at e3
  refine ⟨q,s1,va,wa,?_,?_,e3⟩
  ·simp only [zac h1] at e2
   simp only [wC0] at e2 ⊢
   simp only [e2,q1,wC0]
  ·simp only [e1,q2,wC0,za6]
 simp only [k4,vF0,wA0,if_false]
 have hown:zcU s=decide (1<s):=by unfold zcU;rw [decide_eq_decide];omega
 have hvu:U32 va[n][l]:=h.vw _ (List.getElem_mem h3) _ (List.getElem_mem h4)
 by_cases k6:Msg.Kind m=6
 ·simp only [k6,vE0,if_true,cond_true,hown,show decide ((6:Int)=7)=false from rfl]
  cases ho1:decide (1<s)
  ·simp only [vH0,wA0,if_false,zai,if_true,wC0]
   exact ⟨_,_,_,_,rfl,rfl,h⟩
  obtain ⟨q,e,q1,q2,q3⟩:=zcO h (Msg.mk 3 (w64 ((n:Int) + 1)) (Msg.For m) (l:Int) 0 (Msg.Acks m) false 0 va[n][l]) u0 hvu
  simp only [ps,pv,pw,ph,pd,pb,pp] at q1 q2
  have g1:=zbD h q3
  simp only [ps,pv,pw,ph,pd,pb,pp] at g1
  have e1:=zgf g1 (n:=n) (l:=l) h1 h2 4
  have g2:=zd5 g1 (n:=n) h1 l 4 (fun _=>rfl)
  simp only [ps,pv,pw,ph,pd,pb,pp] at e1 g2
  refine ⟨q,_,va,wa,?_,?_,g2⟩
  ·simp only [wH0,wA0,if_false,zaz h3,zac h3,zaz h4,zac h4,q1,zaD h2,zaD h1,wC0]
  ·simp only [if_true,pv,zac h3,zac h4,q2,e1,wC0,za6,zai]
 by_cases k7:Msg.Kind m=7
 ·simp only [k6,k7,vE0,vF0,if_true,cond_false,hown,show decide ((7:Int)=6)=false from rfl,wA0,if_false]
  cases ho1:decide (1<s)
  ·simp only [vH0,wA0,if_false,zai,if_true,wC0]
   exact ⟨_,_,_,_,rfl,rfl,h⟩
  obtain ⟨q,e,q1,q2,q3⟩:=zcO h (Msg.mk 3 (w64 ((n:Int) + 1)) (Msg.For m) (l:Int) 0 (Msg.Acks m) true 0 va[n][l]) u0 hvu
  simp only [ps,pv,pw,ph,pd,pb,pp] at q1 q2
  have g1:=zbD h q3
  simp only [ps,pv,pw,ph,pd,pb,pp] at g1
  have e1:=zgf g1 (n:=n) (l:=l) h1 h2 0
  have g2:=zd5 g1 (n:=n) h1 l 0 (fun _=>rfl)
  simp only [ps,pv,pw,ph,pd,pb,pp] at e1 g2
  refine ⟨q,_,va,wa,?_,?_,g2⟩
  ·simp only [wH0,wA0,if_false,if_true,zaz h3,zac h3,zaz h4,zac h4,q1,zaD h2,zaD h1,zuH h1,zqR h2,zqR h1,wC0]
  ·simp only [if_true,pv,zac h3,zac h4,q2,e1,wC0,za6,zai]
 simp only [k6,k7,vF0,cond_false,wA0,if_false]
 have gw:=zfW h n (w:=w00) u0 (fun _=>zqO _)
 have wi:=ziX h (n:=n) hn w00
 simp only [ps,pv,pw,ph,pd,pb,pp] at gw wi
 have hw00:Wait.mk (0:Int) false false false false false (0:Int) (0:Int) (0:Int)=w00:=rfl
 by_cases k10:Msg.Kind m=10
 ·simp only [k10,vE0,if_true,hw00,hown]
  cases b
  ·simp only [vH0,vD1,wA0,if_false,zai,if_true,wC0]
   exact ⟨_,_,_,_,rfl,rfl,h⟩
  cases hcm:Wait.Came w
  rotate_left
  ·simp only [wH0,vD1,Bool.and_false,wA0,if_false,zai,if_true,wC0]
   exact ⟨_,_,_,_,rfl,rfl,h⟩
  have hlt2:decide (s<2)=!decide (1<s):=by
   by_cases q:1<s
   ·rw [vC0 q,vD0 (by omega)];rfl
   ·rw [vD0 q,vC0 (by omega)];rfl
  have h0w:wa[n]=(Proto.Wait (Proto.mk st va wa ho di bu po))[n]:=rfl
  cases hbk:Wait.Back w
  ·have ask:=zvu (p:=Proto.mk st va wa ho di bu po) (n:=n) hn (by rw [← h0w,hw];exact hbk)
   rw [← h0w,hw,hline rfl] at ask
   obtain ⟨q,e,q1,q2,q3⟩:=zcO h (Msg.mk (if Wait.Write w=true then 2 else 1) (w64 ((n:Int) + 1)) 0 (l:Int) (w64 ((n:Int) + 1)) 0 false 0 0) u0 u0
   simp only [ps,pv,pw,ph,pd,pb,pp] at q1 q2
   have g1:=zbD h q3
   simp only [ps,pv,pw,ph,pd,pb,pp] at g1
   refine ⟨q,st,va,wa,?_,?_,g1⟩
   ·simp only [wH0,vH0,wA0,if_false,if_true,wC0,hbk,hline rfl]
    cases hwr:Wait.Write w
    ·rw [hwr] at q1
     simp only [wA0,if_false] at q1
     simp only [cond_false,q1,wC0]
    ·rw [hwr] at q1
     simp only [if_true] at q1
     simp only [cond_true,Msg.setKind,Msg.mk] at q1 ⊢
     simp only [q1,wC0]
   ·simp only [wH0,vH0,vD1,Bool.and_false,Bool.and_self,wA0,if_false,if_true,ask,q2,wC0,za6,zai]
  ·cases ho1:decide (1<s)
   ·refine ⟨po,st,va,wa.set n w00,?_,?_,gw⟩
    ·simp only [wH0,vH0,wA0,if_false,if_true,wC0,zaD hn,ho1]
    ·simp only [hlt2,ho1,vH0,Bool.and_self,if_true,wi,wC0,za6,zai]
   ·have ask:=zqn (p:=Proto.mk st va wa ho di bu po) (n:=n) (l:=l) hn (by rw [← h0w,hw];exact hbk) (by rw [← h0w,hw];exact hline rfl) h3 h4
    obtain ⟨q,e,q1,q2,q3⟩:=zcO h (Msg.mk 8 (w64 ((n:Int) + 1)) 0 (l:Int) 0 0 false 0 va[n][l]) u0 hvu
    simp only [ps,pv,pw,ph,pd,pb,pp] at q1 q2
    have g1:=zbD h q3
    simp only [ps,pv,pw,ph,pd,pb,pp] at g1
    refine ⟨q,st,va,wa,?_,?_,g1⟩
    ·simp only [wH0,vH0,wA0,if_false,if_true,wC0,hbk,hline rfl,ho1]
     simp only [Msg.setKind,Msg.setFor,Msg.setVal,Msg.mk,Msg.Line] at q1 ⊢
     simp only [zaz h3,zaz h4,zac h3,zac h4,wC0,q1]
    ·simp only [pv] at ask
     simp only [hlt2,ho1,wH0,vH0,vD1,Bool.and_false,Bool.and_self,wA0,if_false,if_true,ask,q2,wC0,za6,zai]
 simp only [k10,vF0,wA0,if_false]
 by_cases k9:Msg.Kind m=9
 ·simp only [k9,vE0,if_true,hw00]
  cases b
  ·simp only [vH0,vD1,wA0,if_false,zai,if_true,wC0]
   exact ⟨_,_,_,_,rfl,rfl,h⟩
  cases hbk:Wait.Back w
  ·simp only [vH0,vD1,Bool.and_false,wA0,if_false,zai,if_true,wC0,hbk]
   exact ⟨_,_,_,_,rfl,rfl,h⟩
  have e1:=zgf h (n:=n) (l:=l) h1 h2 0
  have g1:=zd5 h (n:=n) h1 l 0 (fun _=>rfl)
  simp only [ps,pv,pw,ph,pd,pb,pp] at e1 g1
  have e2:=ziX g1 (n:=n) hn w00
  have g2:=zfW g1 n (w:=w00) u0 (fun _=>zqO _)
  simp only [ps,pv,pw,ph,pd,pb,pp] at e2 g2
  refine ⟨po,_,va,_,?_,?_,g2⟩
  ·simp only [if_true,wC0,hbk,zaD h2,zaD h1,zaD hn]
  ·simp only [Bool.and_self,if_true,e1,e2,wC0,za6,zai]
 simp only [k9,vF0,wA0,if_false,zai,wC0]
 exact ⟨_,_,_,_,rfl,rfl,h⟩
end Go.Proofs.YtdfohlonacbelaaGreat
