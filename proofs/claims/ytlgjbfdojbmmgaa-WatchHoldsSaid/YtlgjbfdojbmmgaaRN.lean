/- Deliveries of words, of notes that a line is lost, and of answers to these, as changes of one line; every delivery. No condition. -/
import Derived.Test.YtlgjbfdojbmmgaaRK
set_option linter.unusedSimpArgs false
set_option linter.unusedVariables false
set_option maxRecDepth 100000
namespace Go.Proofs.Ytlgjbfdojbmmgaa
open Go.SX
section
variable {c h:Nat} {A:Nat→AL} {W:Nat→Wait} {ms:List Msg} {v:Nat→Int}
theorem zyW {A:AL}{v:Int}{c k:Nat}(i:Iv c A v) (h:A.pd k≠0):k<c:=by
 apply Classical.byContradiction
 intro q
 exact h (i.rg k (by omega)).2.2.2.1
theorem zwA {A:AL}{l n:Nat}(hb:A.bu=n + 1) (hp:A.ph≤4):wOf A l n=Wait.mk ((l:Int) + 1) (decide (A.wk n=2)) false (decide (A.ph=4)) (decide (A.ph=4)&&A.own) (decide (A.ph=4)&&A.kp) (if A.ph=4 then (A.ac:Int) else 0) (A.got:Int) (if A.ph=4 then A.pv else 0):=by unfold wOf;rw [if_pos ⟨hb,hp⟩]
theorem zzs (K:Ok c h A W ms v) {k l:Nat}(hk:k<ms.length) (hr:ms.length + c≤64) (hl:l<h) {m:Msg}(hm:ms[k]=m) {n:Nat}(h0:(A l).pd n=1) (em:pdS (A l) l n=some m):Step c h A W ms v k m:=by
 have c4:=K.c4
 have h16:=K.h16
 have he:=zby hk
 have i:=(K.lv l hl).iv
 have hn:=zyW i (k:=n) (by omega)
 have bz:=i.bz
 obtain ⟨w,hw⟩:∃ w,(A l).bu=w + 1:=⟨(A l).bu - 1,by have:=(i.p1 n (by omega)).2.2.1;omega⟩
 have em':m=zAC l w n:=by rw [zwb h0,hw] at em;exact (Option.some.inj em).symm
 have t1:Msg.Line m=(l:Int):=by rw [em'];rfl
 have t3:Msg.For m=(w:Int) + 1:=by rw [em'];rfl
 have ev:Ev c (A l) { A l with pd:=up (A l).pd n 2,st:=up (A l).st n (if (A l).st n=1 then 0 else (A l).st n) }:=.inv n hn h0
 have pB:pdS { A l with pd:=up (A l).pd n 2,st:=up (A l).st n (if (A l).st n=1 then 0 else (A l).st n) } l n=some (Msg.mk 5 ((n:Int) + 1) ((w:Int) + 1) (l:Int) 0 0 false 0 0):=by
  refine (zwo (A:={ A l with pd:=up (A l).pd n 2,st:=up (A l).st n (if (A l).st n=1 then 0 else (A l).st n) }) zah).trans ?_
  show some (Msg.mk 5 ((n:Int) + 1) ((((A l).bu - 1:Nat):Int) + 1) (l:Int) 0 0 false 0 0)=_
  rw [hw];rfl
 have cn:=zxv (A:=A l) (B:={ A l with pd:=up (A l).pd n 2,st:=up (A l).st n (if (A l).st n=1 then 0 else (A l).st n) }) (l:=l) (n:=n) (by omega) (fun _=>rfl) (fun j q=>zxP (zbL q) rfl)
 rw [em,pB,show phS { A l with pd:=up (A l).pd n 2,st:=up (A l).st n (if (A l).st n=1 then 0 else (A l).st n) } l=phS (A l) l from rfl] at cn
 have hc:=zzw (c:=c) (h:=h) (S:=fun n l=>((A l).st n:Int)) (V:=fun n l=>(A l).va n) (W:=W) (r:=ms.eraseIdx k) hn hl c4 h16 (by omega) t1 (by rw [em'];rfl) (by omega)
 rw [t3] at hc
 refine ⟨l,_,W,[Msg.mk 5 ((n:Int) + 1) ((w:Int) + 1) (l:Int) 0 0 false 0 0],hl,ev,?_,K.dl hk hr hl (by rw [hm];exact t1) ev (.same (fun _=>rfl) fun _ _=>rfl) (fun x=>by rw [hm,cnt1];have:=cn x;omega) (zeW (zyI (w:=w) (by omega) (by omega) (by omega)) rfl) (by simp),.inl ?_⟩
 ·refine zlT K hk hr hl hm hn t1 (by rw [em'];rfl) (by rw [em'];show (0:Int)≤_;omega) (by omega) hc (fun i j=>?_) (zcD rfl) rfl rfl rfl rfl
  by_cases q:(A l).st n=1
  ·rw [if_pos (show (((A l).st n:Nat):Int)=1 by omega)]
   refine zra (x:=0) ?_ i j
   show up (A l).st n (if (A l).st n=1 then 0 else (A l).st n)=_
   rw [if_pos q]
  ·rw [if_neg (show ¬ (((A l).st n:Nat):Int)=1 by omega)]
   refine zgq ?_ i j
   show up (A l).st n (if (A l).st n=1 then 0 else (A l).st n)=_
   rw [if_neg q]
   funext k;unfold up;split<;>simp_all
 ·have q:=zw0 (f:=(A l).pd) (n:=n) (t:=2) (by omega)
  rw [h0,show dwt 1=2 from rfl,show dwt 2=1 from rfl] at q
  unfold phi
  dsimp only
  omega
theorem zux {l n:Nat}{B:AL}{a b:Bool}(ha:a=decide (B.wk n=2)) (hb:b=B.own) (hs:B.st=(A l).st) (i j:Nat):up2 (fun n l=>((A l).st n:Int)) n l (bif a then (3:Int) else bif b then (2:Int) else (1:Int)) i j=((up A l (zeL B n) j).st i:Int):=by
 have e:(bif a then (3:Int) else bif b then (2:Int) else (1:Int))=((if B.wk n=2 then 3 else if B.own=true then 2 else 1:Nat):Int):=by
  rw [ha,hb]
  by_cases q:B.wk n=2
  ·rw [vC0 q,if_pos q];rfl
  ·rw [vD0 q,if_neg q];cases B.own<;>rfl
 rw [e]
 exact zra (B:=zeL B n) (by show up B.st n _=_;rw [hs]) i j
theorem zuL {l n:Nat}{B:AL}{k:Bool}{x:Int}(hk:k=B.kp) (hx:x=B.pv) (hs:B.va=(A l).va) (i j:Nat):(if k=true then (fun n l=>(A l).va n) else up2 (fun n l=>(A l).va n) n l x) i j=(up A l (zeL B n) j).va i:=by
 rw [hk,hx]
 by_cases q:B.kp=true
 ·rw [if_pos q]
  refine zcD (B:=zeL B n) ?_ i j
  show up B.va n (if B.kp=true then B.va n else B.pv)=_
  rw [if_pos q,← hs]
  funext k;unfold up;split<;>simp_all
 ·rw [if_neg q]
  refine zyM (B:=zeL B n) ?_ i j
  show up B.va n (if B.kp=true then B.va n else B.pv)=_
  rw [if_neg q,hs]
theorem zyV (K:Ok c h A W ms v) {k l:Nat}(hk:k<ms.length) (hr:ms.length + c≤64) (hl:l<h) {m:Msg}(hm:ms[k]=m) (h0:(A l).ph=3) (em:phS (A l) l=some m):Step c h A W ms v k m:=by
 have c4:=K.c4
 have h16:=K.h16
 have he:=zby hk
 have L:=K.lv l hl
 have i:=L.iv
 have bz:=i.bz
 have sc:=L.sc
 obtain ⟨n,hb⟩:∃ n,(A l).bu=n + 1:=⟨(A l).bu - 1,by omega⟩
 have hn:n<c:=by omega
 have ho:=i.op n hb (by omega)
 have hw:(A l).wk n≠0:=by omega
 have em':m=zzU (A l).sr n l (A l).ac (A l).own (A l).kp (A l).pv:=by
  unfold phS at em
  rw [if_neg (by omega),if_neg (by omega),if_pos h0,hb] at em
  exact (Option.some.inj em).symm
 have t1:Msg.Line m=(l:Int):=by rw [em'];rfl
 have t2:Msg.To m=(n:Int) + 1:=by rw [em'];rfl
 have t3:Msg.From m=((A l).sr:Int):=by rw [em'];rfl
 have t4:Msg.For m=0:=by rw [em'];rfl
 have t5:decide (Msg.Num m=1)=(A l).kp:=by
  rw [em']
  show decide ((if (A l).kp=true then (1:Int) else 0)=1)=_
  cases (A l).kp<;>rfl
 have hW:W n=Wait.mk ((l:Int) + 1) (decide ((A l).wk n=2)) false false false false 0 ((A l).got:Int) 0:=by
  rw [K.w1 l n hl hn hw]
  unfold wOf
  rw [if_pos ⟨hb,by omega⟩,vD0 (show ¬ (A l).ph=4 by omega),if_neg (by omega),if_neg (by omega)]
  rfl
 have hw1:up W n (Wait.mk (Wait.Line (W n)) (Wait.Write (W n)) false true (Msg.Own m) (decide (Msg.Num m=1)) (Msg.Acks m) (Wait.Got (W n)) (Msg.Val m))=up W n (wOf { A l with ph:=4 } l n):=by
  rw [t5,hW,em']
  unfold wOf
  rw [if_pos ⟨hb,wG0 4⟩]
  rfl
 have hc:=zzB (c:=c) (h:=h) (S:=fun n l=>((A l).st n:Int)) (V:=fun n l=>(A l).va n) (W:=W) (r:=ms.eraseIdx k) (m:=m) hn hl h16 t1 (by rw [em'];rfl) (by rw [hW];rfl) (by rw [hW];rfl) (by rw [hW];rfl)
 rw [hw1] at hc
 have wo:wOf { A l with ph:=4 } l n=Wait.mk ((l:Int) + 1) (decide ((A l).wk n=2)) false true (A l).own (A l).kp ((A l).ac:Int) ((A l).got:Int) (A l).pv:=by
  unfold wOf
  rw [if_pos ⟨hb,wG0 4⟩]
  rfl
 by_cases hg:(A l).got<(A l).ac
 ·have ev:Ev c (A l) { A l with ph:=4 }:=.dataw n hn h0 hb hg
  have cn:=zt6 (A:=A l) (B:={ A l with ph:=4 }) (l:=l) (fun _=>rfl) (fun _=>rfl)
  rw [em,znx (A:={ A l with ph:=4 }) (.inr rfl)] at cn
  rw [zql hn (.inr (by rw [zah,wo];show ((A l).got:Int)<((A l).ac:Int);omega))] at hc
  refine ⟨l,_,_,[],hl,ev,?_,K.dl hk hr hl (by rw [hm];exact t1) ev (.one n hw (fun _=>rfl) fun j q _=>zsv rfl (by show (A l).bu≠_;omega) (by omega)) (fun x=>by rw [hm];exact cn x) (fun y hy=>by cases hy) (by simp),.inl ?_⟩
  ·exact zlT K hk hr hl hm hn t1 t2 (by omega) (by omega) (by rw [vN0];exact hc) (zgq rfl) (zcD rfl) rfl rfl rfl rfl
  ·unfold phi pwt
   dsimp only
   rw [h0]
   show s4 _ + 2 + _<s4 _ + 3 + _
   omega
 ·have ev:Ev c (A l) (zeL { A l with ph:=4 } n):=.datad n hn h0 hb (by omega)
  have cn:=zt6 (A:=A l) (B:=zeL { A l with ph:=4 } n) (l:=l) (fun j=>by
   by_cases q:j=n
   ·subst q
    rw [zjM ho.2]
    exact zjM ho.2
   ·exact zjd rfl (zbL q) rfl) (fun _=>rfl)
  rw [em,show phS (zeL { A l with ph:=4 } n) l=some (zjG n l) by show some (zjG ((A l).bu - 1) l)=_;rw [hb];rfl] at cn
  rw [zpZ hn hl c4 h16 (by omega) (by rw [zah,wo];rfl) (by rw [zah,wo];show ¬ ((A l).got:Int)<((A l).ac:Int);omega) (by rw [zah,wo];rfl),zy7,zah,wo] at hc
  refine ⟨l,_,_,[zjG n l],hl,ev,?_,K.dl hk hr hl (by rw [hm];exact t1) ev (.over n zah hw (fun j q=>zbL q) fun j q _=>zsv (zbL q) (by show (A l).bu≠_;omega) (by omega)) (fun x=>by rw [hm,cnt1];exact cn x) (zeW (zvg (by omega) (by omega)) rfl) (by simp),.inl ?_⟩
  ·exact zlT K hk hr hl hm hn t1 t2 (by omega) (by omega) hc (zux (B:={ A l with ph:=4 }) rfl rfl rfl) (zuL (B:={ A l with ph:=4 }) rfl rfl rfl) rfl rfl rfl rfl
  ·unfold phi pwt zeL
   dsimp only
   rw [h0]
   show s4 _ + 1 + _<s4 _ + 3 + _
   omega
theorem zzr (K:Ok c h A W ms v) {k l:Nat}(hk:k<ms.length) (hr:ms.length + c≤64) (hl:l<h) {m:Msg}(hm:ms[k]=m) {p:Nat}(h0:(A l).pd p=2) (em:pdS (A l) l p=some m):Step c h A W ms v k m:=by
 have c4:=K.c4
 have h16:=K.h16
 have he:=zby hk
 have L:=K.lv l hl
 have i:=L.iv
 have bz:=i.bz
 have a4:=i.a4
 have hp:=zyW i (k:=p) (by omega)
 obtain ⟨p1,p2,p3,p4⟩:=i.p1 p (by omega)
 obtain ⟨n,hb⟩:∃ n,(A l).bu=n + 1:=⟨(A l).bu - 1,by omega⟩
 have hn:n<c:=by omega
 have ho:=i.op n hb (by omega)
 have hw2:=p4 n hb
 have hw:(A l).wk n≠0:=by omega
 have em':m=Msg.mk 5 ((p:Int) + 1) ((n:Int) + 1) (l:Int) 0 0 false 0 0:=by
  rw [zwo h0,hb] at em
  exact (Option.some.inj em).symm
 have t1:Msg.Line m=(l:Int):=by rw [em'];rfl
 have t2:Msg.To m=(n:Int) + 1:=by rw [em'];rfl
 have t3:Msg.From m=(p:Int) + 1:=by rw [em'];rfl
 have t4:Msg.For m=0:=by rw [em'];rfl
 have hWn:=K.w1 l n hl hn hw
 have wl:Wait.Line (W n)=(l:Int) + 1:=by rw [hWn];exact zhj _ _ _
 have wg:Wait.Got (W n)=((A l).got:Int):=by rw [hWn];unfold wOf;rw [if_pos ⟨hb,p1⟩];rfl
 have hw1:up W n (Wait.setGot (W n) (Wait.Got (W n) + 1))=up W n (wOf { A l with pd:=up (A l).pd p 0,got:=(A l).got + 1 } l n):=by
  rw [wg,hWn,zwA hb p1,zwA (A:={ A l with pd:=up (A l).pd p 0,got:=(A l).got + 1 }) hb p1]
  rfl
 have hc:=zzg (c:=c) (h:=h) (S:=fun n l=>((A l).st n:Int)) (V:=fun n l=>(A l).va n) (W:=W) (r:=ms.eraseIdx k) (m:=m) hn hl h16 t1 (by rw [em'];rfl) wl (by rw [hWn];unfold wOf;rw [if_pos ⟨hb,p1⟩];exact vC0 hw2) (by omega)
 rw [hw1] at hc
 have wo:wOf { A l with pd:=up (A l).pd p 0,got:=(A l).got + 1 } l n=Wait.mk ((l:Int) + 1) (decide ((A l).wk n=2)) false (decide ((A l).ph=4)) (decide ((A l).ph=4)&&(A l).own) (decide ((A l).ph=4)&&(A l).kp) (if (A l).ph=4 then ((A l).ac:Int) else 0) (((A l).got + 1:Nat):Int) (if (A l).ph=4 then (A l).pv else 0):=by
  unfold wOf
  rw [if_pos ⟨hb,p1⟩]
 have hd:=zw0 (f:=(A l).pd) (n:=p) (t:=0) (by omega)
 rw [h0,show dwt 0=0 from rfl,show dwt 2=1 from rfl] at hd
 by_cases hg:(A l).ph=4→(A l).got + 1<(A l).ac
 ·have ev:Ev c (A l) { A l with pd:=up (A l).pd p 0,got:=(A l).got + 1 }:=.ackw p n hp hn h0 hb hg
  have cn:=zxv (A:=A l) (B:={ A l with pd:=up (A l).pd p 0,got:=(A l).got + 1 }) (l:=l) (n:=p) (by omega) (fun _=>rfl) (fun j q=>zxP (zbL q) rfl)
  rw [em,zmk (A:={ A l with pd:=up (A l).pd p 0,got:=(A l).got + 1 }) zah,show phS { A l with pd:=up (A l).pd p 0,got:=(A l).got + 1 } l=phS (A l) l from rfl] at cn
  rw [zql hn (by
   rw [zah,wo]
   by_cases q:(A l).ph=4
   ·right
    show (((A l).got + 1:Nat):Int)<(if (A l).ph=4 then ((A l).ac:Int) else 0)
    rw [if_pos q]
    have:=hg q
    omega
   ·left
    exact vD0 q)] at hc
  refine ⟨l,_,_,[],hl,ev,?_,K.dl hk hr hl (by rw [hm];exact t1) ev (.one n hw (fun _=>rfl) fun j q _=>zsv rfl (by show (A l).bu≠_;omega) (by omega)) (fun x=>by rw [hm,List.count_nil];have:=cn x;rw [zmj] at this;omega) (fun y hy=>by cases hy) (by simp),.inl ?_⟩
  ·exact zlT K hk hr hl hm hn t1 t2 (by omega) (by omega) (by rw [vN0];exact hc) (zgq rfl) (zcD rfl) rfl rfl rfl rfl
  ·unfold phi
   dsimp only
   omega
 ·have q4:(A l).ph=4:=by
   apply Classical.byContradiction
   intro q
   exact hg fun r=>absurd r q
  have qg:(A l).ac≤(A l).got + 1:=by
   apply Classical.byContradiction
   intro q
   exact hg fun _=>by omega
  have ev:Ev c (A l) (zeL { A l with pd:=up (A l).pd p 0,got:=(A l).got + 1 } n):=.ackd p n hp hn h0 hb q4 qg
  have cn:=zxv (A:=A l) (B:=zeL { A l with pd:=up (A l).pd p 0,got:=(A l).got + 1 } n) (l:=l) (n:=p) (by omega) (fun j=>by
   by_cases q:j=n
   ·subst q
    rw [zjM ho.2]
    exact zjM ho.2
   ·exact zjd rfl (zbL q) rfl) (fun j q=>zxP (zbL q) rfl)
  rw [em,zmk (A:=zeL { A l with pd:=up (A l).pd p 0,got:=(A l).got + 1 } n) zah,znx (A:=A l) (.inr q4),show phS (zeL { A l with pd:=up (A l).pd p 0,got:=(A l).got + 1 } n) l=some (zjG n l) by show some (zjG ((A l).bu - 1) l)=_;rw [hb];rfl] at cn
  rw [zpZ hn hl c4 h16 (by omega) (by rw [zah,wo];exact vC0 q4) (by rw [zah,wo];show ¬ (((A l).got + 1:Nat):Int)<(if (A l).ph=4 then ((A l).ac:Int) else 0);rw [if_pos q4];omega) (by rw [zah,wo];rfl),zy7,zah,wo] at hc
  refine ⟨l,_,_,[zjG n l],hl,ev,?_,K.dl hk hr hl (by rw [hm];exact t1) ev (.over n zah hw (fun j q=>zbL q) fun j q _=>zsv (zbL q) (by show (A l).bu≠_;omega) (by omega)) (fun x=>by rw [hm,cnt1];have:=cn x;simp only [zmj] at this;omega) (zeW (zvg (by omega) (by omega)) rfl) (by simp),.inl ?_⟩
  ·exact zlT K hk hr hl hm hn t1 t2 (by omega) (by omega) hc (zux (B:={ A l with pd:=up (A l).pd p 0,got:=(A l).got + 1 }) rfl (by show (decide ((A l).ph=4)&&(A l).own)=(A l).own;rw [vC0 q4];rfl) rfl) (zuL (B:={ A l with pd:=up (A l).pd p 0,got:=(A l).got + 1 }) (by show (decide ((A l).ph=4)&&(A l).kp)=(A l).kp;rw [vC0 q4];rfl) (by show (if (A l).ph=4 then (A l).pv else 0)=(A l).pv;rw [if_pos q4]) rfl) rfl rfl rfl rfl
  ·unfold phi pwt zeL
   dsimp only
   rw [q4]
   show s4 _ + 1 + _<s4 _ + 2 + _
   omega
theorem step (K:Ok c h A W ms v) {k:Nat}(hk:k<ms.length) (hr:ms.length + c≤64):Step c h A W ms v k ms[k]:=by
 obtain ⟨l,hl,hm⟩:=K.lo _ (List.getElem_mem hk)
 have i:=(K.lv l hl).iv
 have hp:0<cA (A l) l ms[k]:=by
  rw [← K.ct l hl _ hm]
  exact List.count_pos_iff.2 (List.getElem_mem hk)
 rcases zwK hp with ⟨n,hn,e⟩|e|⟨n,hn,e⟩
 ·have h0:(A l).tk n≠0:=fun q=>by rw [zjM q] at e;cases e
  have hc:n<c:=by
   apply Classical.byContradiction
   intro q
   exact h0 (i.rg n (by omega)).2.2.1
  have h3:=(i.s4 n).2.2.1
  have hw3:=(i.s4 n).2.1
  have hw0:(A l).wk n≠0:=fun q=>h0 (i.t0 n q)
  by_cases h1:(A l).tk n=1
  ·by_cases hb:(A l).bu=0
   ·have:(A l).wk n=1∨(A l).wk n=2∨(A l).wk n=3:=by omega
    rcases this with q|q|q
    ·exact zyj K hk hr hl rfl hc h1 q hb e
    ·exact zxp K hk hr hl rfl hc h1 q hb e
    ·exact s_put K hk hr hl rfl hc h1 q hb e
   ·exact zyX K hk hr hl rfl hc h1 hb e
  ·by_cases h2:(A l).tk n=2
   ·exact zzj K hk hr hl rfl hc h2 e
   ·exact zzF K hk hr hl rfl hc (by omega) e
 ·by_cases h3:(A l).ph=3
  ·exact zyV K hk hr hl rfl h3 e
  by_cases h5:(A l).ph=5
  ·exact zy1 K hk hr hl rfl h5 e
  refine zzp K hk hr hl rfl ?_ e
  unfold phS at e
  by_cases h1:(A l).ph=1
  ·exact .inl h1
  by_cases h2:(A l).ph=2
  ·exact .inr h2
  rw [if_neg h1,if_neg h2,if_neg h3,if_neg h5] at e
  cases e
 ·have h0:(A l).pd n≠0:=fun q=>by rw [zmk q] at e;cases e
  have:=(i.s4 n).2.2.2
  by_cases h1:(A l).pd n=1
  ·exact zzs K hk hr hl rfl h1 e
  ·exact zzr K hk hr hl rfl (show (A l).pd n=2 by omega) e
end
end Go.Proofs.Ytlgjbfdojbmmgaa
