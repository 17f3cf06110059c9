/- Deliveries at a core, as changes of one line. No condition. -/
import Derived.Test.YtlgjbfdojbmmgaaRJ
set_option linter.unusedSimpArgs false
set_option linter.unusedVariables false
set_option maxRecDepth 100000
namespace Go.Proofs.Ytlgjbfdojbmmgaa
open Go.SX
theorem zx1 {f:Nat→Nat}{n x:Nat}(i:Nat):((up f n x i:Nat):Int)=up (fun i=>(f i:Int)) n (x:Int) i:=by unfold up;split<;>rfl
theorem zy7 {α:Type}{f:Nat→α}{n:Nat}{x y:α}:up (up f n x) n y=up f n y:=by funext k;unfold up;split<;>rfl
theorem zxn {A B:AL}{l k:Nat}(h1:B.wk k=A.wk k) (h2:B.bu=A.bu) (h3:B.ph=A.ph) (h4:B.own=A.own) (h5:B.kp=A.kp) (h6:B.ac=A.ac) (h7:B.got=A.got) (h8:B.pv=A.pv):wOf B l k=wOf A l k:=by unfold wOf;rw [h1,h2,h3,h4,h5,h6,h7,h8]
theorem zsv {A B:AL}{l k:Nat}(h1:B.wk k=A.wk k) (h2:B.bu≠k + 1) (h3:A.bu≠k + 1):wOf B l k=wOf A l k:=by unfold wOf;rw [if_neg (fun q=>h2 q.1),if_neg (fun q=>h3 q.1),h1]
theorem zyu {A B:AL}{l k:Nat}(h1:B.wk k=A.wk k) (h2:B.bu=A.bu) (h3:A.ph≤3) (h4:B.ph≤3) (h7:B.got=A.got):wOf B l k=wOf A l k:=by
 unfold wOf
 rw [h1,h2,h7,vD0 (show ¬ B.ph=4 by omega),vD0 (show ¬ A.ph=4 by omega)]
 simp only [show ¬ B.ph=4 by omega,show ¬ A.ph=4 by omega,show A.ph≤4 by omega,show B.ph≤4 by omega,if_false,vC1]
theorem zyI {n w l:Nat}(hn:n<4) (hw:w<4) (hl:l<16):zdo (Msg.mk 5 ((n:Int) + 1) ((w:Int) + 1) (l:Int) 0 0 false 0 0):=mo _ _ _ _ _ _ _ _ _ (by omega) (by omega) (by omega) (by omega) (by omega) (by omega) u0 u0
theorem zvg {n l:Nat}(hn:n<4) (hl:l<16):zdo (zjG n l):=mo _ _ _ _ _ _ _ _ _ (by omega) (by omega) (by omega) (by omega) (by omega) (by omega) u0 u0
section
variable {c h:Nat} {A:Nat→AL} {W:Nat→Wait} {ms:List Msg} {v:Nat→Int}
theorem zgq {l:Nat}{B:AL}(h:B.st=(A l).st) (i j:Nat):(fun n l=>((A l).st n:Int)) i j=((up A l B j).st i:Int):=congrFun (zaK (fun A i=>(A.st i:Int)) (by show (fun i=>(B.st i:Int))=_;rw [h]) j) i
theorem zcD {l:Nat}{B:AL}(h:B.va=(A l).va) (i j:Nat):(fun n l=>(A l).va n) i j=(up A l B j).va i:=congrFun (zaK (fun A i=>A.va i) h j) i
theorem zra {l n x:Nat}{B:AL}(h:B.st=up (A l).st n x) (i j:Nat):up2 (fun n l=>((A l).st n:Int)) n l (x:Int) i j=((up A l B j).st i:Int):=zwX (fun A i=>(A.st i:Int)) (fun i=>by rw [h];exact zx1 i) i j
theorem zyM {l n:Nat}{x:Int}{B:AL}(h:B.va=up (A l).va n x) (i j:Nat):up2 (fun n l=>(A l).va n) n l x i j=(up A l B j).va i:=zwX (fun A i=>A.va i) (fun i=>by rw [h]) i j
theorem zBd (K:Ok c h A W ms v) {l n:Nat}(hl:l<h) (hn:n<c) (h0:(A l).tk n≠0):(A l).wk n≠0∧W n=zz9 l (decide ((A l).wk n=2)) (decide ((A l).wk n=3)):=by
 have i:=(K.lv l hl).iv
 have hw:(A l).wk n≠0:=fun q=>h0 (i.t0 n q)
 refine ⟨hw,?_⟩
 rw [K.w1 l n hl hn hw]
 exact if_neg fun q=>h0 (i.op n q.1 q.2).2
theorem zzj (K:Ok c h A W ms v) {k l:Nat}(hk:k<ms.length) (hr:ms.length + c≤64) (hl:l<h) {m:Msg}(hm:ms[k]=m) {n:Nat}(hn:n<c) (h0:(A l).tk n=2) (em:tkS (A l) l n=some m):Step c h A W ms v k m:=by
 have c4:=K.c4
 have h16:=K.h16
 have he:=zby hk
 have i:=(K.lv l hl).iv
 have hu:=(K.lv l hl).uv.1
 obtain ⟨hw,hW⟩:=zBd K hl hn (by omega)
 have em':m=zAs n l:=by rw [zx8 h0] at em;exact (Option.some.inj em).symm
 have t1:Msg.Line m=(l:Int):=by rw [em'];rfl
 have t2:Msg.To m=(n:Int) + 1:=by rw [em'];rfl
 have t3:Msg.From m=0:=by rw [em'];rfl
 have t4:Msg.For m=0:=by rw [em'];rfl
 have t5:Msg.Kind m=10:=by rw [em'];rfl
 have hph:∀ t,t=1→s4 (fun k=>twt (up (A l).tk n t k))=s4 (fun k=>twt ((A l).tk k)):=fun t ht=>by
  have q:=znD (f:=(A l).tk) (n:=n) (t:=t) (by omega)
  rw [h0,ht,show twt 1=13 from rfl,show twt 2=13 from rfl] at q
  rw [ht]
  omega
 by_cases h3:(A l).wk n=3
 ·by_cases hs:2≤(A l).st n
  ·have ev:Ev c (A l) { A l with tk:=up (A l).tk n 1,tv:=up (A l).tv n ((A l).va n) }:=.again3 n hn h0 h3 hs
   have tB:tkS { A l with tk:=up (A l).tk n 1,tv:=up (A l).tv n ((A l).va n) } l n=some (zAd n l ((A l).va n)):=by
    exact (zqK (A:={ A l with tk:=up (A l).tk n 1,tv:=up (A l).tv n ((A l).va n) }) zah h3).trans (congrArg (fun x=>some (zAd n l x)) zah)
   have cn:=zqy (A:=A l) (B:={ A l with tk:=up (A l).tk n 1,tv:=up (A l).tv n ((A l).va n) }) (l:=l) (n:=n) (by omega) (fun j q=>zjd (zbL q) rfl (zbL q)) rfl (fun _=>rfl)
   rw [em,tB] at cn
   refine ⟨l,_,W,[zAd n l ((A l).va n)],hl,ev,?_,K.dl hk hr hl (by rw [hm];exact t1) ev (.same (fun _=>rfl) fun _ _=>rfl) (fun x=>by rw [hm,cnt1];exact cn x) (zeW (zn9 (by omega) (by omega) (hu n)) rfl) (by simp),.inr ⟨?_,_,rfl,.inr ⟨t5,.inr (.inr rfl)⟩⟩⟩
   ·exact zlT K hk hr hl hm hn t1 t2 (by omega) (by omega) (zye hn hl c4 h16 (by omega) t1 t5 (by rw [hW];rfl) (by rw [hW,h3];rfl) (by rw [hW];rfl) (hu n) (by show (1:Int)<((A l).st n:Int);omega)) (zgq rfl) (zcD rfl) rfl rfl rfl rfl
   ·have:=hph 1 rfl
    unfold phi
    dsimp only
    omega
  ·have h00:(A l).st n=0:=by have:=i.k3 n h3;omega
   have ev:Ev c (A l) { A l with tk:=up (A l).tk n 0,wk:=up (A l).wk n 0 }:=.lost n hn h0 h3 h00
   have cn:=zqy (A:=A l) (B:={ A l with tk:=up (A l).tk n 0,wk:=up (A l).wk n 0 }) (l:=l) (n:=n) (by omega) (fun j q=>zjd (zbL q) (zbL q) rfl) rfl (fun _=>rfl)
   rw [em,zjM (A:={ A l with tk:=up (A l).tk n 0,wk:=up (A l).wk n 0 }) zah] at cn
   refine ⟨l,_,up W n w00,[],hl,ev,?_,K.dl hk hr hl (by rw [hm];exact t1) ev (.over n zah hw (fun j q=>zbL q) fun j q _=>zxn (zbL q) rfl rfl rfl rfl rfl rfl rfl) (fun x=>by rw [hm];exact cn x) (fun y hy=>by cases hy) (by simp),.inl ?_⟩
   ·exact zlT K hk hr hl hm hn t1 t2 (by omega) (by omega) (by rw [vN0];exact zxz hn hl h16 t1 t5 (by rw [hW];rfl) (by rw [hW,h3];rfl) (by rw [hW];rfl) (by show ¬ (1:Int)<((A l).st n:Int);omega)) (zgq rfl) (zcD rfl) rfl rfl rfl rfl
   ·have q:=znD (f:=(A l).tk) (n:=n) (t:=0) (by omega)
    rw [h0,show twt 0=0 from rfl,show twt 2=13 from rfl] at q
    unfold phi
    dsimp only
    omega
 ·have ev:Ev c (A l) { A l with tk:=up (A l).tk n 1 }:=.again n hn h0 h3
  have tB:tkS { A l with tk:=up (A l).tk n 1 } l n=some (zAe n l (decide ((A l).wk n=2))):=zlB zah h3
  have cn:=zqy (A:=A l) (B:={ A l with tk:=up (A l).tk n 1 }) (l:=l) (n:=n) (by omega) (fun j q=>zjd (zbL q) rfl rfl) rfl (fun _=>rfl)
  rw [em,tB] at cn
  refine ⟨l,_,W,[zAe n l (decide ((A l).wk n=2))],hl,ev,?_,K.dl hk hr hl (by rw [hm];exact t1) ev (.same (fun _=>rfl) fun _ _=>rfl) (fun x=>by rw [hm,cnt1];exact cn x) (zeW (zot (by omega) (by omega) _) rfl) (by simp),.inr ⟨?_,_,rfl,.inr ⟨t5,?_⟩⟩⟩
  ·have hc:=zxK (c:=c) (h:=h) (S:=fun n l=>((A l).st n:Int)) (V:=fun n l=>(A l).va n) (W:=W) (r:=ms.eraseIdx k) hn hl c4 h16 (by omega) t1 t5 (by rw [hW];rfl) (by rw [hW];exact vD0 h3) (by rw [hW];rfl)
   rw [show Wait.Write (W n)=decide ((A l).wk n=2) by rw [hW];rfl] at hc
   exact zlT K hk hr hl hm hn t1 t2 (by omega) (by omega) hc (zgq rfl) (zcD rfl) rfl rfl rfl rfl
  ·have:=hph 1 rfl
   unfold phi
   dsimp only
   omega
  ·cases decide ((A l).wk n=2)
   ·exact .inl rfl
   ·exact .inr (.inl rfl)
theorem zzF (K:Ok c h A W ms v) {k l:Nat}(hk:k<ms.length) (hr:ms.length + c≤64) (hl:l<h) {m:Msg}(hm:ms[k]=m) {n:Nat}(hn:n<c) (h0:(A l).tk n=3) (em:tkS (A l) l n=some m):Step c h A W ms v k m:=by
 have c4:=K.c4
 have h16:=K.h16
 have i:=(K.lv l hl).iv
 obtain ⟨hw,hW⟩:=zBd K hl hn (by omega)
 have h3:=(i.t3 n h0).1
 have em':m=zAk n l:=by rw [zwr h0] at em;exact (Option.some.inj em).symm
 have t1:Msg.Line m=(l:Int):=by rw [em'];rfl
 have ev:Ev c (A l) { A l with tk:=up (A l).tk n 0,wk:=up (A l).wk n 0,st:=up (A l).st n 0 }:=.gone n hn h0
 have cn:=zqy (A:=A l) (B:={ A l with tk:=up (A l).tk n 0,wk:=up (A l).wk n 0,st:=up (A l).st n 0 }) (l:=l) (n:=n) (by omega) (fun j q=>zjd (zbL q) (zbL q) rfl) rfl (fun _=>rfl)
 rw [em,zjM (A:={ A l with tk:=up (A l).tk n 0,wk:=up (A l).wk n 0,st:=up (A l).st n 0 }) zah] at cn
 refine ⟨l,_,up W n w00,[],hl,ev,?_,K.dl hk hr hl (by rw [hm];exact t1) ev (.over n zah hw (fun j q=>zbL q) fun j q _=>zxn (zbL q) rfl rfl rfl rfl rfl rfl rfl) (fun x=>by rw [hm];exact cn x) (fun y hy=>by cases hy) (by simp),.inl ?_⟩
 ·exact zlT K hk hr hl hm hn t1 (by rw [em'];rfl) (by rw [em'];show (0:Int)≤_;omega) (by rw [em'];show (0:Int)≤_;omega) (by rw [vN0];exact zze hn hl h16 t1 (by rw [em'];rfl) (by rw [hW];rfl) (by rw [hW,h3];rfl)) (zra rfl) (zcD rfl) rfl rfl rfl rfl
 ·have q:=znD (f:=(A l).tk) (n:=n) (t:=0) (by omega)
  rw [h0,show twt 0=0 from rfl,show twt 3=1 from rfl] at q
  unfold phi
  dsimp only
  omega
theorem zzp (K:Ok c h A W ms v) {k l:Nat}(hk:k<ms.length) (hr:ms.length + c≤64) (hl:l<h) {m:Msg}(hm:ms[k]=m) (h0:(A l).ph=1∨(A l).ph=2) (em:phS (A l) l=some m):Step c h A W ms v k m:=by
 have c4:=K.c4
 have h16:=K.h16
 have he:=zby hk
 have i:=(K.lv l hl).iv
 have hu:=(K.lv l hl).uv.1
 have bz:=i.bz
 have a4:=i.a4
 obtain ⟨w,hw⟩:∃ w,(A l).bu=w + 1:=⟨(A l).bu - 1,by omega⟩
 obtain ⟨n,hf⟩:∃ n,(A l).fo=n:=⟨_,rfl⟩
 have hst:2≤(A l).st n:=by
  rcases h0 with h0|h0
  ·have f1:=i.f1 h0
   rcases i.o1 n (by omega) with q|q<;>omega
  ·have f2:=i.f2 h0
   rw [hf] at f2
   exact f2.1
 have hn:n<c:=by
  apply Classical.byContradiction
  intro q
  have:=(i.rg n (by omega)).1
  omega
 rcases h0 with h0|h0
 ·have em':m=zz8 n w l (A l).ac false:=by
   unfold phS at em
   rw [if_pos h0,hw,hf] at em
   exact (Option.some.inj em).symm
  have t1:Msg.Line m=(l:Int):=by rw [em'];rfl
  have t3:Msg.For m=(w:Int) + 1:=by rw [em'];rfl
  have t4:Msg.Acks m=((A l).ac:Int):=by rw [em'];rfl
  have ev:Ev c (A l) { A l with st:=up (A l).st n 4,ph:=3,own:=false,kp:=false,pv:=(A l).va n,sr:=n + 1 }:=.fs n hn h0 hf
  have pB:phS { A l with st:=up (A l).st n 4,ph:=3,own:=false,kp:=false,pv:=(A l).va n,sr:=n + 1 } l=some (zzU (n + 1) w l (A l).ac false false ((A l).va n)):=by
   show some (zzU (n + 1) ((A l).bu - 1) l (A l).ac false false ((A l).va n))=_
   rw [hw];rfl
  have cn:=zt6 (A:=A l) (B:={ A l with st:=up (A l).st n 4,ph:=3,own:=false,kp:=false,pv:=(A l).va n,sr:=n + 1 }) (l:=l) (fun _=>rfl) (fun _=>rfl)
  rw [em,pB] at cn
  have hc:=zzt (c:=c) (h:=h) (S:=fun n l=>((A l).st n:Int)) (V:=fun n l=>(A l).va n) (W:=W) (r:=ms.eraseIdx k) hn hl c4 h16 (by omega) t1 (by rw [em'];rfl) (by omega) (by omega) (hu n) (by show (1:Int)<((A l).st n:Int);omega)
  rw [t3,t4] at hc
  refine ⟨l,_,W,[zzU (n + 1) w l (A l).ac false false ((A l).va n)],hl,ev,?_,K.dl hk hr hl (by rw [hm];exact t1) ev (.same (fun _=>rfl) fun j _=>?_) (fun x=>by rw [hm,cnt1];exact cn x) (zeW (zet (by omega) (by omega) (by omega) (by omega) _ _ (hu n)) rfl) (by simp),.inl ?_⟩
  ·exact zlT K hk hr hl hm hn t1 (by rw [em'];rfl) (by rw [em'];show (0:Int)≤_;omega) (by omega) hc (zra rfl) (zcD rfl) rfl rfl rfl rfl
  ·exact zyu rfl rfl (by omega) (wG0 3) rfl
  ·unfold phi pwt
   dsimp only
   rw [h0]
   show s4 _ + 3 + _<s4 _ + 4 + _
   omega
 ·have em':m=zz8 n w l (A l).ac true:=by
   unfold phS at em
   rw [if_neg (by omega),if_pos h0,hw,hf] at em
   exact (Option.some.inj em).symm
  have t1:Msg.Line m=(l:Int):=by rw [em'];rfl
  have t3:Msg.For m=(w:Int) + 1:=by rw [em'];rfl
  have t4:Msg.Acks m=((A l).ac:Int):=by rw [em'];rfl
  have ev:Ev c (A l) { A l with st:=up (A l).st n 0,ph:=3,own:=true,kp:=false,pv:=(A l).va n,sr:=n + 1 }:=.fm n hn h0 hf
  have pB:phS { A l with st:=up (A l).st n 0,ph:=3,own:=true,kp:=false,pv:=(A l).va n,sr:=n + 1 } l=some (zzU (n + 1) w l (A l).ac true false ((A l).va n)):=by
   show some (zzU (n + 1) ((A l).bu - 1) l (A l).ac true false ((A l).va n))=_
   rw [hw];rfl
  have cn:=zt6 (A:=A l) (B:={ A l with st:=up (A l).st n 0,ph:=3,own:=true,kp:=false,pv:=(A l).va n,sr:=n + 1 }) (l:=l) (fun _=>rfl) (fun _=>rfl)
  rw [em,pB] at cn
  have hc:=zzq (c:=c) (h:=h) (S:=fun n l=>((A l).st n:Int)) (V:=fun n l=>(A l).va n) (W:=W) (r:=ms.eraseIdx k) hn hl c4 h16 (by omega) t1 (by rw [em'];rfl) (by omega) (by omega) (hu n) (by show (1:Int)<((A l).st n:Int);omega)
  rw [t3,t4] at hc
  refine ⟨l,_,W,[zzU (n + 1) w l (A l).ac true false ((A l).va n)],hl,ev,?_,K.dl hk hr hl (by rw [hm];exact t1) ev (.same (fun _=>rfl) fun j _=>?_) (fun x=>by rw [hm,cnt1];exact cn x) (zeW (zet (by omega) (by omega) (by omega) (by omega) _ _ (hu n)) rfl) (by simp),.inl ?_⟩
  ·exact zlT K hk hr hl hm hn t1 (by rw [em'];rfl) (by rw [em'];show (0:Int)≤_;omega) (by omega) hc (zra rfl) (zcD rfl) rfl rfl rfl rfl
  ·exact zyu rfl rfl (by omega) (wG0 3) rfl
  ·unfold phi pwt
   dsimp only
   rw [h0]
   show s4 _ + 3 + _<s4 _ + 4 + _
   omega
end
end Go.Proofs.Ytlgjbfdojbmmgaa
