/- Deliveries of requests, as changes of one line. No condition. -/
import Derived.Test.YtlgjbfdojbmmgaaRH
set_option linter.unusedSimpArgs false
set_option linter.unusedVariables false
set_option maxRecDepth 100000
namespace Go.Proofs.Ytlgjbfdojbmmgaa
open Go.SX
theorem zjM {A:AL}{l n:Nat}(h:A.tk n=0):tkS A l n=none:=by unfold tkS;rw [if_pos h]
theorem zx8 {A:AL}{l n:Nat}(h:A.tk n=2):tkS A l n=some (zAs n l):=by unfold tkS;rw [if_neg (by omega),if_neg (by omega),if_pos h]
theorem zwr {A:AL}{l n:Nat}(h:A.tk n=3):tkS A l n=some (zAk n l):=by unfold tkS;rw [if_neg (by omega),if_neg (by omega),if_neg (by omega)]
theorem zqK {A:AL}{l n:Nat}(h:A.tk n=1) (hw:A.wk n=3):tkS A l n=some (zAd n l (A.tv n)):=by unfold tkS;rw [if_neg (by omega),if_pos h,if_pos hw]
theorem zlB {A:AL}{l n:Nat}(h:A.tk n=1) (hw:A.wk n≠3):tkS A l n=some (zAe n l (decide (A.wk n=2))):=by unfold tkS;rw [if_neg (by omega),if_pos h,if_neg hw]
theorem zjd {A B:AL}{l k:Nat}(h1:B.tk k=A.tk k) (h2:B.wk k=A.wk k) (h3:B.tv k=A.tv k):tkS B l k=tkS A l k:=by unfold tkS;rw [h1,h2,h3]
theorem zmk {A:AL}{l n:Nat}(h:A.pd n=0):pdS A l n=none:=by unfold pdS;rw [if_pos h]
theorem zwb {A:AL}{l n:Nat}(h:A.pd n=1):pdS A l n=some (zAC l (A.bu - 1) n):=by unfold pdS;rw [if_neg (by omega),if_pos h]
theorem zwo {A:AL}{l n:Nat}(h:A.pd n=2):pdS A l n=some (Msg.mk 5 ((n:Int) + 1) (((A.bu - 1:Nat):Int) + 1) (l:Int) 0 0 false 0 0):=by unfold pdS;rw [if_neg (by omega),if_neg (by omega)]
theorem zxP {A B:AL}{l k:Nat}(h1:B.pd k=A.pd k) (h2:B.bu=A.bu):pdS B l k=pdS A l k:=by unfold pdS;rw [h1,h2]
theorem zo7 {A:AL}{l n:Nat}{m:Msg}(h0:A.tk n=1) (em:tkS A l n=some m):Msg.Line m=(l:Int)∧Msg.To m=0∧Msg.From m=(n:Int) + 1∧Msg.For m≤(n:Int) + 1∧zAL m∧((Msg.Kind m=1∨Msg.Kind m=2)∧Msg.For m=Msg.From m∨Msg.Kind m=8):=by
 unfold tkS at em
 rw [if_neg (by omega),if_pos h0] at em
 rw [← Option.some.inj em]
 split
 ·exact ⟨rfl,rfl,rfl,by show (0:Int)≤(n:Int) + 1;omega,.inr (.inr rfl),.inr rfl⟩
 ·cases decide (A.wk n=2)
  ·exact ⟨rfl,rfl,rfl,Int.le_refl _,.inl rfl,.inl ⟨.inl rfl,rfl⟩⟩
  ·exact ⟨rfl,rfl,rfl,Int.le_refl _,.inr (.inl rfl),.inl ⟨.inr rfl,rfl⟩⟩
theorem znD {f:Nat→Nat}{n t:Nat}(hn:n<4):s4 (fun k=>twt (up f n t k)) + twt (f n)=s4 (fun k=>twt (f k)) + twt t:=by
 have:=ztA (f:=fun k=>twt (f k)) (g:=fun k=>twt (up f n t k)) hn fun k q=>by rw [zbL q]
 rw [zah] at this
 exact this
theorem zw0 {f:Nat→Nat}{n t:Nat}(hn:n<4):s4 (fun k=>dwt (up f n t k)) + dwt (f n)=s4 (fun k=>dwt (f k)) + dwt t:=by
 have:=ztA (f:=fun k=>dwt (f k)) (g:=fun k=>dwt (up f n t k)) hn fun k q=>by rw [zbL q]
 rw [zah] at this
 exact this
theorem zyL {n l:Nat}(hn:n<4) (hl:l<16):zdo (zAs n l):=mo _ _ _ _ _ _ _ _ _ (by omega) (by omega) (by omega) (by omega) (by omega) (by omega) u0 u0
theorem zwC {n l:Nat}(hn:n<4) (hl:l<16):zdo (zAk n l):=mo _ _ _ _ _ _ _ _ _ (by omega) (by omega) (by omega) (by omega) (by omega) (by omega) u0 u0
theorem zeW {m:Msg}{l:Nat}(h:zdo m) (hl:Msg.Line m=(l:Int)):∀ y∈[m],zdo y∧Msg.Line y=(l:Int):=fun y hy=>by
 rw [List.mem_singleton.1 hy];exact ⟨h,hl⟩
section
variable {c h:Nat} {A:Nat→AL} {W:Nat→Wait} {ms:List Msg} {v:Nat→Int}
theorem zyX (K:Ok c h A W ms v) {k l:Nat}(hk:k<ms.length) (hr:ms.length + c≤64) (hl:l<h) {m:Msg}(hm:ms[k]=m) {n:Nat}(hn:n<c) (h0:(A l).tk n=1) (hb:(A l).bu≠0) (em:tkS (A l) l n=some m):Step c h A W ms v k m:=by
 have c4:=K.c4
 have h16:=K.h16
 have he:=zby hk
 obtain ⟨t1,t2,t3,t4,t5,t6⟩:=zo7 h0 em
 have ev:Ev c (A l) { A l with tk:=up (A l).tk n 2 }:=.nack n hn h0 hb
 have tB:tkS { A l with tk:=up (A l).tk n 2 } l n=some (zAs n l):=zx8 zah
 have cn:=zqy (A:=A l) (B:={ A l with tk:=up (A l).tk n 2 }) (l:=l) (n:=n) (by omega) (fun j q=>zjd (zbL q) rfl rfl) rfl (fun _=>rfl)
 rw [em,tB] at cn
 refine ⟨l,_,W,[zAs n l],hl,ev,?_,K.dl hk hr hl (by rw [hm];exact t1) ev (.same (fun _=>rfl) fun _ _=>rfl) (fun x=>by rw [hm,cnt1];exact cn x) (zeW (zyL (by omega) (by omega)) rfl) (by simp),.inr ⟨?_,_,rfl,.inl ⟨t5,hb,rfl⟩⟩⟩
 ·exact zqF K hk hr hl hm hn t1 t2 t3 (by omega) (zvs hl h16 (by omega) (by omega) t1 t3 t6 (by show (0:Int)<((A l).bu:Int);omega)) rfl rfl (zaK (fun A=>A.ho) rfl) (zaK (fun A=>Entry.mk (A.ow:Int) (ls c A.sh)) rfl) (zaK (fun A=>(A.bu:Int)) rfl)
 ·have q:=znD (f:=(A l).tk) (n:=n) (t:=2) (by omega)
  rw [h0,show twt 1=13 from rfl,show twt 2=13 from rfl] at q
  unfold phi
  dsimp only
  omega
theorem s_put (K:Ok c h A W ms v) {k l:Nat}(hk:k<ms.length) (hr:ms.length + c≤64) (hl:l<h) {m:Msg}(hm:ms[k]=m) {n:Nat}(hn:n<c) (h0:(A l).tk n=1) (hw:(A l).wk n=3) (hb:(A l).bu=0) (em:tkS (A l) l n=some m):Step c h A W ms v k m:=by
 have c4:=K.c4
 have h16:=K.h16
 have he:=zby hk
 obtain ⟨t1,t2,t3,t4,t5,t6⟩:=zo7 h0 em
 have em':m=zAd n l ((A l).tv n):=by
  unfold tkS at em
  rw [if_neg (by omega),if_pos h0,if_pos hw] at em
  exact (Option.some.inj em).symm
 have hp:=zwp (c:=c) (H:=fun l=>(A l).ho) (O:=fun l=>((A l).ow:Int)) (Z:=fun l=>(A l).sh) (B:=fun l=>((A l).bu:Int)) (r:=ms.eraseIdx k) hl h16 c4 hn (by omega) t1 t3 (by rw [em'];rfl) (by show ((A l).bu:Int)=0;omega) (K.may hl)
 have hph:∀ t,t=3→s4 (fun k=>twt (up (A l).tk n t k))<s4 (fun k=>twt ((A l).tk k)):=fun t ht=>by
  have q:=znD (f:=(A l).tk) (n:=n) (t:=t) (by omega)
  rw [h0,ht,show twt 1=13 from rfl,show twt 3=1 from rfl] at q
  rw [ht]
  omega
 by_cases ho:(A l).ow=n + 1
 ·have ev:Ev c (A l) { A l with tk:=up (A l).tk n 3,ow:=0,ho:=(A l).tv n }:=.put n hn h0 hw hb ho
  have tB:tkS { A l with tk:=up (A l).tk n 3,ow:=0,ho:=(A l).tv n } l n=some (zAk n l):=zwr zah
  have cn:=zqy (A:=A l) (B:={ A l with tk:=up (A l).tk n 3,ow:=0,ho:=(A l).tv n }) (l:=l) (n:=n) (by omega) (fun j q=>zjd (zbL q) rfl rfl) rfl (fun _=>rfl)
  rw [em,tB] at cn
  rw [if_pos (by show ((A l).ow:Int)=(n:Int) + 1;omega)] at hp
  refine ⟨l,_,W,[zAk n l],hl,ev,?_,K.dl hk hr hl (by rw [hm];exact t1) ev (.same (fun _=>rfl) fun _ _=>rfl) (fun x=>by rw [hm,cnt1];exact cn x) (zeW (zwC (by omega) (by omega)) rfl) (by simp),.inl ?_⟩
  ·refine zqF K hk hr hl hm hn t1 t2 t3 (by omega) hp rfl rfl (zmD (fun A=>A.ho) (by rw [em'];rfl)) (fun j=>?_) (zaK (fun A=>(A.bu:Int)) rfl)
   exact zmD (fun A=>Entry.mk (A.ow:Int) (ls c A.sh)) (A:=A) (l:=l) (B:={ A l with tk:=up (A l).tk n 3,ow:=0,ho:=(A l).tv n }) rfl j
  ·have:=hph 3 rfl
   unfold phi
   dsimp only
   omega
 ·have ev:Ev c (A l) { A l with tk:=up (A l).tk n 3 }:=.putx n hn h0 hw hb ho
  have tB:tkS { A l with tk:=up (A l).tk n 3 } l n=some (zAk n l):=zwr zah
  have cn:=zqy (A:=A l) (B:={ A l with tk:=up (A l).tk n 3 }) (l:=l) (n:=n) (by omega) (fun j q=>zjd (zbL q) rfl rfl) rfl (fun _=>rfl)
  rw [em,tB] at cn
  rw [if_neg (by show ¬ ((A l).ow:Int)=(n:Int) + 1;omega)] at hp
  refine ⟨l,_,W,[zAk n l],hl,ev,?_,K.dl hk hr hl (by rw [hm];exact t1) ev (.same (fun _=>rfl) fun _ _=>rfl) (fun x=>by rw [hm,cnt1];exact cn x) (zeW (zwC (by omega) (by omega)) rfl) (by simp),.inl ?_⟩
  ·exact zqF K hk hr hl hm hn t1 t2 t3 (by omega) hp rfl rfl (zaK (fun A=>A.ho) rfl) (zaK (fun A=>Entry.mk (A.ow:Int) (ls c A.sh)) rfl) (zaK (fun A=>(A.bu:Int)) rfl)
  ·have:=hph 3 rfl
   unfold phi
   dsimp only
   omega
theorem zy1 (K:Ok c h A W ms v) {k l:Nat}(hk:k<ms.length) (hr:ms.length + c≤64) (hl:l<h) {m:Msg}(hm:ms[k]=m) (h0:(A l).ph=5) (em:phS (A l) l=some m):Step c h A W ms v k m:=by
 have c4:=K.c4
 have h16:=K.h16
 have he:=zby hk
 have i:=(K.lv l hl).iv
 have bz:=i.bz
 obtain ⟨n,hn⟩:∃ n,(A l).bu=n + 1:=⟨(A l).bu - 1,by omega⟩
 have em':m=zjG n l:=by
  unfold phS at em
  rw [if_neg (by omega),if_neg (by omega),if_neg (by omega),if_pos h0,hn,Nat.add_sub_cancel] at em
  exact (Option.some.inj em).symm
 have ev:Ev c (A l) { A l with ph:=0,bu:=0 }:=.free n (by omega) h0 hn
 have pz:∀ j,(A l).pd j=0:=fun j=>by
  by_cases q:(A l).pd j=0
  ·exact q
  ·have:=(i.p1 j q).1;omega
 have cn:=zt6 (A:=A l) (B:={ A l with ph:=0,bu:=0 }) (l:=l) (fun _=>rfl) (fun j=>by rw [zmk (pz j)];exact zmk (pz j))
 rw [em,show phS { A l with ph:=0,bu:=0 } l=none from rfl] at cn
 have t1:Msg.Line m=(l:Int):=by rw [em'];rfl
 have t3:Msg.From m=(n:Int) + 1:=by rw [em'];rfl
 refine ⟨l,_,W,[],hl,ev,?_,K.dl hk hr hl (by rw [hm];exact t1) ev (.same (fun _=>rfl) fun j hw=>?_) (fun x=>by rw [hm];exact cn x) (fun y hy=>by cases hy) (by simp),.inl ?_⟩
 ·have hf:=ztD (c:=c) (H:=fun l=>(A l).ho) (O:=fun l=>((A l).ow:Int)) (Z:=fun l=>(A l).sh) (B:=fun l=>((A l).bu:Int)) (r:=ms.eraseIdx k) hl t1 (by rw [em'];rfl) (by rw [t3];show ((A l).bu:Int)=_;omega)
  exact zqF K hk hr hl hm (show n<c by omega) t1 (by rw [em'];rfl) t3 (by rw [em'];show (0:Int)≤_;omega) (by rw [vN0];exact hf) rfl rfl (zaK (fun A=>A.ho) rfl) (zaK (fun A=>Entry.mk (A.ow:Int) (ls c A.sh)) rfl) (zmD (fun A=>(A.bu:Int)) rfl)
 ·unfold wOf
  dsimp only
  rw [if_neg (by omega),if_neg (by omega)]
 ·unfold phi pwt
  dsimp only
  rw [h0]
  show s4 _ + 0 + _<s4 _ + 1 + _
  omega
end
end Go.Proofs.Ytlgjbfdojbmmgaa
