import Derived.Test.YtdfohlonacbelaaGreatQ7
set_option linter.unusedSimpArgs false
set_option linter.unusedVariables false
namespace Go.Proofs.YtdfohlonacbelaaGreat
open Go.SX
structure zwY (m:Msg):Prop where
 kind:1≤Msg.Kind m∧Msg.Kind m≤11
 src:0≤Msg.From m∧Msg.From m<256
 dst:0≤Msg.To m∧Msg.To m<256
 line:0≤Msg.Line m∧Msg.Line m<256
 hfor:0≤Msg.For m∧Msg.For m<256
 acks:0≤Msg.Acks m∧Msg.Acks m<256
 num:U32 (Msg.Num m)
 val:U32 (Msg.Val m)
theorem zyv {l:List Nat}(hb:∀ x∈l,x<256):(zpg l).2≠7∧((zpg l).2=0→zwY (zpg l).1):=by
 unfold zpg
 by_cases h1:l.length<19
 ·rw [if_pos h1];exact ⟨by show (3:Int)≠7;decide,fun q=>absurd (show (3:Int)=0 from q) (by decide)⟩
 rw [if_neg h1]
 by_cases h2:19<l.length
 ·rw [if_pos h2];exact ⟨by show (4:Int)≠7;decide,fun q=>absurd (show (4:Int)=0 from q) (by decide)⟩
 rw [if_neg h2]
 by_cases h3:zia l
 rotate_left
 ·rw [if_neg h3];exact ⟨by show (5:Int)≠7;decide,fun q=>absurd (show (5:Int)=0 from q) (by decide)⟩
 rw [if_pos h3]
 by_cases h4:kindOk l
 rotate_left
 ·rw [if_neg h4];exact ⟨by show (2:Int)≠7;decide,fun q=>absurd (show (2:Int)=0 from q) (by decide)⟩
 rw [if_pos h4]
 refine ⟨by show (0:Int)≠7;decide,fun _=>?_⟩
 have hB:zmM l:=⟨by omega,hb⟩
 have o:=ztc hB h4
 have o1:=o
 obtain ⟨k1,k2,f,t,li,fo,ac,nu,va⟩:=o1
 exact ⟨⟨by show (1:Int)≤((numsOf l).k:Int);omega,by show ((numsOf l).k:Int)≤11;omega⟩,⟨by show (0:Int)≤((numsOf l).f:Int);omega,by show ((numsOf l).f:Int)<256;omega⟩,⟨by show (0:Int)≤((numsOf l).t:Int);omega,by show ((numsOf l).t:Int)<256;omega⟩,⟨by show (0:Int)≤((numsOf l).li:Int);omega,by show ((numsOf l).li:Int)<256;omega⟩,⟨by show (0:Int)≤((numsOf l).fo:Int);omega,by show ((numsOf l).fo:Int)<256;omega⟩,⟨by show (0:Int)≤((numsOf l).ac:Int);omega,by show ((numsOf l).ac:Int)<256;omega⟩,⟨by show (0:Int)≤((numsOf l).nu:Int);omega,by show ((numsOf l).nu:Int)<4294967296;omega⟩,⟨by show (0:Int)≤((numsOf l).va:Int);omega,by show ((numsOf l).va:Int)<4294967296;omega⟩⟩
theorem zvV (p:Pool) (hp:zg9 p) (hr:zcg p=true) (n:Int):∃ q m e,zfB p n=some (q,m,e)∧zfM p n=some (q,m,e)∧zg9 q∧(e≠7→zcg q=true)∧(e=0→zwY m):=by
 obtain ⟨q,e,d1,d2,d3,d4,d5⟩:=zwZ p hp n
 have hh:=ziM p hp.1 n
 rw [hr,if_pos rfl] at hh
 by_cases hn:n<0∨((Pool.Frames p).length:Int)≤n
 ·rw [if_pos hn] at hh
  have he:=d5 7 hh
  subst he
  have hq:=d4 (by decide)
  subst hq
  refine ⟨q,Msg.mk 0 0 0 0 0 0 false 0 0,7,?_,?_,d3,fun q=>absurd rfl q,fun q=>absurd q (by decide)⟩
  ·unfold zfB
   simp only [d1,wC0,show ¬ (7:Int)=0 by decide,vF0,vH0,if_true]
  ·unfold zfM
   rw [zmk q hp.1,hh]
   simp only [wC0,show ¬ (7:Int)=0 by decide,vF0,vH0,if_true]
 ·rw [if_neg hn] at hh
  have he:=d5 0 hh
  subst he
  obtain ⟨k,rfl⟩:∃ k:Nat,n=(k:Int):=⟨n.toNat,by omega⟩
  have h2:k<(Pool.Frames p).length:=by omega
  obtain ⟨c,hc,hc2⟩:=zyg (l:=(Pool.Frames p)[k]) (fun x hx=>(hp.2 _ (List.getElem_mem h2)).2 x hx)
  have hcl:c.length≤1000:=by
   have:=(hp.2 _ (List.getElem_mem h2)).1
   rw [hc,zax] at this
   exact this
  have hg:zAF (Pool.Frames p) (k:Int)=some (zal c):=by rw [zac h2,hc]
  have hq:q=Pool.mk ((Pool.Frames p).eraseIdx k):=by
   have:=zlP p hr k h2
   rw [d1] at this
   exact congrArg Prod.fst (Option.some.inj this)
  have hro:=zyv hc2
  refine ⟨q,(zpg c).1,(zpg c).2,?_,?_,d3,fun _=>?_,hro.2⟩
  ·unfold zfB
   simp only [d1,wC0,vE0,wH0,wA0,if_false,hg,zqt c hcl hc2]
  ·unfold zfM
   rw [zmk p hp.1,hh]
   simp only [d2,wC0,vE0,wH0,wA0,if_false,hg,ztX c hcl hc2]
  ·have hi:=zbK.1 hr
   rw [hq]
   refine zbK.2 ⟨?_,fun b hb=>hi.2 b (List.mem_of_mem_eraseIdx hb)⟩
   show ((Pool.Frames p).eraseIdx k).length≤64
   rw [List.length_eraseIdx,if_pos h2]
   omega
theorem ps (st va:List (List Int)) (wa:List Wait) (ho:List Int) (di:List Entry) (bu:List Int) (po:Pool):Proto.State (Proto.mk st va wa ho di bu po)=st:=rfl
theorem pv (st va:List (List Int)) (wa:List Wait) (ho:List Int) (di:List Entry) (bu:List Int) (po:Pool):Proto.Val (Proto.mk st va wa ho di bu po)=va:=rfl
theorem pw (st va:List (List Int)) (wa:List Wait) (ho:List Int) (di:List Entry) (bu:List Int) (po:Pool):Proto.Wait (Proto.mk st va wa ho di bu po)=wa:=rfl
theorem ph (st va:List (List Int)) (wa:List Wait) (ho:List Int) (di:List Entry) (bu:List Int) (po:Pool):Proto.Home (Proto.mk st va wa ho di bu po)=ho:=rfl
theorem pd (st va:List (List Int)) (wa:List Wait) (ho:List Int) (di:List Entry) (bu:List Int) (po:Pool):Proto.Dir (Proto.mk st va wa ho di bu po)=di:=rfl
theorem pb (st va:List (List Int)) (wa:List Wait) (ho:List Int) (di:List Entry) (bu:List Int) (po:Pool):Proto.Busy (Proto.mk st va wa ho di bu po)=bu:=rfl
theorem pp (st va:List (List Int)) (wa:List Wait) (ho:List Int) (di:List Entry) (bu:List Int) (po:Pool):Proto.Pool (Proto.mk st va wa ho di bu po)=po:=rfl
theorem pq (st va:List (List Int)) (wa:List Wait) (ho:List Int) (di:List Entry) (bu:List Int) (po q:Pool):Proto.setPool (Proto.mk st va wa ho di bu po) q=Proto.mk st va wa ho di bu q:=rfl
theorem zuH {α:Type}{l:List α}{n:Nat}(h:n<l.length) (x:α):zAF (l.set n x) (n:Int)=some x:=by
 have h':n<(l.set n x).length:=by rw [vQ0];exact h
 rw [zac h',List.getElem_set_self]
theorem zqR {α:Type}{l:List α}{n:Nat}(h:n<l.length) (x y:α):zAI (l.set n x) (n:Int) y=some (l.set n y):=by
 have h':n<(l.set n x).length:=by rw [vQ0];exact h
 rw [zaD h',List.set_set]
theorem u0:U32 0:=⟨by omega,by omega⟩
def w00:Wait:=Wait.mk (0:Int) false false false false false (0:Int) (0:Int) (0:Int)
theorem zjy {h:Nat}{w:Wait}:zdC h w=true↔(0≤Wait.Line w∧Wait.Line w≤(h:Int))∧(0≤Wait.Need w∧Wait.Need w≤255)∧(0≤Wait.Got w∧Wait.Got w≤255):=by
 unfold zdC
 simp only [wD0,vG0]
theorem zqO (h:Nat):zdC h w00=true:=by
 unfold zdC
 rw [show Wait.Line w00=0 from rfl,show Wait.Need w00=0 from rfl,show Wait.Got w00=0 from rfl]
 simp only [wD0,vG0]
 omega
theorem zz0 {st va:List (List Int)}{wa:List Wait}{ho:List Int}{di:List Entry}{bu:List Int}{po:Pool}{F:Prop}(h:zAM F (Proto.mk st va wa ho di bu po)) {n:Nat}(hn:n<wa.length) (w:Wait) (hw:wa[n]=w) :
  ((!Wait.Came w||decide (Wait.Got w<Wait.Need w))=true→zev (Proto.mk st va wa ho di bu po) (n:Int)=some (Proto.mk st va wa ho di bu po)) ∧
  ((!Wait.Came w||decide (Wait.Got w<Wait.Need w))=false→∀ (l:Nat) (hl:w64 (Wait.Line w - 1)=(l:Int)) (h1:n<st.length) (h2:l<st[n].length) (h3:n<va.length) (h4:l<va[n].length),
   ∃ q e,zae po (Msg.mk 11 (w64 ((n:Int) + 1)) 0 (l:Int) 0 0 false 0 0)=some (q,e) ∧
    zev (Proto.mk st va wa ho di bu po) (n:Int)=some (Proto.mk (st.set n (st[n].set l (bif Wait.Write w then (3:Int) else bif Wait.Own w then (2:Int) else (1:Int)))) (if (!Wait.Keep w)=true then va.set n (va[n].set l (Wait.Val w)) else va) (wa.set n w00) ho di bu q) ∧
    zAM F (Proto.mk (st.set n (st[n].set l (bif Wait.Write w then (3:Int) else bif Wait.Own w then (2:Int) else (1:Int)))) (if (!Wait.Keep w)=true then va.set n (va[n].set l (Wait.Val w)) else va) (wa.set n w00) ho di bu q)):=by
 constructor
 ·intro hc
  unfold zev
  simp only [pw,zac hn,hw,wC0,hc,if_true]
 ·intro hc l hl h1 h2 h3 h4
  have hwv:U32 (Wait.Val w):=by rw [← hw];exact h.ww _ (List.getElem_mem hn)
  have g0:zAM F (Proto.mk st (if (!Wait.Keep w)=true then va.set n (va[n].set l (Wait.Val w)) else va) wa ho di bu po):=by
   by_cases hk:(!Wait.Keep w)=true
   ·rw [if_pos hk];exact zw0 h h3 l hwv
   ·rw [if_neg hk];exact h
  have s1:=zgf g0 (n:=n) (l:=l) h1 h2 (bif Wait.Write w then (3:Int) else bif Wait.Own w then (2:Int) else (1:Int))
  have g1:=zd5 g0 (n:=n) h1 l (bif Wait.Write w then (3:Int) else bif Wait.Own w then (2:Int) else (1:Int)) (fun _=>by cases Wait.Write w<;>cases Wait.Own w<;>rfl)
  have s2:=ziX g1 (n:=n) hn w00
  have g2:=zfW g1 n (w:=w00) u0 (fun _=>zqO _)
  obtain ⟨q,e,q1,q2,q3⟩:=zcO g2 (Msg.mk 11 (w64 ((n:Int) + 1)) 0 (l:Int) 0 0 false 0 0) u0 u0
  refine ⟨q,e,q1,?_,zbD g2 q3⟩
  have v1:(if (!Wait.Keep w)=true then (zkW (Proto.mk st va wa ho di bu po) (n:Int) (l:Int) (Wait.Val w)).bind fun v14=>some v14 else some (Proto.mk st va wa ho di bu po))=some (Proto.mk st (if (!Wait.Keep w)=true then va.set n (va[n].set l (Wait.Val w)) else va) wa ho di bu po):=by
   by_cases hk:(!Wait.Keep w)=true
   ·rw [if_pos hk,if_pos hk,zzp h (n:=n) (l:=l) h3 h4];rfl
   ·rw [if_neg hk,if_neg hk]
  unfold zev
  simp only [pw,zac hn,hw,wC0,hc,wA0,if_false,hl,v1]
  rw [s1]
  simp only [wC0]
  rw [show Wait.mk (0:Int) false false false false false (0:Int) (0:Int) (0:Int)=w00 from rfl,s2]
  simp only [wC0,zk1]
  rw [q2]
  rfl
theorem zxq {w:Wait}(hb:Wait.Back w=false) (o k:Bool) (a v:Int):Wait.setVal (Wait.setKeep (Wait.setOwn (Wait.setNeed (Wait.setCame w true) a) o) k) v=Wait.mk (Wait.Line w) (Wait.Write w) false true o k a (Wait.Got w) v:=by
 have:w.2.2.1=false:=hb
 simp only [Wait.setVal,Wait.setKeep,Wait.setOwn,Wait.setNeed,Wait.setCame,Wait.mk,Wait.Line,Wait.Write,Wait.Got,this]
end Go.Proofs.YtdfohlonacbelaaGreat
