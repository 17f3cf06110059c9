/- What a core does with a message, of systems made of functions. No condition. -/
import Derived.Test.YtlgjbfdojbmmgaaR9
set_option linter.unusedSimpArgs false
set_option linter.unusedVariables false
set_option maxRecDepth 100000
namespace Go.Proofs.Ytlgjbfdojbmmgaa
open Go.SX
def zjG (n l:Nat):Msg:=Msg.mk 11 ((n:Int) + 1) 0 (l:Int) 0 0 false 0 0
theorem zu1 {α:Type}{f:Nat→Nat→α}{n l:Nat}{x y:α}:up2 (up2 f n l x) n l y=up2 f n l y:=by
 funext i j
 unfold up2 up
 by_cases p:i=n
 ·by_cases q:j=l
  ·simp [p,q]
  ·simp [p,q]
 ·simp [p]
section
variable {c h:Nat} {S V:Nat→Nat→Int} {W:Nat→Wait} {r:List Msg} {n l:Nat} {m:Msg}
theorem zql (hn:n<c) (q:Wait.Came (W n)=false∨Wait.Got (W n)<Wait.Need (W n)):zm4 (pl r) (tb c h S) (tb c h V) (ls c W) (n:Int)=some (pl r,tb c h S,tb c h V,ls c W):=by
 have:(!Wait.Came (W n)||decide (Wait.Got (W n)<Wait.Need (W n)))=true:=by
  rcases q with q|q
  ·rw [q];rfl
  ·rw [vC0 q,Bool.or_true]
 unfold zm4
 simp only [zaT hn,zar hn,wC0,this,if_true]
theorem zpZ (hn:n<c) (hl:l<h) (c4:c≤4) (h16:h≤16) (hr:r.length<64) (q:Wait.Came (W n)=true) (q2:¬ Wait.Got (W n)<Wait.Need (W n)) (hw:Wait.Line (W n)=(l:Int) + 1) :
  zm4 (pl r) (tb c h S) (tb c h V) (ls c W) (n:Int)=some (pl (r++[zjG n l]),tb c h (up2 S n l (bif Wait.Write (W n) then (3:Int) else bif Wait.Own (W n) then (2:Int) else (1:Int))),tb c h (if Wait.Keep (W n)=true then V else up2 V n l (Wait.Val (W n))),ls c (up W n w00)):=by
 have M:zdo (zjG n l):=by
  refine ⟨?_,?_,?_,?_,?_,?_,u0,u0⟩<;>simp only [zjG,Msg.Kind_mk,Msg.From_mk,Msg.To_mk,Msg.Line_mk,Msg.For_mk,Msg.Acks_mk]<;>omega
 have sd:=zbK (ms:=r) M hr
 unfold zjG at sd
 unfold zm4
 simp only [zaT hn,zar hn,wC0,q,q2,vF0,wH0,Bool.or_false,wA0,if_false,hw,w2 (show l≤300 by omega),w1 (show n≤300 by omega),zfd hn,zbC hn,zaT hl,za1 hl,zgt hn,za1 hn,sd]
 cases Wait.Keep (W n)<;>rfl
theorem zzB (hn:n<c) (hl:l<h) (h16:h≤16) (hm:Msg.Line m=(l:Int)) (hk:Msg.Kind m=3) (hw:Wait.Line (W n)=(l:Int) + 1) (hb:Wait.Back (W n)=false) (hc:Wait.Came (W n)=false) :
  zey (pl r) m (tb c h S) (tb c h V) (ls c W) (n:Int)=zm4 (pl r) (tb c h S) (tb c h V) (ls c (up W n (Wait.mk (Wait.Line (W n)) (Wait.Write (W n)) false true (Msg.Own m) (decide (Msg.Num m=1)) (Msg.Acks m) (Wait.Got (W n)) (Msg.Val m)))) (n:Int):=by
 have hb':(W n).2.2.1=false:=hb
 unfold zey
 simp only [zaT hn,zar hn,zfd hn,zbC hn,zaT hl,hm,hw,hb,hc,hk,wC0,w1 (show l≤300 by omega),vE0,if_true,vH0,za1 hn,zah]
 have e:∀ x y,up (up W n x) n y=up W n y:=fun x y=>by funext k;unfold up;split<;>rfl
 simp only [e,Wait.setVal_eq,Wait.setKeep_eq,Wait.setOwn_eq,Wait.setNeed_eq,Wait.setCame_eq,Wait.Line_mk,Wait.Write_mk,Wait.Back_mk,Wait.Came_mk,Wait.Own_mk,Wait.Keep_mk,Wait.Need_mk,Wait.Got_mk,Wait.Val_mk,hw,hb]
 cases zm4 (pl r) (tb c h S) (tb c h V) (ls c (up W n (Wait.mk ((l:Int) + 1) (Wait.Write (W n)) false true (Msg.Own m) (decide (Msg.Num m=1)) (Msg.Acks m) (Wait.Got (W n)) (Msg.Val m)))) (n:Int)<;>rfl
theorem zzg (hn:n<c) (hl:l<h) (h16:h≤16) (hm:Msg.Line m=(l:Int)) (hk:Msg.Kind m=5) (hw:Wait.Line (W n)=(l:Int) + 1) (hb:Wait.Write (W n)=true) (hg:0≤Wait.Got (W n)∧Wait.Got (W n)<255) :
  zey (pl r) m (tb c h S) (tb c h V) (ls c W) (n:Int)=zm4 (pl r) (tb c h S) (tb c h V) (ls c (up W n (Wait.setGot (W n) (Wait.Got (W n) + 1)))) (n:Int):=by
 unfold zey
 simp only [zaT hn,zar hn,zfd hn,zbC hn,zaT hl,hm,hw,hb,hk,wC0,w1 (show l≤300 by omega),vE0,if_true,za1 hn,show decide ((5:Int)=3)=false from rfl,wA0,if_false,vC0 hg.2,zcu (n:=Wait.Got (W n) + 1) (by omega) (by omega)]
 cases zm4 (pl r) (tb c h S) (tb c h V) (ls c (up W n (Wait.setGot (W n) (Wait.Got (W n) + 1)))) (n:Int)<;>rfl
theorem zzw (hn:n<c) (hl:l<h) (c4:c≤4) (h16:h≤16) (hr:r.length<64) (hm:Msg.Line m=(l:Int)) (hk:Msg.Kind m=4) (hf:0≤Msg.For m∧Msg.For m<256) :
  zey (pl r) m (tb c h S) (tb c h V) (ls c W) (n:Int)=some (pl (r++[Msg.mk 5 ((n:Int) + 1) (Msg.For m) (l:Int) 0 0 false 0 0]),tb c h (if S n l=1 then up2 S n l 0 else S),tb c h V,ls c W):=by
 have M:zdo (Msg.mk 5 ((n:Int) + 1) (Msg.For m) (l:Int) 0 0 false 0 0):=by
  refine ⟨?_,?_,?_,?_,?_,?_,u0,u0⟩<;>simp only [Msg.Kind_mk,Msg.From_mk,Msg.To_mk,Msg.Line_mk,Msg.For_mk,Msg.Acks_mk]<;>omega
 have sd:=zbK (ms:=r) M hr
 unfold zey
 simp only [zaT hn,zar hn,zfd hn,zbC hn,zaT hl,zar hl,hm,hk,wC0,w1 (show n≤300 by omega),vE0,if_true,show decide ((4:Int)=3)=false from rfl,show decide ((4:Int)=5)=false from rfl,wA0,if_false,za1 hl,zgt hn,sd]
 by_cases q:S n l=1
 ·simp only [q,vE0,if_true,wC0]
 ·simp only [q,vF0,wA0,if_false,wC0]
theorem zoj {s:Int}:zcN s=decide (1<s):=by unfold zcN;rw [decide_eq_decide];omega
theorem zzt (hn:n<c) (hl:l<h) (c4:c≤4) (h16:h≤16) (hr:r.length<64) (hm:Msg.Line m=(l:Int)) (hk:Msg.Kind m=6) (hf:0≤Msg.For m∧Msg.For m<256) (ha:0≤Msg.Acks m∧Msg.Acks m<256) (hv:U32 (V n l)) (hs:1<S n l) :
  zey (pl r) m (tb c h S) (tb c h V) (ls c W) (n:Int)=some (pl (r++[Msg.mk 3 ((n:Int) + 1) (Msg.For m) (l:Int) 0 (Msg.Acks m) false 0 (V n l)]),tb c h (up2 S n l 4),tb c h V,ls c W):=by
 have M:zdo (Msg.mk 3 ((n:Int) + 1) (Msg.For m) (l:Int) 0 (Msg.Acks m) false 0 (V n l)):=by
  refine ⟨?_,?_,?_,?_,?_,?_,u0,hv⟩<;>simp only [Msg.Kind_mk,Msg.From_mk,Msg.To_mk,Msg.Line_mk,Msg.For_mk,Msg.Acks_mk]<;>omega
 have sd:=zbK (ms:=r) M hr
 unfold zey
 simp only [zaT hn,zar hn,zfd hn,zbC hn,zaT hl,zar hl,hm,hk,wC0,w1 (show n≤300 by omega),vE0,if_true,cond_true,show decide ((6:Int)=3)=false from rfl,show decide ((6:Int)=5)=false from rfl,show decide ((6:Int)=4)=false from rfl,show decide ((6:Int)=7)=false from rfl,wA0,if_false,za1 hl,zgt hn,zoj,hs,wH0,sd]
theorem zzq (hn:n<c) (hl:l<h) (c4:c≤4) (h16:h≤16) (hr:r.length<64) (hm:Msg.Line m=(l:Int)) (hk:Msg.Kind m=7) (hf:0≤Msg.For m∧Msg.For m<256) (ha:0≤Msg.Acks m∧Msg.Acks m<256) (hv:U32 (V n l)) (hs:1<S n l) :
  zey (pl r) m (tb c h S) (tb c h V) (ls c W) (n:Int)=some (pl (r++[Msg.mk 3 ((n:Int) + 1) (Msg.For m) (l:Int) 0 (Msg.Acks m) true 0 (V n l)]),tb c h (up2 S n l 0),tb c h V,ls c W):=by
 have M:zdo (Msg.mk 3 ((n:Int) + 1) (Msg.For m) (l:Int) 0 (Msg.Acks m) true 0 (V n l)):=by
  refine ⟨?_,?_,?_,?_,?_,?_,u0,hv⟩<;>simp only [Msg.Kind_mk,Msg.From_mk,Msg.To_mk,Msg.Line_mk,Msg.For_mk,Msg.Acks_mk]<;>omega
 have sd:=zbK (ms:=r) M hr
 have e:up2 S n l 4 n=up (S n) l 4:=zah
 have e2:zzI (tb c h (up2 S n l 4)) (n:Int) (ls h (up (up2 S n l 4 n) l 0))=some (tb c h (up2 S n l 0)):=by rw [zgt hn,zu1]
 have e3:zzI (ls h (up2 S n l 4 n)) (l:Int) 0=some (ls h (up (up2 S n l 4 n) l 0)):=za1 hl
 unfold zey
 simp only [zaT hn,zar hn,zfd hn,zbC hn,zaT hl,zar hl,hm,hk,wC0,w1 (show n≤300 by omega),vE0,if_true,cond_false,show decide ((7:Int)=3)=false from rfl,show decide ((7:Int)=5)=false from rfl,show decide ((7:Int)=4)=false from rfl,show decide ((7:Int)=6)=false from rfl,wA0,if_false,za1 hl,zgt hn,zoj,hs,wH0,sd,e2,e3,zu1]
theorem zze (hn:n<c) (hl:l<h) (h16:h≤16) (hm:Msg.Line m=(l:Int)) (hk:Msg.Kind m=9) (hw:Wait.Line (W n)=(l:Int) + 1) (hb:Wait.Back (W n)=true) :
  zey (pl r) m (tb c h S) (tb c h V) (ls c W) (n:Int)=some (pl r,tb c h (up2 S n l 0),tb c h V,ls c (up W n w00)):=by
 unfold zey
 simp only [zaT hn,zar hn,zfd hn,zbC hn,zaT hl,hm,hw,hb,hk,wC0,w1 (show l≤300 by omega),vE0,if_true,cond_false,za1 hn,za1 hl,zgt hn,show decide ((9:Int)=3)=false from rfl,show decide ((9:Int)=5)=false from rfl,show decide ((9:Int)=4)=false from rfl,show decide ((9:Int)=6)=false from rfl,show decide ((9:Int)=7)=false from rfl,show decide ((9:Int)=10)=false from rfl,wA0,if_false]
 rfl
theorem zxK (hn:n<c) (hl:l<h) (c4:c≤4) (h16:h≤16) (hr:r.length<64) (hm:Msg.Line m=(l:Int)) (hk:Msg.Kind m=10) (hw:Wait.Line (W n)=(l:Int) + 1) (hb:Wait.Back (W n)=false) (hc:Wait.Came (W n)=false) :
  zey (pl r) m (tb c h S) (tb c h V) (ls c W) (n:Int)=some (pl (r++[zAe n l (Wait.Write (W n))]),tb c h S,tb c h V,ls c W):=by
 have M:=zot (n:=n) (l:=l) (by omega) (by omega) (Wait.Write (W n))
 have sd:=zbK (ms:=r) M hr
 unfold zAe at sd
 unfold zey
 simp only [zaT hn,zar hn,zfd hn,zbC hn,zaT hl,hm,hw,hb,hc,hk,wC0,w1 (show l≤300 by omega),w1 (show n≤300 by omega),w2 (show l≤300 by omega),vE0,if_true,cond_false,show decide ((10:Int)=3)=false from rfl,show decide ((10:Int)=5)=false from rfl,show decide ((10:Int)=4)=false from rfl,show decide ((10:Int)=6)=false from rfl,show decide ((10:Int)=7)=false from rfl,wH0,wA0,if_false]
 cases hq:Wait.Write (W n)
 ·rw [hq] at sd
  simp only [cond_false,wA0,if_false] at sd ⊢
  rw [sd]
  rfl
 ·rw [hq] at sd
  simp only [cond_true,if_true] at sd ⊢
  rw [show (Msg.setKind (Msg.mk (1:Int) ((n:Int) + 1) 0 (l:Int) ((n:Int) + 1) 0 false 0 0) 2)=Msg.mk (2:Int) ((n:Int) + 1) 0 (l:Int) ((n:Int) + 1) 0 false 0 0 from rfl,sd]
  rfl
theorem zye (hn:n<c) (hl:l<h) (c4:c≤4) (h16:h≤16) (hr:r.length<64) (hm:Msg.Line m=(l:Int)) (hk:Msg.Kind m=10) (hw:Wait.Line (W n)=(l:Int) + 1) (hb:Wait.Back (W n)=true) (hc:Wait.Came (W n)=false) (hv:U32 (V n l)) (hs:1<S n l) :
  zey (pl r) m (tb c h S) (tb c h V) (ls c W) (n:Int)=some (pl (r++[zAd n l (V n l)]),tb c h S,tb c h V,ls c W):=by
 have M:=zn9 (n:=n) (l:=l) (by omega) (by omega) hv
 have sd:=zbK (ms:=r) M hr
 unfold zAd at sd
 unfold zey
 simp only [zaT hn,zar hn,zfd hn,zbC hn,zaT hl,zar hl,hm,hw,hb,hc,hk,hs,zoj,wC0,w1 (show l≤300 by omega),w1 (show n≤300 by omega),w2 (show l≤300 by omega),vE0,if_true,cond_false,show decide ((10:Int)=3)=false from rfl,show decide ((10:Int)=5)=false from rfl,show decide ((10:Int)=4)=false from rfl,show decide ((10:Int)=6)=false from rfl,show decide ((10:Int)=7)=false from rfl,wH0,wA0,if_false,Msg.Line_mk]
 rw [show Msg.setVal (Msg.setFor (Msg.setKind (Msg.mk (1:Int) ((n:Int) + 1) 0 (l:Int) ((n:Int) + 1) 0 false 0 0) 8) 0) (V n l)=Msg.mk 8 ((n:Int) + 1) 0 (l:Int) 0 0 false 0 (V n l) from rfl,sd]
 rfl
theorem zxz (hn:n<c) (hl:l<h) (h16:h≤16) (hm:Msg.Line m=(l:Int)) (hk:Msg.Kind m=10) (hw:Wait.Line (W n)=(l:Int) + 1) (hb:Wait.Back (W n)=true) (hc:Wait.Came (W n)=false) (hs:¬ 1<S n l) :
  zey (pl r) m (tb c h S) (tb c h V) (ls c W) (n:Int)=some (pl r,tb c h S,tb c h V,ls c (up W n w00)):=by
 unfold zey
 simp only [zaT hn,zar hn,zfd hn,zbC hn,zaT hl,zar hl,hm,hw,hb,hc,hk,hs,zoj,wC0,w1 (show l≤300 by omega),vE0,vF0,if_true,cond_false,show decide ((10:Int)=3)=false from rfl,show decide ((10:Int)=5)=false from rfl,show decide ((10:Int)=4)=false from rfl,show decide ((10:Int)=6)=false from rfl,show decide ((10:Int)=7)=false from rfl,wH0,vH0,wA0,if_false,za1 hn]
 rfl
end
end Go.Proofs.Ytlgjbfdojbmmgaa
