/- Pools. -/
import Derived.Test.YtlgjbfdojbmmgaaR1
set_option linter.unusedSimpArgs false
set_option linter.unusedVariables false
namespace Go.Proofs.Ytlgjbfdojbmmgaa
open Go.SX
theorem ziG {f:Int→Option (Int⊕Unit⊕Int)}{n:Nat}(ok:Nat→Bool) (step:∀ i,i<n→f (i:Int)=some (if ok i=true then .inl ((i + 1:Nat):Int) else .inr (.inr (i:Int)))) (out:f (n:Int)=some (.inr (.inl ()))) :
  ((zbv (zae f (0:Int)) fun _=>some (-1:Int)).bind fun v=>some (decide ((0:Int)≤v)))=some (!(List.range n).all ok):=by
 have lp:=zj5 (f:=f) (n:=n) (fun i=>(i:Int)) ok (e:=(Sum.inl ():Unit⊕Int)) (r:=fun i=>.inr (i:Int)) (fun i hi _=>step i hi) (fun _=>out)
 rw [show (((0:Nat):Int))=0 from rfl] at lp
 have f1:=(zci ok n).1
 have f2:=zhi (ok:=ok) (n:=n)
 rw [← zbM] at f2
 rw [lp]
 by_cases ha:(List.range n).all ok=true
 ·have:=f2.2 ha
  rw [if_neg (show ¬ zbx ok n<n by omega),ha]
  rfl
 ·have:zbx ok n<n:=by
   rcases vU0 (zbx ok n) n with q|q
   ·exact q
   ·exact absurd (f2.1 (by omega)) ha
  rw [if_pos this,Bool.eq_false_iff.2 ha]
  have h0:(0:Int)≤((zbx ok n:Nat):Int):=by omega
  simp only [ze1,wC0,h0,vE0,vH0]
def zfg (p:Pool):Bool:=decide ((Pool.Frames p).length≤64)&&(Pool.Frames p).all fun b=>decide (b.length=19)
theorem zct (p:Pool) (hl:(Pool.Frames p).length≤1000):zcK p=some (zfg p):=by
 unfold zcK zfg
 obtain ⟨fr,hfr⟩:∃ fr,fr=Pool.Frames p:=⟨_,rfl⟩
 rw [← hfr] at hl ⊢
 have lp:=ziG (f:=zdz fr (List.length fr:Int)) (n:=fr.length) (fun i=>zz4 (fun b=>decide (b.length=19)) fr[i]?) (fun i hi=>by
  have hlt:(i:Int)<(List.length fr:Int):=by omega
  rw [zdm hi]
  unfold zdz zgu
  simp only [hlt,vE0,if_true,zbd hi,wC0,zaw (show i<4611686018427387904 by omega)]
  by_cases h:fr[i].length=19
  ·have h':(fr[i].length:Int)=19:=by omega
   simp only [h,h',vE0,wH0,wA0,if_false,if_true]
   rfl
  ·have h':¬ (fr[i].length:Int)=19:=by omega
   simp only [h,h',vF0,vH0,wA0,if_false,if_true]) (by
  unfold zdz
  simp only [show ¬ (List.length fr:Int)<(List.length fr:Int) by omega,vF0,wA0,if_false])
 rw [← zeN] at lp
 by_cases h:fr.length≤64
 ·have h':(List.length fr:Int)≤64:=by omega
  simp only [h,h',vE0,if_true,vB1]
  simp only [lp,wC0,Bool.not_not]
 ·have h':¬ (List.length fr:Int)≤64:=by omega
  simp only [h,h',vF0,wA0,if_false,vC1,wC0]
theorem zgO {p:Pool}:zfg p=true↔(Pool.Frames p).length≤64∧∀ b∈Pool.Frames p,b.length=19:=by
 unfold zfg
 rw [wD0,vG0,List.all_eq_true]
 exact ⟨fun h=>⟨h.1,fun b hb=>of_decide_eq_true (h.2 b hb)⟩,fun h=>⟨h.1,fun b hb=>vC0 (h.2 b hb)⟩⟩
theorem zkb (p:Pool) (hl:(Pool.Frames p).length≤1000):zcr p=some (if zfg p=true then 64 - ((Pool.Frames p).length:Int) else 0):=by
 unfold zcr
 rw [zct p hl]
 cases h:zfg p
 ·rfl
 ·have:=(zgO.1 h).1
  have hw:w64 ((64:Int) - (List.length (Pool.Frames p):Int))=64 - (List.length (Pool.Frames p):Int):=zcu (by omega) (by omega)
  simp only [wC0,wH0,wA0,if_false,hw,if_true]
theorem zlQ {f:(Int×(List (List Int)))→Option ((Int×(List (List Int)))⊕(List (List Int)))}{fr:List (List Int)}(hf:∀ s,f s=(if decide (s.1<(List.length fr:Int)) then
  (zzG fr s.1).bind fun v10 =>
  (zat 1 v10).bind fun v11 =>
  (zzN 24 s.2 ([v11]:List (List Int))).bind fun v13 =>
  some (Sum.inl (w64 (s.1 + (1:Int)),v13))
 else
  some (Sum.inr (s.2)))) (hl:fr.length≤1000) (hb:∀ b∈fr,b.length≤1000):zae f ((0:Int),([]:List (List Int)))=some fr:=by
 have lp:=zaF (f:=f) (n:=fr.length) (e:=fr) (fun i=>((i:Int),fr.take i)) (fun i hi=>by
  have hlt:(i:Int)<(List.length fr:Int):=by omega
  have hbi:=hb _ (List.getElem_mem hi)
  have hc:zat 1 fr[i]=some fr[i]:=zdj (by omega) (by omega)
  have ha:zzN 24 (fr.take i) ([fr[i]]:List (List Int))=some (fr.take (i + 1)):=by
   rw [zcP (by simp;omega) (by omega),zbq hi]
  rw [hf]
  simp only [hlt,vE0,if_true,zbd hi,wC0,hc,ha,zaw (show i<4611686018427387904 by omega)]) (by
  rw [hf]
  simp only [show ¬ (fr.length:Int)<(List.length fr:Int) by omega,vF0,wA0,if_false,List.take_length])
 exact lp
def zxf (p:Pool):Prop:=(Pool.Frames p).length≤1000∧∀ b∈Pool.Frames p,b.length≤1000
theorem zfn {p:Pool}(h:zfg p=true):zxf p:=by
 obtain ⟨h1,h2⟩:=zgO.1 h
 exact ⟨by omega,fun b hb=>by have:=h2 b hb;omega⟩
theorem zpk (p:Pool) (hp:zxf p) (m:Msg) (hn:0≤Msg.Num m∧Msg.Num m<4294967296) (hv:0≤Msg.Val m∧Msg.Val m<4294967296) :
  (∃ x:Nums,x.Ok∧m=x.msg∧zfg p=true∧(Pool.Frames p).length<64∧zaf p m=some (Pool.mk (Pool.Frames p++[zaH (zav x)]),0)) ∨
  (∃ e,e≠0∧zaf p m=some (p,e)∧(zAb m=true→zfg p=true→64≤(Pool.Frames p).length)):=by
 have hcp:=zlQ (f:=zgA (Pool.Frames p) (List.length (Pool.Frames p):Int)) (fr:=Pool.Frames p) (fun s=>rfl) hp.1 hp.2
 have heta:Pool.mk (Pool.Frames p)=p:=rfl
 unfold zaf
 cases hm:zAb m
 ·right
  refine ⟨1,by decide,?_,fun q=>(by cases q)⟩
  rw [zy2 hm,zct p hp.1]
  cases zfg p
  ·simp only [wC0,vH0,if_true,hcp,heta]
  ·simp only [wC0,wH0,wA0,if_false,show ¬ (1:Int)=0 by omega,vF0,vH0,if_true,hcp,heta]
 ·obtain ⟨x,hx,rfl⟩:=ztB hm hn hv
  rw [put_eq hx,zct p hp.1]
  cases hr:zfg p
  ·right
   refine ⟨1,by decide,?_,fun _ q=>(by cases q)⟩
   simp only [wC0,vH0,if_true,hcp,heta]
  ·obtain ⟨h1,h2⟩:=zgO.1 hr
   have hroom:=zkb p hp.1
   rw [hr,if_pos rfl] at hroom
   by_cases h64:(Pool.Frames p).length<64
   ·left
    refine ⟨x,hx,rfl,rfl,h64,?_⟩
    have hne:¬ (64:Int) - ((Pool.Frames p).length:Int)=0:=by omega
    have hc:zat 1 (zaH (zav x))=some (zaH (zav x)):=zdj (by rw [zbo,(zfV hx).len];omega) (by omega)
    have ha:zzN 24 (Pool.Frames p) ([zaH (zav x)]:List (List Int))=some (Pool.Frames p++[zaH (zav x)]):=zcP (by simp;omega) (by omega)
    simp only [wC0,wH0,wA0,if_false,vE0,hcp,heta,hroom,hne,vF0,hc,ha]
   ·right
    refine ⟨6,by decide,?_,fun _ _=>by omega⟩
    have he:(64:Int) - ((Pool.Frames p).length:Int)=0:=by omega
    simp only [wC0,wH0,wA0,if_false,vE0,hcp,heta,hroom,he,if_true]
theorem zmp (p:Pool) (hl:(Pool.Frames p).length≤1000) (n:Int):zkW p n=some (if zfg p=true then (if n<0∨((Pool.Frames p).length:Int)≤n then 7 else 0) else 1):=by
 unfold zkW
 rw [zct p hl]
 cases zfg p
 ·rfl
 ·by_cases h:n<0∨((Pool.Frames p).length:Int)≤n
  ·have:((decide (n<(0:Int)))||(decide ((List.length (Pool.Frames p):Int)≤n)))=true:=by simp only [Bool.or_eq_true,vG0];exact h
   simp only [wC0,wH0,wA0,if_false,this,if_true,if_pos h]
  ·have:((decide (n<(0:Int)))||(decide ((List.length (Pool.Frames p):Int)≤n)))=false:=by
    rw [Bool.eq_false_iff];intro q;simp only [Bool.or_eq_true,vG0] at q;exact h q
   simp only [wC0,wH0,wA0,if_false,this,if_true,if_neg h]
theorem zqv (p:Pool) (hr:zfg p=true) (n:Nat) (hn:n<(Pool.Frames p).length):zgj p (n:Int)=some (Pool.mk ((Pool.Frames p).eraseIdx n),0):=by
 have hp:=zfn hr
 have hcp:=zlQ (f:=zgD (Pool.Frames p) (List.length (Pool.Frames p):Int)) (fr:=Pool.Frames p) (fun s=>rfl) hp.1 hp.2
 obtain ⟨h1,h2⟩:=zgO.1 hr
 obtain ⟨fr,hfr⟩:∃ fr,fr=Pool.Frames p:=⟨_,rfl⟩
 have hh:=zmp p hp.1 (n:Int)
 rw [hr,if_pos rfl,if_neg (by omega)] at hh
 unfold zgj
 rw [← hfr] at hcp hn h1 ⊢
 have hw:w64 ((n:Int) + 1)=((n + 1:Nat):Int):=zaw (by omega)
 have e1:zuW (List.length fr:Int) (n:Int) ((n + 1:Nat):Int) (List.length fr:Int)=some ((n + 1:Nat):Int):=by
  unfold zuW
  rw [if_pos ⟨by omega,by omega,by omega,rfl⟩]
 have e2:¬ (n:Int)=((n + 1:Nat):Int):=by omega
 have e3:zAl (List.length fr:Int) (0:Int) (n:Int)=some (n:Int):=by unfold zAl;rw [if_pos (by omega)]
 have e4:zAl (List.length fr:Int) ((n + 1:Nat):Int) (List.length fr:Int)=some (List.length fr:Int):=by unfold zAl;rw [if_pos (by omega)]
 have e5:zzR fr ((n + 1:Nat):Int) (List.length fr:Int)=some (fr.drop (n + 1)):=by
  rw [zit (by omega) (wG0 _),List.take_length]
 obtain ⟨buf,b1,b2,b3⟩:=zka (b:=24) (buf:=fr) (x:=fr.drop (n + 1)) (p:=n) (by omega) (by rw [vR0];omega) (by omega)
 have hdl:(fr.drop (n + 1)).length=fr.length - (n + 1):=by simp
 have hbl:buf.length=fr.length:=by
  unfold zoO at b1
  by_cases hc:0≤(n:Int)∧(n:Int)≤fr.length∧zaX ((n:Int).toNat + (fr.drop (n + 1)).length) 24=true
  ·rw [if_pos hc] at b1
   rw [← Option.some.inj b1]
   simp only [wI0,wE0,vR0,Int.toNat_natCast]
   omega
  ·rw [if_neg hc] at b1;cases b1
 have hk:n + (fr.drop (n + 1)).length=fr.length - 1:=by omega
 have e6:(n:Int) + ((fr.drop (n + 1)).length:Int)=((fr.length - 1:Nat):Int):=by omega
 have e7:zvx (List.length buf:Int) (0:Int) (((fr.length - 1:Nat):Int) - 0) (List.length fr:Int)=some (List.length fr:Int):=by
  unfold zvx
  rw [if_pos (by omega),Int.zero_add]
 have e8:(0:Int) + (((fr.length - 1:Nat):Int) - 0)=((fr.length - 1:Nat):Int):=by omega
 have e9:zzR buf ((fr.length - 1:Nat):Int) (List.length fr:Int)=some (buf.drop (fr.length - 1)):=by
  rw [show (List.length fr:Int)=((buf.length:Nat):Int) by omega,zit (by omega) (wG0 _),List.take_length]
 have e10:∃ buf2,zul buf ((fr.length - 1:Nat):Int) (List.length fr:Int) (List.replicate (buf.drop (fr.length - 1)).length ([]:List Int))=some buf2∧buf2.take (fr.length - 1)=buf.take (fr.length - 1)∧fr.length - 1≤buf2.length:=by
  unfold zul
  rw [if_pos (by omega)]
  refine ⟨_,rfl,?_,?_⟩
  ·rw [Int.toNat_natCast,List.take_append_of_le_length (by rw [wE0];omega),List.take_take,Nat.min_self]
  ·rw [wI0,wE0,Int.toNat_natCast]
   omega
 obtain ⟨buf2,c1,c2,c3⟩:=e10
 have e11:zzR buf2 (0:Int) ((fr.length - 1:Nat):Int)=some (fr.eraseIdx n):=by
  have:=zit (l:=buf2) (i:=0) (j:=fr.length - 1) (by omega) c3
  rw [List.drop_zero,c2] at this
  rw [hk] at b2
  rw [b2] at this
  rw [List.eraseIdx_eq_take_drop_succ]
  exact this
 simp only [hh,hcp,wC0,vE0,if_true,hw,e1,e2,vF0,wA0,if_false,e3,e4,e5,b1,e6,e7,e8,e9,c1,e11]
theorem zpi (p:Pool) (hr:zfg p=true) (n:Nat) (hn:n<(Pool.Frames p).length) (x:Nums) (hx:x.Ok) (hf:(Pool.Frames p)[n]=zaH (zav x)):zdd p (n:Int)=some (Pool.mk ((Pool.Frames p).eraseIdx n),x.msg,0):=by
 have hby:=zfV hx
 have hrd:=zoJ (zav x) (by rw [hby.len];omega) hby.lt
 rw [zuj hx] at hrd
 unfold zdd
 rw [zqv p hr n hn]
 simp only [wC0,vE0,wH0,wA0,if_false,zbd hn,hf,hrd]
end Go.Proofs.Ytlgjbfdojbmmgaa
