/- Pools. -/
import Derived.Test.YtdfohlonacbelaaGreatQ1
set_option linter.unusedSimpArgs false
set_option linter.unusedVariables false
namespace Go.Proofs.YtdfohlonacbelaaGreat
open Go.SX
theorem zjQ {f:Int→Option (Int⊕Unit⊕Int)}{n:Nat}(ok:Nat→Bool) (step:∀ i,i<n→f (i:Int)=some (if ok i=true then .inl ((i + 1:Nat):Int) else .inr (.inr (i:Int)))) (out:f (n:Int)=some (.inr (.inl ()))) :
  ((zaG (zai f (0:Int)) fun _=>some (-1:Int)).bind fun v=>some (decide ((0:Int)≤v)))=some (!(List.range n).all ok):=by
 have lp:=zls (f:=f) (n:=n) (fun i=>(i:Int)) ok (e:=(Sum.inl ():Unit⊕Int)) (r:=fun i=>.inr (i:Int)) (fun i hi _=>step i hi) (fun _=>out)
 rw [show (((0:Nat):Int))=0 from rfl] at lp
 have f1:=(zcD ok n).1
 have f2:=zhS (ok:=ok) (n:=n)
 rw [← za5] at f2
 rw [lp]
 by_cases ha:(List.range n).all ok=true
 ·have:=f2.2 ha
  rw [if_neg (show ¬ zbG ok n<n by omega),ha]
  rfl
 ·have:zbG ok n<n:=by
   rcases Nat.lt_or_ge (zbG ok n) n with q|q
   ·exact q
   ·exact absurd (f2.1 (by omega)) ha
  rw [if_pos this,Bool.eq_false_iff.2 ha]
  have h0:(0:Int)≤((zbG ok n:Nat):Int):=by omega
  simp only [za0,wC0,h0,decide_true,Bool.not_false]
def zdD (p:Pool):Bool:=decide ((Pool.Frames p).length≤64)&&(Pool.Frames p).all fun b=>decide (b.length=19)
theorem zbZ (p:Pool) (hl:(Pool.Frames p).length≤1000):zcR p=some (zdD p):=by
 unfold zcR zdD
 obtain ⟨fr,hfr⟩:∃ fr,fr=Pool.Frames p:=⟨_,rfl⟩
 rw [← hfr] at hl ⊢
 have lp:=zjQ (f:=zdP fr (List.length fr:Int)) (n:=fr.length) (fun i=>optT (fun b=>decide (b.length=19)) fr[i]?) (fun i hi=>by
  have hlt:(i:Int)<(List.length fr:Int):=by omega
  rw [zbd hi]
  unfold zdP zht
  simp only [hlt,decide_true,if_true,zab hi,wC0,zat (show i<4611686018427387904 by omega)]
  by_cases h:fr[i].length=19
  ·have h':(fr[i].length:Int)=19:=by omega
   simp only [h,h',decide_true,wH0,wA0,if_false,if_true]
   rfl
  ·have h':¬ (fr[i].length:Int)=19:=by omega
   simp only [h,h',decide_false,Bool.not_false,wA0,if_false,if_true]) (by
  unfold zdP
  simp only [show ¬ (List.length fr:Int)<(List.length fr:Int) by omega,decide_false,wA0,if_false])
 rw [← zbH] at lp
 by_cases h:fr.length≤64
 ·have h':(List.length fr:Int)≤64:=by omega
  simp only [h,h',decide_true,if_true,Bool.true_and]
  simp only [lp,wC0,Bool.not_not]
 ·have h':¬ (List.length fr:Int)≤64:=by omega
  simp only [h,h',decide_false,wA0,if_false,Bool.false_and,wC0]
theorem zdl {p:Pool}:zdD p=true↔(Pool.Frames p).length≤64∧∀ b∈Pool.Frames p,b.length=19:=by
 unfold zdD
 rw [wD0,decide_eq_true_eq,List.all_eq_true]
 exact ⟨fun h=>⟨h.1,fun b hb=>of_decide_eq_true (h.2 b hb)⟩,fun h=>⟨h.1,fun b hb=>decide_eq_true (h.2 b hb)⟩⟩
theorem zhw (p:Pool) (hl:(Pool.Frames p).length≤1000):zcN p=some (if zdD p=true then 64 - ((Pool.Frames p).length:Int) else 0):=by
 unfold zcN
 rw [zbZ p hl]
 cases h:zdD p
 ·rfl
 ·have:=(zdl.1 h).1
  have hw:w64 ((64:Int) - (List.length (Pool.Frames p):Int))=64 - (List.length (Pool.Frames p):Int):=zbc (by omega) (by omega)
  simp only [wC0,wH0,wA0,if_false,hw,if_true]
theorem zoE {f:(Int×(List (List Int)))→Option ((Int×(List (List Int)))⊕(List (List Int)))}{fr:List (List Int)}(hf:∀ s,f s=(if decide (s.1<(List.length fr:Int)) then
  (getO fr s.1).bind fun v10 =>
  (zaD 1 v10).bind fun v11 =>
  (appO 24 s.2 ([v11]:List (List Int))).bind fun v13 =>
  some (Sum.inl (w64 (s.1 + (1:Int)),v13))
 else
  some (Sum.inr (s.2)))) (hl:fr.length≤1000) (hb:∀ b∈fr,b.length≤1000):zai f ((0:Int),([]:List (List Int)))=some fr:=by
 have lp:=zaY (f:=f) (n:=fr.length) (e:=fr) (fun i=>((i:Int),fr.take i)) (fun i hi=>by
  have hlt:(i:Int)<(List.length fr:Int):=by omega
  have hbi:=hb _ (List.getElem_mem hi)
  have hc:zaD 1 fr[i]=some fr[i]:=zbN (by omega) (by omega)
  have ha:appO 24 (fr.take i) ([fr[i]]:List (List Int))=some (fr.take (i + 1)):=by
   rw [zbe (by simp;omega) (by omega),za7 hi]
  rw [hf]
  simp only [hlt,decide_true,if_true,zab hi,wC0,hc,ha,zat (show i<4611686018427387904 by omega)]) (by
  rw [hf]
  simp only [show ¬ (fr.length:Int)<(List.length fr:Int) by omega,decide_false,wA0,if_false,List.take_length])
 exact lp
def zyX (p:Pool):Prop:=(Pool.Frames p).length≤1000∧∀ b∈Pool.Frames p,b.length≤1000
theorem zt1 {p:Pool}(h:zdD p=true):zyX p:=by
 obtain ⟨h1,h2⟩:=zdl.1 h
 exact ⟨by omega,fun b hb=>by have:=h2 b hb;omega⟩
theorem zje (p:Pool) (hl:(Pool.Frames p).length≤1000) (n:Int):zdN p n=some (if zdD p=true then (if n<0∨((Pool.Frames p).length:Int)≤n then 7 else 0) else 1):=by
 unfold zdN
 rw [zbZ p hl]
 cases zdD p
 ·rfl
 ·by_cases h:n<0∨((Pool.Frames p).length:Int)≤n
  ·have:((decide (n<(0:Int)))||(decide ((List.length (Pool.Frames p):Int)≤n)))=true:=by simp only [Bool.or_eq_true,decide_eq_true_eq];exact h
   simp only [wC0,wH0,wA0,if_false,this,if_true,if_pos h]
  ·have:((decide (n<(0:Int)))||(decide ((List.length (Pool.Frames p):Int)≤n)))=false:=by
    rw [Bool.eq_false_iff];intro q;simp only [Bool.or_eq_true,decide_eq_true_eq] at q;exact h q
   simp only [wC0,wH0,wA0,if_false,this,if_true,if_neg h]
theorem zl1 (p:Pool) (hr:zdD p=true) (n:Nat) (hn:n<(Pool.Frames p).length):zfG p (n:Int)=some (Pool.mk ((Pool.Frames p).eraseIdx n),0):=by
 have hp:=zt1 hr
 have hcp:=zoE (f:=zgY (Pool.Frames p) (List.length (Pool.Frames p):Int)) (fr:=Pool.Frames p) (fun s=>rfl) hp.1 hp.2
 obtain ⟨h1,h2⟩:=zdl.1 hr
 obtain ⟨fr,hfr⟩:∃ fr,fr=Pool.Frames p:=⟨_,rfl⟩
 have hh:=zje p hp.1 (n:Int)
 rw [hr,if_pos rfl,if_neg (by omega)] at hh
 unfold zfG
 rw [← hfr] at hcp hn h1 ⊢
 have hw:w64 ((n:Int) + 1)=((n + 1:Nat):Int):=zat (by omega)
 have e1:zw9 (List.length fr:Int) (n:Int) ((n + 1:Nat):Int) (List.length fr:Int)=some ((n + 1:Nat):Int):=by
  unfold zw9
  rw [if_pos ⟨by omega,by omega,by omega,rfl⟩]
 have e2:¬ (n:Int)=((n + 1:Nat):Int):=by omega
 have e3:rngO (List.length fr:Int) (0:Int) (n:Int)=some (n:Int):=by unfold rngO;rw [if_pos (by omega)]
 have e4:rngO (List.length fr:Int) ((n + 1:Nat):Int) (List.length fr:Int)=some (List.length fr:Int):=by unfold rngO;rw [if_pos (by omega)]
 have e5:subO fr ((n + 1:Nat):Int) (List.length fr:Int)=some (fr.drop (n + 1)):=by
  rw [zjA (by omega) (wG0 _),List.take_length]
 obtain ⟨buf,b1,b2,b3⟩:=zkG (b:=24) (buf:=fr) (x:=fr.drop (n + 1)) (p:=n) (by omega) (by rw [List.length_drop];omega) (by omega)
 have hdl:(fr.drop (n + 1)).length=fr.length - (n + 1):=by simp
 have hbl:buf.length=fr.length:=by
  unfold zqY at b1
  by_cases hc:0≤(n:Int)∧(n:Int)≤fr.length∧za6 ((n:Int).toNat + (fr.drop (n + 1)).length) 24=true
  ·rw [if_pos hc] at b1
   rw [← Option.some.inj b1]
   simp only [wI0,wE0,List.length_drop,Int.toNat_natCast]
   omega
  ·rw [if_neg hc] at b1;cases b1
 have hk:n + (fr.drop (n + 1)).length=fr.length - 1:=by omega
 have e6:(n:Int) + ((fr.drop (n + 1)).length:Int)=((fr.length - 1:Nat):Int):=by omega
 have e7:zwC (List.length buf:Int) (0:Int) (((fr.length - 1:Nat):Int) - 0) (List.length fr:Int)=some (List.length fr:Int):=by
  unfold zwC
  rw [if_pos (by omega),Int.zero_add]
 have e8:(0:Int) + (((fr.length - 1:Nat):Int) - 0)=((fr.length - 1:Nat):Int):=by omega
 have e9:subO buf ((fr.length - 1:Nat):Int) (List.length fr:Int)=some (buf.drop (fr.length - 1)):=by
  rw [show (List.length fr:Int)=((buf.length:Nat):Int) by omega,zjA (by omega) (wG0 _),List.take_length]
 have e10:∃ buf2,zxC buf ((fr.length - 1:Nat):Int) (List.length fr:Int) (List.replicate (buf.drop (fr.length - 1)).length ([]:List Int))=some buf2∧buf2.take (fr.length - 1)=buf.take (fr.length - 1)∧fr.length - 1≤buf2.length:=by
  unfold zxC
  rw [if_pos (by omega)]
  refine ⟨_,rfl,?_,?_⟩
  ·rw [Int.toNat_natCast,List.take_append_of_le_length (by rw [wE0];omega),List.take_take,Nat.min_self]
  ·rw [wI0,wE0,Int.toNat_natCast]
   omega
 obtain ⟨buf2,c1,c2,c3⟩:=e10
 have e11:subO buf2 (0:Int) ((fr.length - 1:Nat):Int)=some (fr.eraseIdx n):=by
  have:=zjA (l:=buf2) (i:=0) (j:=fr.length - 1) (by omega) c3
  rw [List.drop_zero,c2] at this
  rw [hk] at b2
  rw [b2] at this
  rw [List.eraseIdx_eq_take_drop_succ]
  exact this
 simp only [hh,hcp,wC0,decide_true,if_true,hw,e1,e2,decide_false,wA0,if_false,e3,e4,e5,b1,e6,e7,e8,e9,c1,e11]
theorem zvW {m:Msg}(h:mayM m=false):zlz m=some (([]:List Int),(1:Int)):=by
 unfold zlz
 rw [zpD,h]
 rfl
theorem zvP {x:Nums}(h:x.Ok):zlz x.msg=some (zam (zbJ x),(0:Int)):=by
 have hb1:=zez x.nu h.nu
 have hb2:=zez x.va h.va
 have hb3:=zez (crcN (zgG x)) zkE
 have hsum:=zpN (zgG x) (by rw [zmV];omega) (zqs h)
 obtain ⟨h1,h2,h3,h4,h5,h6,h7,_,_⟩:=id h
 have hl:[wu8 (Msg.Kind x.msg),wu8 (Msg.From x.msg),wu8 (Msg.To x.msg),wu8 (Msg.Line x.msg),wu8 (Msg.For x.msg),wu8 (Msg.Acks x.msg),(0:Int)]=zam [x.k,x.f,x.t,x.li,x.fo,x.ac,0]:=by
  unfold Nums.msg zam
  simp only [Msg.From_mk,Msg.To_mk,Msg.Line_mk,Msg.For_mk,Msg.Acks_mk,Msg.Kind_mk,Msg.Own_mk,zq5,List.map_cons,List.map_nil]
  rw [Nat.mod_eq_of_lt (by omega),Nat.mod_eq_of_lt (by omega),Nat.mod_eq_of_lt (by omega),Nat.mod_eq_of_lt (by omega),Nat.mod_eq_of_lt (by omega),Nat.mod_eq_of_lt (by omega)]
  rfl
 have hs:(if Msg.Own x.msg then
      (idxO (List.length (zam [x.k,x.f,x.t,x.li,x.fo,x.ac,0]):Int) (6:Int)).bind fun v27 =>
      (setO (zam [x.k,x.f,x.t,x.li,x.fo,x.ac,0]) v27 (1:Int)).bind fun v28 =>
      some (v28)
     else
      some (zam [x.k,x.f,x.t,x.li,x.fo,x.ac,0]):Option (List Int))=some (zam (zlr x)):=by
  have ho:Msg.Own x.msg=x.own:=rfl
  unfold zlr
  rw [ho]
  cases x.own<;>rfl
 have a1:appO 1 (zam (zlr x)) (zam (zbb x.nu))=some (zam (zlr x++zbb x.nu)):=by
  rw [zbe (by rw [zaA,zaA];simp [zlr,zbb]) (by omega),zfp]
 have a2:appO 1 (zam (zlr x++zbb x.nu)) (zam (zbb x.va))=some (zam (zgG x)):=by
  rw [zbe (by rw [zaA,zaA];simp [zlr,zbb]) (by omega),← zfp]
  rfl
 have a3:appO 1 (zam (zgG x)) (zam (zbb (crcN (zgG x))))=some (zam (zbJ x)):=by
  rw [zbe (by rw [zaA,zaA,zmV];simp [zbb]) (by omega),← zfp]
  rfl
 have hN:Msg.Num x.msg=(x.nu:Int):=rfl
 have hV:Msg.Val x.msg=(x.va:Int):=rfl
 unfold zlz
 rw [zpD,zuV h,hl]
 simp only [wC0,wH0,wA0,if_false,hs,hN,hV,hb1,hb2,a1,a2,hsum,hb3,a3]
def ze4 (p:Pool):Prop:=(Pool.Frames p).length≤1000∧∀ b∈Pool.Frames p,b.length≤1000∧∀ x∈b,0≤x∧x<256
theorem zpl {p:Pool}(h:ze4 p):zyX p:=⟨h.1,fun b hb=>(h.2 b hb).1⟩
theorem zwJ {p:Pool}(h:ze4 p):zmn p p=some true:=by
 unfold zmn
 have hl:=h.1
 have lp:=zaY (f:=zfS p p) (n:=(Pool.Frames p).length) (e:=(Sum.inl ():Unit⊕Bool)) (fun i=>(i:Int)) (fun i hi=>by
  have hlt:(i:Int)<(List.length (Pool.Frames p):Int):=by omega
  obtain ⟨c,hc,hc2⟩:=zxD (l:=(Pool.Frames p)[i]) (fun x hx=>(h.2 _ (List.getElem_mem hi)).2 x hx)
  have hb:b2sO (Pool.Frames p)[i]=some (Pool.Frames p)[i]:=by rw [hc];exact zg2 hc2
  unfold zfS
  simp only [hlt,decide_true,if_true,zab hi,wC0,hb,wH0,wA0,if_false,zat (show i<4611686018427387904 by omega)]) (by
  unfold zfS
  simp only [show ¬ (List.length (Pool.Frames p):Int)<(List.length (Pool.Frames p):Int) by omega,decide_false,wA0,if_false])
 rw [show (((0:Nat):Int))=0 from rfl] at lp
 simp only [decide_true,wH0,wA0,if_false,lp,zaf]
theorem zeU (p:Pool) (hl:(Pool.Frames p).length≤1000):zfC p=some (zdD p):=by
 unfold zfC zdD
 obtain ⟨fr,hfr⟩:∃ fr,fr=Pool.Frames p:=⟨_,rfl⟩
 have lp:=zdf (f:=zeL p) (n:=fr.length) (g:=fun _=>some true) (fun i=>(i:Int)) (fun i=>decide (i≤63)&&optT (fun b=>decide (b.length=19)) fr[i]?) (fun i hi _=>by
  have hlt:(i:Int)<(List.length fr:Int):=by omega
  rw [zbd hi]
  unfold zeL
  rw [← hfr]
  simp only [hlt,decide_true,if_true,zab hi,wC0,zat (show i<4611686018427387904 by rw [← hfr] at hl;omega)]
  by_cases h3:i≤63
  ·have h3':¬ (63:Int)<(i:Int):=by omega
   by_cases h:fr[i].length=19
   ·have h':(fr[i].length:Int)=19:=by omega
    simp only [h,h',h3,h3',decide_true,decide_false,wH0,wA0,if_false,if_true,wC0,Bool.and_self]
    rfl
   ·have h':¬ (fr[i].length:Int)=19:=by omega
    simp only [h,h',h3,h3',decide_true,decide_false,Bool.not_false,wA0,if_false,if_true,wC0,Bool.and_false]
  ·have h3':(63:Int)<(i:Int):=by omega
   simp only [h3,h3',decide_true,decide_false,wA0,if_false,if_true,wC0,Bool.false_and]) (fun _=>by
  unfold zeL
  rw [← hfr]
  simp only [show ¬ (List.length fr:Int)<(List.length fr:Int) by omega,decide_false,wA0,if_false])
 rw [show (((0:Nat):Int))=0 from rfl] at lp
 rw [lp,← hfr]
 by_cases ha:((List.range fr.length).all fun i=>decide (i≤63)&&optT (fun b:List Int=>decide (b.length=19)) fr[i]?)=true
 ·rw [if_pos ha]
  rw [za5] at ha
  have h1:(fr.all fun b=>decide (b.length=19))=true:=by
   rw [zbH,za5]
   intro i hi
   have:=ha i hi
   rw [wD0] at this
   exact this.2
  have h2:fr.length≤64:=by
   rcases Nat.lt_or_ge 64 fr.length with q|q
   ·have:=ha 64 q
    simp at this
   ·exact q
  rw [h1,decide_eq_true h2]
  rfl
 ·rw [if_neg ha]
  by_cases h2:fr.length≤64
  ·have h1:(fr.all fun b=>decide (b.length=19))=false:=by
    rw [Bool.eq_false_iff]
    intro q
    rw [zbH,za5] at q
    refine ha (za5.2 fun i hi=>?_)
    rw [wD0]
    exact ⟨decide_eq_true (by omega),q i hi⟩
   rw [h1,Bool.and_false]
  ·rw [decide_eq_false h2]
   rfl
theorem zmB (p:Pool) (hl:(Pool.Frames p).length≤1000) (n:Int):zhz p n=zdN p n:=by
 unfold zhz zdN
 rw [zeU p hl,zbZ p hl]
theorem zxZ {p:Pool}(h:ze4 p) (hl:(Pool.Frames p).length≤64) {b:List Int}(hb:b.length≤1000∧∀ x∈b,0≤x∧x<256):ze4 (Pool.mk (Pool.Frames p++[b])):=by
 refine ⟨by show (Pool.Frames p++[b]).length≤1000;simp;omega,fun c hc=>?_⟩
 rcases List.mem_append.1 hc with q|q
 ·exact h.2 c q
 ·rw [List.mem_singleton.1 q];exact hb
theorem zz4 (p:Pool) (hp:ze4 p) (b:List Int):zq7 p b=some (if 64≤(Pool.Frames p).length then (p,6) else (Pool.mk (Pool.Frames p++[b]),0)):=by
 unfold zq7
 have hl:=hp.1
 by_cases h:64≤(Pool.Frames p).length
 ·rw [decide_eq_true (show (64:Int)≤(List.length (Pool.Frames p):Int) by omega),if_pos rfl,if_pos h]
 ·have a1:appO 24 ([]:List (List Int)) (Pool.Frames p)=some (Pool.Frames p):=by rw [zbe (by simp;omega) (by omega),List.nil_append]
  have a2:appO 24 (Pool.Frames p) ([b]:List (List Int))=some (Pool.Frames p++[b]):=zbe (by simp;omega) (by omega)
  rw [decide_eq_false (show ¬ (64:Int)≤(List.length (Pool.Frames p):Int) by omega),if_neg (by simp),if_neg h,a1,wC0,a2]
  rfl
theorem znh {x:Nums}(h:x.Ok):(zam (zbJ x)).length≤1000∧∀ y∈zam (zbJ x),0≤y∧y<256:=by
 have hb:=znD h
 refine ⟨by rw [zaA,hb.len];omega,fun y hy=>?_⟩
 obtain ⟨n,hn,rfl⟩:=List.mem_map.1 hy
 have:=hb.lt n hn
 omega
theorem zxB (p:Pool) (hp:ze4 p) (m:Msg) (hn:0≤Msg.Num m∧Msg.Num m<4294967296) (hv:0≤Msg.Val m∧Msg.Val m<4294967296):∃ q e,zak p m=some (q,e)∧zmx p m=some (q,e)∧ze4 q:=by
 have hsp:=zpl hp
 have hcp:=zoE (f:=zhy (Pool.Frames p) (List.length (Pool.Frames p):Int)) (fr:=Pool.Frames p) (fun s=>rfl) hsp.1 hsp.2
 have heta:Pool.mk (Pool.Frames p)=p:=rfl
 unfold zak zmx
 cases hm:mayM m
 ·refine ⟨p,1,?_,?_,hp⟩
  ·rw [zzN hm,zbZ p hp.1]
   cases zdD p
   ·simp only [wC0,Bool.not_false,if_true,hcp,heta]
   ·simp only [wC0,wH0,wA0,if_false,show ¬ (1:Int)=0 by omega,decide_false,Bool.not_false,if_true,hcp,heta]
  ·rw [zvW hm,zeU p hp.1]
   cases zdD p<;>rfl
 ·obtain ⟨x,hx,rfl⟩:=zzA hm hn hv
  rw [put_eq hx,zvP hx,zbZ p hp.1,zeU p hp.1]
  cases hr:zdD p
  ·refine ⟨p,1,?_,rfl,hp⟩
   simp only [wC0,Bool.not_false,if_true,hcp,heta]
  ·obtain ⟨h1,h2⟩:=zdl.1 hr
   have hroom:=zhw p hp.1
   rw [hr,if_pos rfl] at hroom
   have had:=zz4 p hp (zam (zbJ x))
   by_cases h64:64≤(Pool.Frames p).length
   ·rw [if_pos h64] at had
    refine ⟨p,6,?_,?_,hp⟩
    ·have he:(64:Int) - ((Pool.Frames p).length:Int)=0:=by omega
     simp only [wC0,wH0,wA0,if_false,decide_true,hcp,heta,hroom,he,if_true]
    ·simp only [wC0,wH0,wA0,if_false,decide_true,had]
   ·rw [if_neg h64] at had
    refine ⟨Pool.mk (Pool.Frames p++[zam (zbJ x)]),0,?_,?_,zxZ hp h1 (znh hx)⟩
    ·have hne:¬ (64:Int) - ((Pool.Frames p).length:Int)=0:=by omega
     have hc:zaD 1 (zam (zbJ x))=some (zam (zbJ x)):=zbN (by have:=(znh hx).1;omega) (by omega)
     have ha:appO 24 (Pool.Frames p) ([zam (zbJ x)]:List (List Int))=some (Pool.Frames p++[zam (zbJ x)]):=zbe (by simp;omega) (by omega)
     simp only [wC0,wH0,wA0,if_false,decide_true,hcp,heta,hroom,hne,decide_false,hc,ha]
    ·simp only [wC0,wH0,wA0,if_false,decide_true,had]
theorem zv9 {p:Pool}(h:ze4 p) (n:Nat):ze4 (Pool.mk ((Pool.Frames p).eraseIdx n)):=by
 refine ⟨?_,fun b hb=>h.2 b (List.mem_of_mem_eraseIdx hb)⟩
 show ((Pool.Frames p).eraseIdx n).length≤1000
 have:=List.length_eraseIdx_le (Pool.Frames p) n
 have:=h.1
 omega
theorem zxc (p:Pool) (hp:ze4 p) (n:Int):(∃ e,e≠0∧zdN p n=some e)∨∃ k:Nat,n=(k:Int)∧k<(Pool.Frames p).length∧zdD p=true∧zdN p n=some 0:=by
 have hh:=zje p hp.1 n
 cases hr:zdD p
 ·rw [hr,if_neg (by simp)] at hh
  exact .inl ⟨1,by decide,hh⟩
 ·rw [hr,if_pos rfl] at hh
  by_cases h:n<0∨((Pool.Frames p).length:Int)≤n
  ·rw [if_pos h] at hh
   exact .inl ⟨7,by decide,hh⟩
  ·rw [if_neg h] at hh
   exact .inr ⟨n.toNat,by omega,by omega,rfl,hh⟩
theorem zxf (p:Pool) (hp:ze4 p) (n:Int):∃ q e,zfG p n=some (q,e)∧zjH p n=some (q,e)∧ze4 q∧(e≠0→q=p)∧∀ e',zdN p n=some e'→e=e':=by
 have hsp:=zpl hp
 have heta:Pool.mk (Pool.Frames p)=p:=rfl
 rcases zxc p hp n with ⟨e,h1,h2⟩|⟨k,rfl,h2,h3,h4⟩
 ·refine ⟨p,e,?_,?_,hp,fun _=>rfl,fun e' h=>by rw [h2] at h;exact Option.some.inj h⟩
  ·have hcp:=zoE (f:=zgY (Pool.Frames p) (List.length (Pool.Frames p):Int)) (fr:=Pool.Frames p) (fun s=>rfl) hsp.1 hsp.2
   have hsub:subO (Pool.Frames p) (0:Int) (List.length (Pool.Frames p):Int)=some (Pool.Frames p):=by
    have:=zjA (l:=Pool.Frames p) (i:=0) (j:=(Pool.Frames p).length) (by omega) (wG0 _)
    rw [List.drop_zero,List.take_length] at this
    exact this
   unfold zfG
   simp only [h2,hcp,wC0,h1,decide_false,wA0,if_false,hsub,heta]
  ·unfold zjH
   rw [zmB p hp.1,h2]
   simp only [wC0,h1,decide_false,Bool.not_false,if_true]
 ·refine ⟨_,0,zl1 p h3 k h2,?_,zv9 hp k,fun q=>absurd rfl q,fun e' h=>by rw [h4] at h;exact Option.some.inj h⟩
  have hl:=hp.1
  obtain ⟨fr,hfr⟩:∃ fr,fr=Pool.Frames p:=⟨_,rfl⟩
  have lp:=zaY (f:=zgo p (k:Int)) (n:=fr.length) (e:=fr.eraseIdx k) (fun i=>((i:Int),(fr.take k).take i++(fr.take i).drop (k + 1))) (fun i hi=>by
   have hlt:(i:Int)<(List.length fr:Int):=by omega
   have hll:((fr.take k).take i++(fr.take i).drop (k + 1)).length≤1000:=by
    rw [← hfr] at hl
    simp only [wI0,wE0,List.length_drop]
    omega
   have ha:∀ x,appO 24 ((fr.take k).take i++(fr.take i).drop (k + 1)) ([x]:List (List Int))=some ((fr.take k).take i++(fr.take i).drop (k + 1)++[x]):=fun x=>zbe (by have:=hll;rw [List.length_singleton];omega) (by omega)
   unfold zgo
   rw [← hfr]
   simp only [hlt,decide_true,if_true,zab hi,wC0,ha,zat (show i<4611686018427387904 by rw [← hfr] at hl;omega)]
   rcases Nat.lt_trichotomy i k with q|q|q
   ·have hne:¬ (i:Int)=(k:Int):=by omega
    have e1:(fr.take i).drop (k + 1)=[]:=List.drop_eq_nil_of_le (by rw [wE0];omega)
    have e2:(fr.take (i + 1)).drop (k + 1)=[]:=List.drop_eq_nil_of_le (by rw [wE0];omega)
    have e3:(fr.take k).take (i + 1)=(fr.take k).take i++[fr[i]]:=by
     rw [za7 (show i<(fr.take k).length by rw [wE0];omega),List.getElem_take]
    simp only [hne,decide_false,Bool.not_false,if_true,wC0,e1,e2,e3,List.append_nil]
   ·have he:(i:Int)=(k:Int):=by omega
    have e1:(fr.take i).drop (k + 1)=[]:=List.drop_eq_nil_of_le (by rw [wE0];omega)
    have e2:(fr.take (i + 1)).drop (k + 1)=[]:=List.drop_eq_nil_of_le (by rw [wE0];omega)
    have e3:(fr.take k).take (i + 1)=(fr.take k).take i:=by
     rw [List.take_of_length_le (l:=fr.take k) (i:=i + 1) (by rw [wE0];omega),List.take_of_length_le (l:=fr.take k) (i:=i) (by rw [wE0];omega)]
    simp only [he,decide_true,wH0,wA0,if_false,wC0,e1,e2,e3,List.append_nil]
   ·have hne:¬ (i:Int)=(k:Int):=by omega
    have e2:(fr.take (i + 1)).drop (k + 1)=(fr.take i).drop (k + 1)++[fr[i]]:=by
     rw [za7 hi,List.drop_append_of_le_length (by rw [wE0];omega)]
    have e3:(fr.take k).take (i + 1)=(fr.take k).take i:=by
     rw [List.take_of_length_le (l:=fr.take k) (i:=i + 1) (by rw [wE0];omega),List.take_of_length_le (l:=fr.take k) (i:=i) (by rw [wE0];omega)]
    simp only [hne,decide_false,Bool.not_false,if_true,wC0,e2,e3,List.append_assoc]) (by
   unfold zgo
   rw [← hfr,List.take_length,List.eraseIdx_eq_take_drop_succ,List.take_of_length_le (show (fr.take k).length≤fr.length by rw [wE0];omega)]
   simp only [show ¬ (fr.length:Int)<(List.length fr:Int) by omega,decide_false,wA0,if_false])
  rw [List.take_zero,List.take_zero,List.drop_nil,List.append_nil,show (((0:Nat):Int))=0 from rfl] at lp
  unfold zjH
  rw [zmB p hp.1,h4]
  simp only [wC0,decide_true,wH0,wA0,if_false,lp]
  rw [← hfr]
theorem zwj (p:Pool):∃ b,zkv p=some b∧(b=true→(Pool.Frames p).length≤80∧∀ c∈Pool.Frames p,c.length≤100):=by
 unfold zkv
 by_cases c7:(80:Int)<(List.length (Pool.Frames p):Int)
 ·simp only [c7,decide_true,if_true];exact ⟨false,rfl,fun h=>by cases h⟩
 ·have lp:=zdf (f:=zeB p) (n:=(Pool.Frames p).length) (g:=fun _=>some true) (fun i=>(i:Int)) (fun i=>optT (fun c=>decide (c.length≤100)) (Pool.Frames p)[i]?) (fun i hi _=>by
   have hlt:(i:Int)<(List.length (Pool.Frames p):Int):=by omega
   rw [zbd hi]
   unfold zeB
   simp only [hlt,decide_true,if_true,zab hi,wC0,zat (show i<4611686018427387904 by omega)]
   by_cases h:(Pool.Frames p)[i].length≤100
   ·have h':¬ (100:Int)<((Pool.Frames p)[i].length:Int):=by omega
    simp only [h,h',decide_true,decide_false,wA0,if_false,if_true]
   ·have h':(100:Int)<((Pool.Frames p)[i].length:Int):=by omega
    simp only [h,h',decide_true,decide_false,wA0,if_false,if_true]) (fun _=>by
   unfold zeB
   simp only [show ¬ (List.length (Pool.Frames p):Int)<(List.length (Pool.Frames p):Int) by omega,decide_false,wA0,if_false])
  rw [show (((0:Nat):Int))=0 from rfl,← zbH] at lp
  simp only [c7,decide_false,wA0,if_false,lp]
  by_cases ha:((Pool.Frames p).all fun c=>decide (c.length≤100))=true
  ·rw [if_pos ha]
   rw [List.all_eq_true] at ha
   exact ⟨true,rfl,fun _=>⟨by omega,fun c hc=>of_decide_eq_true (ha c hc)⟩⟩
  ·rw [if_neg ha]
   exact ⟨false,rfl,fun h=>by cases h⟩
end Go.Proofs.YtdfohlonacbelaaGreat
