import Derived.Test.YtdfohlonacbelaaGreatQ1
set_option linter.unusedSimpArgs false
set_option linter.unusedVariables false
namespace Go.Proofs.YtdfohlonacbelaaGreat
open Go.SX
theorem zki {f:Int→Option (Int⊕Unit⊕Int)}{n:Nat}(ok:Nat→Bool) (step:∀ i,i<n→f (i:Int)=some (if ok i=true then .inl ((i + 1:Nat):Int) else .inr (.inr (i:Int)))) (out:f (n:Int)=some (.inr (.inl ()))) :
  ((zaO (zaf f (0:Int)) fun _=>some (-1:Int)).bind fun v=>some (decide ((0:Int)≤v)))=some (!(List.range n).all ok):=by
 have lp:=zlk (f:=f) (n:=n) (fun i=>(i:Int)) ok (e:=(Sum.inl ():Unit⊕Int)) (r:=fun i=>.inr (i:Int)) (fun i hi _=>step i hi) (fun _=>out)
 rw [show (((0:Nat):Int))=0 from rfl] at lp
 have f1:=(zcB ok n).1
 have f2:=zhY (ok:=ok) (n:=n)
 rw [← zaQ] at f2
 rw [lp]
 by_cases ha:(List.range n).all ok=true
 ·have:=f2.2 ha
  rw [if_neg (show ¬ zbI ok n<n by omega),ha]
  rfl
 ·have:zbI ok n<n:=by
   rcases vV0 (zbI ok n) n with q|q
   ·exact q
   ·exact absurd (f2.1 (by omega)) ha
  rw [if_pos this,Bool.eq_false_iff.2 ha]
  have h0:(0:Int)≤((zbI ok n:Nat):Int):=by omega
  simp only [za6,wC0,h0,vE0,vH0]
def zcg (p:Pool):Bool:=decide ((Pool.Frames p).length≤64)&&(Pool.Frames p).all fun b=>decide (b.length=19)
theorem zbh (p:Pool) (hl:(Pool.Frames p).length≤1000):zcZ p=some (zcg p):=by
 unfold zcZ zcg
 obtain ⟨fr,hfr⟩:∃ fr,fr=Pool.Frames p:=⟨_,rfl⟩
 rw [← hfr] at hl ⊢
 have lp:=zki (f:=zdP fr (List.length fr:Int)) (n:=fr.length) (fun i=>zAV (fun b=>decide (b.length=19)) fr[i]?) (fun i hi=>by
  have hlt:(i:Int)<(List.length fr:Int):=by omega
  rw [zbm hi]
  unfold zdP zhz
  simp only [hlt,vE0,if_true,zac hi,wC0,zas (show i<4611686018427387904 by omega)]
  by_cases h:fr[i].length=19
  ·have h':(fr[i].length:Int)=19:=by omega
   simp only [h,h',vE0,wH0,wA0,if_false,if_true]
   rfl
  ·have h':¬ (fr[i].length:Int)=19:=by omega
   simp only [h,h',vF0,vH0,wA0,if_false,if_true]) (by
  unfold zdP
  simp only [show ¬ (List.length fr:Int)<(List.length fr:Int) by omega,vF0,wA0,if_false])
 rw [← zb8] at lp
 by_cases h:fr.length≤64
 ·have h':(List.length fr:Int)≤64:=by omega
  simp only [h,h',vE0,if_true,vC1]
  simp only [lp,wC0,Bool.not_not]
 ·have h':¬ (List.length fr:Int)≤64:=by omega
  simp only [h,h',vF0,wA0,if_false,vD1,wC0]
theorem zbK {p:Pool}:zcg p=true↔(Pool.Frames p).length≤64∧∀ b∈Pool.Frames p,b.length=19:=by
 unfold zcg
 rw [wD0,vG0,List.all_eq_true]
 exact ⟨fun h=>⟨h.1,fun b hb=>of_decide_eq_true (h.2 b hb)⟩,fun h=>⟨h.1,fun b hb=>vC0 (h.2 b hb)⟩⟩
theorem zeu (p:Pool) (hl:(Pool.Frames p).length≤1000):zcL p=some (if zcg p=true then 64 - ((Pool.Frames p).length:Int) else 0):=by
 unfold zcL
 rw [zbh p hl]
 cases h:zcg p
 ·rfl
 ·have:=(zbK.1 h).1
  have hw:w64 ((64:Int) - (List.length (Pool.Frames p):Int))=64 - (List.length (Pool.Frames p):Int):=zaV (by omega) (by omega)
  simp only [wC0,wH0,wA0,if_false,hw,if_true]
theorem zkb {f:(Int×(List (List Int)))→Option ((Int×(List (List Int)))⊕(List (List Int)))}{fr:List (List Int)}(hf:∀ s,f s=(if decide (s.1<(List.length fr:Int)) then
  (zAF fr s.1).bind fun v10 =>
  (zaC 1 v10).bind fun v11 =>
  (zAK 24 s.2 ([v11]:List (List Int))).bind fun v13 =>
  some (Sum.inl (w64 (s.1 + (1:Int)),v13))
 else
  some (Sum.inr (s.2)))) (hl:fr.length≤1000) (hb:∀ b∈fr,b.length≤1000):zaf f ((0:Int),([]:List (List Int)))=some fr:=by
 have lp:=zaF (f:=f) (n:=fr.length) (e:=fr) (fun i=>((i:Int),fr.take i)) (fun i hi=>by
  have hlt:(i:Int)<(List.length fr:Int):=by omega
  have hbi:=hb _ (List.getElem_mem hi)
  have hc:zaC 1 fr[i]=some fr[i]:=zbx (by omega) (by omega)
  have ha:zAK 24 (fr.take i) ([fr[i]]:List (List Int))=some (fr.take (i + 1)):=by
   rw [za2 (by simp;omega) (by omega),zaY hi]
  rw [hf]
  simp only [hlt,vE0,if_true,zac hi,wC0,hc,ha,zas (show i<4611686018427387904 by omega)]) (by
  rw [hf]
  simp only [show ¬ (fr.length:Int)<(List.length fr:Int) by omega,vF0,wA0,if_false,List.take_length])
 exact lp
def zwL (p:Pool):Prop:=(Pool.Frames p).length≤1000∧∀ b∈Pool.Frames p,b.length≤1000
theorem ztC {p:Pool}(h:zcg p=true):zwL p:=by
 obtain ⟨h1,h2⟩:=zbK.1 h
 exact ⟨by omega,fun b hb=>by have:=h2 b hb;omega⟩
theorem zry (p:Pool) (hp:zwL p) (m:Msg) (hn:0≤Msg.Num m∧Msg.Num m<4294967296) (hv:0≤Msg.Val m∧Msg.Val m<4294967296) :
  (∃ x:Nums,x.Ok∧m=x.msg∧zcg p=true∧(Pool.Frames p).length<64∧zae p m=some (Pool.mk (Pool.Frames p++[zal (zbc x)]),0)) ∨
  (∃ e,e≠0∧zae p m=some (p,e)∧(zA6 m=true→zcg p=true→64≤(Pool.Frames p).length)):=by
 have hcp:=zkb (f:=zeJ (Pool.Frames p) (List.length (Pool.Frames p):Int)) (fr:=Pool.Frames p) (fun s=>rfl) hp.1 hp.2
 have heta:Pool.mk (Pool.Frames p)=p:=rfl
 unfold zae
 cases hm:zA6 m
 ·right
  refine ⟨1,by decide,?_,fun q=>(by cases q)⟩
  rw [zzm hm,zbh p hp.1]
  cases zcg p
  ·simp only [wC0,vH0,if_true,hcp,heta]
  ·simp only [wC0,wH0,wA0,if_false,show ¬ (1:Int)=0 by omega,vF0,vH0,if_true,hcp,heta]
 ·obtain ⟨x,hx,rfl⟩:=zw3 hm hn hv
  rw [put_eq hx,zbh p hp.1]
  cases hr:zcg p
  ·right
   refine ⟨1,by decide,?_,fun _ q=>(by cases q)⟩
   simp only [wC0,vH0,if_true,hcp,heta]
  ·obtain ⟨h1,h2⟩:=zbK.1 hr
   have hroom:=zeu p hp.1
   rw [hr,if_pos rfl] at hroom
   by_cases h64:(Pool.Frames p).length<64
   ·left
    refine ⟨x,hx,rfl,rfl,h64,?_⟩
    have hne:¬ (64:Int) - ((Pool.Frames p).length:Int)=0:=by omega
    have hc:zaC 1 (zal (zbc x))=some (zal (zbc x)):=zbx (by rw [zax,(zf0 hx).len];omega) (by omega)
    have ha:zAK 24 (Pool.Frames p) ([zal (zbc x)]:List (List Int))=some (Pool.Frames p++[zal (zbc x)]):=za2 (by simp;omega) (by omega)
    simp only [wC0,wH0,wA0,if_false,vE0,hcp,heta,hroom,hne,vF0,hc,ha]
   ·right
    refine ⟨6,by decide,?_,fun _ _=>by omega⟩
    have he:(64:Int) - ((Pool.Frames p).length:Int)=0:=by omega
    simp only [wC0,wH0,wA0,if_false,vE0,hcp,heta,hroom,he,if_true]
theorem ziM (p:Pool) (hl:(Pool.Frames p).length≤1000) (n:Int):zdO p n=some (if zcg p=true then (if n<0∨((Pool.Frames p).length:Int)≤n then 7 else 0) else 1):=by
 unfold zdO
 rw [zbh p hl]
 cases zcg p
 ·rfl
 ·by_cases h:n<0∨((Pool.Frames p).length:Int)≤n
  ·have:((decide (n<(0:Int)))||(decide ((List.length (Pool.Frames p):Int)≤n)))=true:=by simp only [Bool.or_eq_true,vG0];exact h
   simp only [wC0,wH0,wA0,if_false,this,if_true,if_pos h]
  ·have:((decide (n<(0:Int)))||(decide ((List.length (Pool.Frames p):Int)≤n)))=false:=by
    rw [Bool.eq_false_iff];intro q;simp only [Bool.or_eq_true,vG0] at q;exact h q
   simp only [wC0,wH0,wA0,if_false,this,if_true,if_neg h]
theorem zlP (p:Pool) (hr:zcg p=true) (n:Nat) (hn:n<(Pool.Frames p).length):zfG p (n:Int)=some (Pool.mk ((Pool.Frames p).eraseIdx n),0):=by
 have hp:=ztC hr
 have hcp:=zkb (f:=zg4 (Pool.Frames p) (List.length (Pool.Frames p):Int)) (fr:=Pool.Frames p) (fun s=>rfl) hp.1 hp.2
 obtain ⟨h1,h2⟩:=zbK.1 hr
 obtain ⟨fr,hfr⟩:∃ fr,fr=Pool.Frames p:=⟨_,rfl⟩
 have hh:=ziM p hp.1 (n:Int)
 rw [hr,if_pos rfl,if_neg (by omega)] at hh
 unfold zfG
 rw [← hfr] at hcp hn h1 ⊢
 have hw:w64 ((n:Int) + 1)=((n + 1:Nat):Int):=zas (by omega)
 have e1:zxW (List.length fr:Int) (n:Int) ((n + 1:Nat):Int) (List.length fr:Int)=some ((n + 1:Nat):Int):=by
  unfold zxW
  rw [if_pos ⟨by omega,by omega,by omega,rfl⟩]
 have e2:¬ (n:Int)=((n + 1:Nat):Int):=by omega
 have e3:zBg (List.length fr:Int) (0:Int) (n:Int)=some (n:Int):=by unfold zBg;rw [if_pos (by omega)]
 have e4:zBg (List.length fr:Int) ((n + 1:Nat):Int) (List.length fr:Int)=some (List.length fr:Int):=by unfold zBg;rw [if_pos (by omega)]
 have e5:zAO fr ((n + 1:Nat):Int) (List.length fr:Int)=some (fr.drop (n + 1)):=by
  rw [zjd (by omega) (wG0 _),List.take_length]
 obtain ⟨buf,b1,b2,b3⟩:=zkZ (b:=24) (buf:=fr) (x:=fr.drop (n + 1)) (p:=n) (by omega) (by rw [vS0];omega) (by omega)
 have hdl:(fr.drop (n + 1)).length=fr.length - (n + 1):=by simp
 have hbl:buf.length=fr.length:=by
  unfold zqJ at b1
  by_cases hc:0≤(n:Int)∧(n:Int)≤fr.length∧zba ((n:Int).toNat + (fr.drop (n + 1)).length) 24=true
  ·rw [if_pos hc] at b1
   rw [← Option.some.inj b1]
   simp only [wI0,wE0,vS0,Int.toNat_natCast]
   omega
  ·rw [if_neg hc] at b1;cases b1
 have hk:n + (fr.drop (n + 1)).length=fr.length - 1:=by omega
 have e6:(n:Int) + ((fr.drop (n + 1)).length:Int)=((fr.length - 1:Nat):Int):=by omega
 have e7:zwD (List.length buf:Int) (0:Int) (((fr.length - 1:Nat):Int) - 0) (List.length fr:Int)=some (List.length fr:Int):=by
  unfold zwD
  rw [if_pos (by omega),Int.zero_add]
 have e8:(0:Int) + (((fr.length - 1:Nat):Int) - 0)=((fr.length - 1:Nat):Int):=by omega
 have e9:zAO buf ((fr.length - 1:Nat):Int) (List.length fr:Int)=some (buf.drop (fr.length - 1)):=by
  rw [show (List.length fr:Int)=((buf.length:Nat):Int) by omega,zjd (by omega) (wG0 _),List.take_length]
 have e10:∃ buf2,zxK buf ((fr.length - 1:Nat):Int) (List.length fr:Int) (List.replicate (buf.drop (fr.length - 1)).length ([]:List Int))=some buf2∧buf2.take (fr.length - 1)=buf.take (fr.length - 1)∧fr.length - 1≤buf2.length:=by
  unfold zxK
  rw [if_pos (by omega)]
  refine ⟨_,rfl,?_,?_⟩
  ·rw [Int.toNat_natCast,List.take_append_of_le_length (by rw [wE0];omega),List.take_take,Nat.min_self]
  ·rw [wI0,wE0,Int.toNat_natCast]
   omega
 obtain ⟨buf2,c1,c2,c3⟩:=e10
 have e11:zAO buf2 (0:Int) ((fr.length - 1:Nat):Int)=some (fr.eraseIdx n):=by
  have:=zjd (l:=buf2) (i:=0) (j:=fr.length - 1) (by omega) c3
  rw [List.drop_zero,c2] at this
  rw [hk] at b2
  rw [b2] at this
  rw [List.eraseIdx_eq_take_drop_succ]
  exact this
 simp only [hh,hcp,wC0,vE0,if_true,hw,e1,e2,vF0,wA0,if_false,e3,e4,e5,b1,e6,e7,e8,e9,c1,e11]
theorem zvR {m:Msg}(h:zA6 m=false):zll m=some (([]:List Int),(1:Int)):=by
 unfold zll
 rw [zpE,h]
 rfl
theorem zwh {x:Nums}(h:x.Ok):zll x.msg=some (zal (zbc x),(0:Int)):=by
 have hb1:=zeE x.nu h.nu
 have hb2:=zeE x.va h.va
 have hb3:=zeE (zAT (zgG x)) zky
 have hsum:=zpm (zgG x) (by rw [zm0];omega) (zre h)
 obtain ⟨h1,h2,h3,h4,h5,h6,h7,_,_⟩:=id h
 have hl:[wu8 (Msg.Kind x.msg),wu8 (Msg.From x.msg),wu8 (Msg.To x.msg),wu8 (Msg.Line x.msg),wu8 (Msg.For x.msg),wu8 (Msg.Acks x.msg),(0:Int)]=zal [x.k,x.f,x.t,x.li,x.fo,x.ac,0]:=by
  unfold Nums.msg zal
  simp only [Msg.From_mk,Msg.To_mk,Msg.Line_mk,Msg.For_mk,Msg.Acks_mk,Msg.Kind_mk,Msg.Own_mk,zq7,vP0,List.map_nil]
  rw [vW0 (by omega),vW0 (by omega),vW0 (by omega),vW0 (by omega),vW0 (by omega),vW0 (by omega)]
  rfl
 have hs:(if Msg.Own x.msg then
      (zAG (List.length (zal [x.k,x.f,x.t,x.li,x.fo,x.ac,0]):Int) (6:Int)).bind fun v27 =>
      (zAI (zal [x.k,x.f,x.t,x.li,x.fo,x.ac,0]) v27 (1:Int)).bind fun v28 =>
      some (v28)
     else
      some (zal [x.k,x.f,x.t,x.li,x.fo,x.ac,0]):Option (List Int))=some (zal (zkB x)):=by
  have ho:Msg.Own x.msg=x.own:=rfl
  unfold zkB
  rw [ho]
  cases x.own<;>rfl
 have a1:zAK 1 (zal (zkB x)) (zal (zbf x.nu))=some (zal (zkB x++zbf x.nu)):=by
  rw [za2 (by rw [zax,zax];simp [zkB,zbf]) (by omega),zfA]
 have a2:zAK 1 (zal (zkB x++zbf x.nu)) (zal (zbf x.va))=some (zal (zgG x)):=by
  rw [za2 (by rw [zax,zax];simp [zkB,zbf]) (by omega),← zfA]
  rfl
 have a3:zAK 1 (zal (zgG x)) (zal (zbf (zAT (zgG x))))=some (zal (zbc x)):=by
  rw [za2 (by rw [zax,zax,zm0];simp [zbf]) (by omega),← zfA]
  rfl
 have hN:Msg.Num x.msg=(x.nu:Int):=rfl
 have hV:Msg.Val x.msg=(x.va:Int):=rfl
 unfold zll
 rw [zpE,zva h,hl]
 simp only [wC0,wH0,wA0,if_false,hs,hN,hV,hb1,hb2,a1,a2,hsum,hb3,a3]
def zg9 (p:Pool):Prop:=(Pool.Frames p).length≤1000∧∀ b∈Pool.Frames p,b.length≤1000∧∀ x∈b,0≤x∧x<256
theorem zkU {p:Pool}(h:zg9 p):zwL p:=⟨h.1,fun b hb=>(h.2 b hb).1⟩
theorem zwK {p:Pool}(h:zg9 p):zmE p p=some true:=by
 unfold zmE
 have hl:=h.1
 have lp:=zaF (f:=zfN p p) (n:=(Pool.Frames p).length) (e:=(Sum.inl ():Unit⊕Bool)) (fun i=>(i:Int)) (fun i hi=>by
  have hlt:(i:Int)<(List.length (Pool.Frames p):Int):=by omega
  obtain ⟨c,hc,hc2⟩:=zyg (l:=(Pool.Frames p)[i]) (fun x hx=>(h.2 _ (List.getElem_mem hi)).2 x hx)
  have hb:zBb (Pool.Frames p)[i]=some (Pool.Frames p)[i]:=by rw [hc];exact zg8 hc2
  unfold zfN
  simp only [hlt,vE0,if_true,zac hi,wC0,hb,wH0,wA0,if_false,zas (show i<4611686018427387904 by omega)]) (by
  unfold zfN
  simp only [show ¬ (List.length (Pool.Frames p):Int)<(List.length (Pool.Frames p):Int) by omega,vF0,wA0,if_false])
 rw [show (((0:Nat):Int))=0 from rfl] at lp
 simp only [vE0,wH0,wA0,if_false,lp,zai]
theorem zeN (p:Pool) (hl:(Pool.Frames p).length≤1000):zfg p=some (zcg p):=by
 unfold zfg zcg
 obtain ⟨fr,hfr⟩:∃ fr,fr=Pool.Frames p:=⟨_,rfl⟩
 have lp:=ze6 (f:=zeD p) (n:=fr.length) (g:=fun _=>some true) (fun i=>(i:Int)) (fun i=>decide (i≤63)&&zAV (fun b=>decide (b.length=19)) fr[i]?) (fun i hi _=>by
  have hlt:(i:Int)<(List.length fr:Int):=by omega
  rw [zbm hi]
  unfold zeD
  rw [← hfr]
  simp only [hlt,vE0,if_true,zac hi,wC0,zas (show i<4611686018427387904 by rw [← hfr] at hl;omega)]
  by_cases h3:i≤63
  ·have h3':¬ (63:Int)<(i:Int):=by omega
   by_cases h:fr[i].length=19
   ·have h':(fr[i].length:Int)=19:=by omega
    simp only [h,h',h3,h3',vE0,vF0,wH0,wA0,if_false,if_true,wC0,Bool.and_self]
    rfl
   ·have h':¬ (fr[i].length:Int)=19:=by omega
    simp only [h,h',h3,h3',vE0,vF0,vH0,wA0,if_false,if_true,wC0,Bool.and_false]
  ·have h3':(63:Int)<(i:Int):=by omega
   simp only [h3,h3',vE0,vF0,wA0,if_false,if_true,wC0,vD1]) (fun _=>by
  unfold zeD
  rw [← hfr]
  simp only [show ¬ (List.length fr:Int)<(List.length fr:Int) by omega,vF0,wA0,if_false])
 rw [show (((0:Nat):Int))=0 from rfl] at lp
 rw [lp,← hfr]
 by_cases ha:((List.range fr.length).all fun i=>decide (i≤63)&&zAV (fun b:List Int=>decide (b.length=19)) fr[i]?)=true
 ·rw [if_pos ha]
  rw [zaQ] at ha
  have h1:(fr.all fun b=>decide (b.length=19))=true:=by
   rw [zb8,zaQ]
   intro i hi
   have:=ha i hi
   rw [wD0] at this
   exact this.2
  have h2:fr.length≤64:=by
   rcases vV0 64 fr.length with q|q
   ·have:=ha 64 q
    simp at this
   ·exact q
  rw [h1,vC0 h2]
  rfl
 ·rw [if_neg ha]
  by_cases h2:fr.length≤64
  ·have h1:(fr.all fun b=>decide (b.length=19))=false:=by
    rw [Bool.eq_false_iff]
    intro q
    rw [zb8,zaQ] at q
    refine ha (zaQ.2 fun i hi=>?_)
    rw [wD0]
    exact ⟨vC0 (by omega),q i hi⟩
   rw [h1,Bool.and_false]
  ·rw [vD0 h2]
   rfl
theorem zmk (p:Pool) (hl:(Pool.Frames p).length≤1000) (n:Int):zgY p n=zdO p n:=by
 unfold zgY zdO
 rw [zeN p hl,zbh p hl]
theorem zy6 {p:Pool}(h:zg9 p) (hl:(Pool.Frames p).length≤64) {b:List Int}(hb:b.length≤1000∧∀ x∈b,0≤x∧x<256):zg9 (Pool.mk (Pool.Frames p++[b])):=by
 refine ⟨by show (Pool.Frames p++[b]).length≤1000;simp;omega,fun c hc=>?_⟩
 rcases List.mem_append.1 hc with q|q
 ·exact h.2 c q
 ·rw [List.mem_singleton.1 q];exact hb
theorem zAq (p:Pool) (hp:zg9 p) (b:List Int):zq9 p b=some (if 64≤(Pool.Frames p).length then (p,6) else (Pool.mk (Pool.Frames p++[b]),0)):=by
 unfold zq9
 have hl:=hp.1
 by_cases h:64≤(Pool.Frames p).length
 ·rw [vC0 (show (64:Int)≤(List.length (Pool.Frames p):Int) by omega),if_pos rfl,if_pos h]
 ·have a1:zAK 24 ([]:List (List Int)) (Pool.Frames p)=some (Pool.Frames p):=by rw [za2 (by simp;omega) (by omega),vB1]
  have a2:zAK 24 (Pool.Frames p) ([b]:List (List Int))=some (Pool.Frames p++[b]):=za2 (by simp;omega) (by omega)
  rw [vD0 (show ¬ (64:Int)≤(List.length (Pool.Frames p):Int) by omega),if_neg (by simp),if_neg h,a1,wC0,a2]
  rfl
theorem znQ {x:Nums}(h:x.Ok):(zal (zbc x)).length≤1000∧∀ y∈zal (zbc x),0≤y∧y<256:=by
 have hb:=zf0 h
 refine ⟨by rw [zax,hb.len];omega,fun y hy=>?_⟩
 obtain ⟨n,hn,rfl⟩:=List.mem_map.1 hy
 have:=hb.lt n hn
 omega
theorem zwQ (p:Pool) (hp:zg9 p) (m:Msg) (hn:0≤Msg.Num m∧Msg.Num m<4294967296) (hv:0≤Msg.Val m∧Msg.Val m<4294967296):∃ q e,zae p m=some (q,e)∧zmw p m=some (q,e)∧zg9 q:=by
 have hsp:=zkU hp
 have hcp:=zkb (f:=zeJ (Pool.Frames p) (List.length (Pool.Frames p):Int)) (fr:=Pool.Frames p) (fun s=>rfl) hsp.1 hsp.2
 have heta:Pool.mk (Pool.Frames p)=p:=rfl
 unfold zae zmw
 cases hm:zA6 m
 ·refine ⟨p,1,?_,?_,hp⟩
  ·rw [zzm hm,zbh p hp.1]
   cases zcg p
   ·simp only [wC0,vH0,if_true,hcp,heta]
   ·simp only [wC0,wH0,wA0,if_false,show ¬ (1:Int)=0 by omega,vF0,vH0,if_true,hcp,heta]
  ·rw [zvR hm,zeN p hp.1]
   cases zcg p<;>rfl
 ·obtain ⟨x,hx,rfl⟩:=zw3 hm hn hv
  rw [put_eq hx,zwh hx,zbh p hp.1,zeN p hp.1]
  cases hr:zcg p
  ·refine ⟨p,1,?_,rfl,hp⟩
   simp only [wC0,vH0,if_true,hcp,heta]
  ·obtain ⟨h1,h2⟩:=zbK.1 hr
   have hroom:=zeu p hp.1
   rw [hr,if_pos rfl] at hroom
   have had:=zAq p hp (zal (zbc x))
   by_cases h64:64≤(Pool.Frames p).length
   ·rw [if_pos h64] at had
    refine ⟨p,6,?_,?_,hp⟩
    ·have he:(64:Int) - ((Pool.Frames p).length:Int)=0:=by omega
     simp only [wC0,wH0,wA0,if_false,vE0,hcp,heta,hroom,he,if_true]
    ·simp only [wC0,wH0,wA0,if_false,vE0,had]
   ·rw [if_neg h64] at had
    refine ⟨Pool.mk (Pool.Frames p++[zal (zbc x)]),0,?_,?_,zy6 hp h1 (znQ hx)⟩
    ·have hne:¬ (64:Int) - ((Pool.Frames p).length:Int)=0:=by omega
     have hc:zaC 1 (zal (zbc x))=some (zal (zbc x)):=zbx (by have:=(znQ hx).1;omega) (by omega)
     have ha:zAK 24 (Pool.Frames p) ([zal (zbc x)]:List (List Int))=some (Pool.Frames p++[zal (zbc x)]):=za2 (by simp;omega) (by omega)
     simp only [wC0,wH0,wA0,if_false,vE0,hcp,heta,hroom,hne,vF0,hc,ha]
    ·simp only [wC0,wH0,wA0,if_false,vE0,had]
theorem zvH {p:Pool}(h:zg9 p) (n:Nat):zg9 (Pool.mk ((Pool.Frames p).eraseIdx n)):=by
 refine ⟨?_,fun b hb=>h.2 b (List.mem_of_mem_eraseIdx hb)⟩
 show ((Pool.Frames p).eraseIdx n).length≤1000
 have:=List.length_eraseIdx_le (Pool.Frames p) n
 have:=h.1
 omega
theorem zxy (p:Pool) (hp:zg9 p) (n:Int):(∃ e,e≠0∧zdO p n=some e)∨∃ k:Nat,n=(k:Int)∧k<(Pool.Frames p).length∧zcg p=true∧zdO p n=some 0:=by
 have hh:=ziM p hp.1 n
 cases hr:zcg p
 ·rw [hr,if_neg (by simp)] at hh
  exact .inl ⟨1,by decide,hh⟩
 ·rw [hr,if_pos rfl] at hh
  by_cases h:n<0∨((Pool.Frames p).length:Int)≤n
  ·rw [if_pos h] at hh
   exact .inl ⟨7,by decide,hh⟩
  ·rw [if_neg h] at hh
   exact .inr ⟨n.toNat,by omega,by omega,rfl,hh⟩
theorem zwZ (p:Pool) (hp:zg9 p) (n:Int):∃ q e,zfG p n=some (q,e)∧zkh p n=some (q,e)∧zg9 q∧(e≠0→q=p)∧∀ e',zdO p n=some e'→e=e':=by
 have hsp:=zkU hp
 have heta:Pool.mk (Pool.Frames p)=p:=rfl
 rcases zxy p hp n with ⟨e,h1,h2⟩|⟨k,rfl,h2,h3,h4⟩
 ·refine ⟨p,e,?_,?_,hp,fun _=>rfl,fun e' h=>by rw [h2] at h;exact Option.some.inj h⟩
  ·have hcp:=zkb (f:=zg4 (Pool.Frames p) (List.length (Pool.Frames p):Int)) (fr:=Pool.Frames p) (fun s=>rfl) hsp.1 hsp.2
   have hsub:zAO (Pool.Frames p) (0:Int) (List.length (Pool.Frames p):Int)=some (Pool.Frames p):=by
    have:=zjd (l:=Pool.Frames p) (i:=0) (j:=(Pool.Frames p).length) (by omega) (wG0 _)
    rw [List.drop_zero,List.take_length] at this
    exact this
   unfold zfG
   simp only [h2,hcp,wC0,h1,vF0,wA0,if_false,hsub,heta]
  ·unfold zkh
   rw [zmk p hp.1,h2]
   simp only [wC0,h1,vF0,vH0,if_true]
 ·refine ⟨_,0,zlP p h3 k h2,?_,zvH hp k,fun q=>absurd rfl q,fun e' h=>by rw [h4] at h;exact Option.some.inj h⟩
  have hl:=hp.1
  obtain ⟨fr,hfr⟩:∃ fr,fr=Pool.Frames p:=⟨_,rfl⟩
  have lp:=zaF (f:=zgc p (k:Int)) (n:=fr.length) (e:=fr.eraseIdx k) (fun i=>((i:Int),(fr.take k).take i++(fr.take i).drop (k + 1))) (fun i hi=>by
   have hlt:(i:Int)<(List.length fr:Int):=by omega
   have hll:((fr.take k).take i++(fr.take i).drop (k + 1)).length≤1000:=by
    rw [← hfr] at hl
    simp only [wI0,wE0,vS0]
    omega
   have ha:∀ x,zAK 24 ((fr.take k).take i++(fr.take i).drop (k + 1)) ([x]:List (List Int))=some ((fr.take k).take i++(fr.take i).drop (k + 1)++[x]):=fun x=>za2 (by have:=hll;rw [List.length_singleton];omega) (by omega)
   unfold zgc
   rw [← hfr]
   simp only [hlt,vE0,if_true,zac hi,wC0,ha,zas (show i<4611686018427387904 by rw [← hfr] at hl;omega)]
   rcases Nat.lt_trichotomy i k with q|q|q
   ·have hne:¬ (i:Int)=(k:Int):=by omega
    have e1:(fr.take i).drop (k + 1)=[]:=List.drop_eq_nil_of_le (by rw [wE0];omega)
    have e2:(fr.take (i + 1)).drop (k + 1)=[]:=List.drop_eq_nil_of_le (by rw [wE0];omega)
    have e3:(fr.take k).take (i + 1)=(fr.take k).take i++[fr[i]]:=by
     rw [zaY (show i<(fr.take k).length by rw [wE0];omega),List.getElem_take]
    simp only [hne,vF0,vH0,if_true,wC0,e1,e2,e3,vN0]
   ·have he:(i:Int)=(k:Int):=by omega
    have e1:(fr.take i).drop (k + 1)=[]:=List.drop_eq_nil_of_le (by rw [wE0];omega)
    have e2:(fr.take (i + 1)).drop (k + 1)=[]:=List.drop_eq_nil_of_le (by rw [wE0];omega)
    have e3:(fr.take k).take (i + 1)=(fr.take k).take i:=by
     rw [List.take_of_length_le (l:=fr.take k) (i:=i + 1) (by rw [wE0];omega),List.take_of_length_le (l:=fr.take k) (i:=i) (by rw [wE0];omega)]
    simp only [he,vE0,wH0,wA0,if_false,wC0,e1,e2,e3,vN0]
   ·have hne:¬ (i:Int)=(k:Int):=by omega
    have e2:(fr.take (i + 1)).drop (k + 1)=(fr.take i).drop (k + 1)++[fr[i]]:=by
     rw [zaY hi,List.drop_append_of_le_length (by rw [wE0];omega)]
    have e3:(fr.take k).take (i + 1)=(fr.take k).take i:=by
     rw [List.take_of_length_le (l:=fr.take k) (i:=i + 1) (by rw [wE0];omega),List.take_of_length_le (l:=fr.take k) (i:=i) (by rw [wE0];omega)]
    simp only [hne,vF0,vH0,if_true,wC0,e2,e3,vB0]) (by
   unfold zgc
   rw [← hfr,List.take_length,List.eraseIdx_eq_take_drop_succ,List.take_of_length_le (show (fr.take k).length≤fr.length by rw [wE0];omega)]
   simp only [show ¬ (fr.length:Int)<(List.length fr:Int) by omega,vF0,wA0,if_false])
  rw [List.take_zero,List.take_zero,List.drop_nil,vN0,show (((0:Nat):Int))=0 from rfl] at lp
  unfold zkh
  rw [zmk p hp.1,h4]
  simp only [wC0,vE0,wH0,wA0,if_false,lp]
  rw [← hfr]
end Go.Proofs.YtdfohlonacbelaaGreat
