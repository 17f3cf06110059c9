import Derived.Test.YtdfohlonacbelaaGreatQ2
set_option linter.unusedSimpArgs false
set_option linter.unusedVariables false
namespace Go.Proofs.YtdfohlonacbelaaGreat
open Go.SX
def zAP (e:Entry) (c:Int):Bool :=
 decide (1≤c∧c≤4∧((Entry.Share e).length:Int)=c∧0≤Entry.Owner e∧Entry.Owner e≤c)&&(decide (Entry.Owner e=0)||decide ((Entry.Share e)[(Entry.Owner e - 1).toNat]?≠some true))
theorem zhG (e:Entry) (c:Int):zfb e c=some (zAP e c):=by
 unfold zfb zAP
 by_cases h:1≤c∧c≤4∧((Entry.Share e).length:Int)=c∧0≤Entry.Owner e∧Entry.Owner e≤c
 ·obtain ⟨h1,h2,h3,h4,h5⟩:=h
  have e1:¬ c<1:=by omega
  have e2:¬ 4<c:=by omega
  have e4:¬ Entry.Owner e<0:=by omega
  have e5:¬ c<Entry.Owner e:=by omega
  by_cases ho:Entry.Owner e=0
  ·have e6:¬ c<0:=by omega
   have e7:0≤c:=by omega
   simp [e1,e2,h1,h2,h3,h4,ho,e6,e7]
  ·obtain ⟨k,hk⟩:∃ k:Nat,Entry.Owner e=k + 1:=⟨(Entry.Owner e - 1).toNat,by omega⟩
   have hw:w64 (Entry.Owner e - 1)=(k:Int):=by rw [zaV (by omega) (by omega)];omega
   have hl:k<(Entry.Share e).length:=by omega
   have hz:(Entry.Owner e - 1).toNat=k:=by omega
   have hc:(decide (c<1)||(decide (4<c)||(!decide (((Entry.Share e).length:Int)=c)||(decide (Entry.Owner e<0)||decide (c<Entry.Owner e)))))=false:=by
    simp [e1,e2,h3,e4,e5]
   have hh:decide (1≤c∧c≤4∧((Entry.Share e).length:Int)=c∧0≤Entry.Owner e∧Entry.Owner e≤c)=true:=vC0 ⟨h1,h2,h3,h4,h5⟩
   simp only [hc,hh,hz,hw,zeB,wF0 hl,ho]
   cases (Entry.Share e)[k]<;>simp
 ·have:(decide (c<1)||(decide (4<c)||(!decide (((Entry.Share e).length:Int)=c)||(decide (Entry.Owner e<0)||decide (c<Entry.Owner e)))))=true:=by
   simp
   omega
  simp [this,h]
theorem zpC (e:Entry) (c:Int):znC e c=some (zAP e c):=by
 unfold znC zAP
 by_cases h:1≤c∧c≤4∧((Entry.Share e).length:Int)=c∧0≤Entry.Owner e∧Entry.Owner e≤c
 ·obtain ⟨h1,h2,h3,h4,h5⟩:=h
  have e1:¬ c<1:=by omega
  have e2:¬ 4<c:=by omega
  have e4:¬ Entry.Owner e<0:=by omega
  have e5:¬ c<Entry.Owner e:=by omega
  have step:∀ i:Nat,i<(Entry.Share e).length→zb1 e c i=some (if ((Entry.Share e)[i]?=some true∧Entry.Owner e=i + 1) then .inr (.inr false) else .inl ((i:Int) + 1)):=fun i hi=>by
   have hw:w64 ((i:Int) + 1)=i + 1:=zaV (by omega) (by omega)
   have hlt:(i:Int)<c:=by omega
   unfold zb1
   rw [zeB,wF0 hi]
   cases hb:(Entry.Share e)[i]<;>simp [hlt,hw,hb]
   split<;>simp_all
  have last:zb1 e c ((Entry.Share e).length:Int)=some (.inr (.inl ())):=by
   unfold zb1
   simp [h3]
  have c0:(decide (c<1)||(decide (4<c)||(!decide (((Entry.Share e).length:Int)=c)||(decide (Entry.Owner e<0)||decide (c<Entry.Owner e)))))=false:=by
   simp [e1,e2,h3,e4,e5]
  simp only [c0,wA0,if_false]
  by_cases hb:∃ i,i<(Entry.Share e).length∧(Entry.Share e)[i]?=some true∧Entry.Owner e=i + 1
  ·obtain ⟨i,hi,hb1,hb2⟩:=hb
   have hl:zaf (zb1 e c) 0=some (.inr false):=by
    have:=zf7 (f:=zb1 e c) (fun i=>(i:Int)) (n:=0) (m:=i) (by omega) fun j _ hj=>by
     rw [step j (by omega),if_neg (by rintro ⟨_,h⟩;omega)]
     simp
    refine this.trans ?_
    refine zb0 ?_
    rw [step i hi,if_pos ⟨hb1,hb2⟩]
   rw [hl]
   have hz:(Entry.Owner e - 1).toNat=i:=by omega
   have ho:Entry.Owner e≠0:=by omega
   simp [h1,h2,h3,h4,hz,hb1,ho]
  ·have hl:zaf (zb1 e c) 0=some (.inl ()):=by
    have:=zf7 (f:=zb1 e c) (fun i=>(i:Int)) (n:=0) (m:=(Entry.Share e).length) (by omega) fun j _ hj=>by
     rw [step j (by omega),if_neg (fun h=>hb ⟨j,hj,h⟩)]
     simp
    exact this.trans (zb0 last)
   rw [hl]
   by_cases ho:Entry.Owner e=0
   ·have e7:0≤c:=by omega
    simp [h1,h2,h3,h4,ho,e7]
   ·have hb':¬ (Entry.Share e)[(Entry.Owner e - 1).toNat]?=some true:=fun h=>hb ⟨(Entry.Owner e - 1).toNat,by omega,h,by omega⟩
    have hh:decide (1≤c∧c≤4∧((Entry.Share e).length:Int)=c∧0≤Entry.Owner e∧Entry.Owner e≤c)=true:=vC0 ⟨h1,h2,h3,h4,h5⟩
    have h2':decide ((Entry.Share e)[(Entry.Owner e - 1).toNat]?≠some true)=true:=vC0 hb'
    rw [hh,h2']
    simp
 ·have:(decide (c<1)||(decide (4<c)||(!decide (((Entry.Share e).length:Int)=c)||(decide (Entry.Owner e<0)||decide (c<Entry.Owner e)))))=true:=by
   simp
   omega
  simp [this,h]
def hasB (e:Entry) (n:Int):Bool:=zAP e ((Entry.Share e).length:Int)&&(decide (0≤n)&&decide (n<((Entry.Share e).length:Int)))
theorem zgW (e:Entry) (n:Int):ze5 e n=some (hasB e n):=by
 unfold ze5 hasB
 rw [zhG]
 cases zAP e ((Entry.Share e).length:Int)<;>by_cases h:0≤n<;>simp [h]
theorem zkx (e:Entry) (n:Int):zkL e n=some (hasB e n):=by
 unfold zkL hasB
 rw [zpC]
 cases zAP e ((Entry.Share e).length:Int)<;>by_cases h:0≤n<;>simp [h]
theorem zhM {e:Entry}{n:Int}(h:hasB e n=true):(Entry.Share e).length≤4∧0≤n∧n<((Entry.Share e).length:Int)∧0≤Entry.Owner e∧Entry.Owner e≤4:=by
 simp [hasB,zAP] at h
 omega
def zaP (l:List Bool) (n:Int):Nat→List Int
 | 0=>[]
 | k + 1=>if l[k]?=some true∧(k:Int)≠n then zaP l n k++[(k:Int)] else zaP l n k
theorem zgo (l:List Bool) (n:Int):∀ k,(zaP l n k).length≤k
 | 0=>wG0 _
 | k + 1=>by
  have:=zgo l n k
  simp only [zaP]
  split
  ·simp;omega
  ·omega
theorem zBX {l:List Int}{x:Int}(h:l.length≤1000):zAK 8 l [x]=some (l++[x]):=ztB (zhj (by simp;omega) (by simp;omega))
theorem znT (l:List Bool) (n:Int) (hl:l.length≤1000):zaf (zb3 n l (l.length:Int)) ((0:Int),([]:List Int))=some (zaP l n l.length):=by
 have:=zf7 (f:=zb3 n l (l.length:Int)) (fun i=>((i:Int),zaP l n i)) (n:=0) (m:=l.length) (by omega) fun i _ hi=>by
  have hlt:(i:Int)<l.length:=by omega
  have hw:w64 ((i:Int) + 1)=i + 1:=zaV (by omega) (by omega)
  have hx:zAG (l.length:Int) (i:Int)=some (i:Int):=znq (by omega) hlt
  have ho:=zgo l n i
  unfold zb3
  simp only [hlt,hx,vE0,if_true,wC0,zeB,wF0 hi,hw,zaP]
  rw [zBX (by omega)]
  cases l[i]<;>by_cases hn:(i:Int)=n<;>simp [hn]
 refine this.trans (zb0 ?_)
 unfold zb3
 simp
theorem zgt (e:Entry) (n:Int) (hl:(Entry.Share e).length≤1000):zcD e n=some (zaP (Entry.Share e) n (Entry.Share e).length):=by
 have:=zf7 (f:=zbZ e n) (fun i=>((i:Int),zaP (Entry.Share e) n i)) (n:=0) (m:=(Entry.Share e).length) (by omega) fun i _ hi=>by
  have hlt:(i:Int)<(Entry.Share e).length:=by omega
  have hw:w64 ((i:Int) + 1)=i + 1:=zaV (by omega) (by omega)
  have ho:=zgo (Entry.Share e) n i
  unfold zbZ
  simp only [hlt,vE0,if_true,zeB,wF0 hi,wC0,hw,zaP]
  rw [zBX (by omega)]
  cases (Entry.Share e)[i]<;>by_cases hn:(i:Int)=n<;>simp [hn]
 have last:zbZ e n (((Entry.Share e).length:Int),zaP (Entry.Share e) n (Entry.Share e).length)=some (.inr (zaP (Entry.Share e) n (Entry.Share e).length)):=by
  unfold zbZ
  simp
 unfold zcD
 rw [show zaf (zbZ e n) ((0:Int),([]:List Int))=some (zaP (Entry.Share e) n (Entry.Share e).length) from this.trans (zb0 last)]
 rfl
theorem zgm {l:List Bool}{n:Int}:∀ {k:Nat},zaP l n k=[]→∀ i,i<k→(i:Int)≠n→l[i]?≠some true
 | 0,_,i,hi,_=>by omega
 | k + 1,h,i,hi,hn=>by
  simp only [zaP] at h
  split at h
  ·simp at h
  ·rename_i hc
   by_cases e:i=k
   ·subst e;exact fun h'=>hc ⟨h',hn⟩
   ·exact zgm h i (by omega) hn
theorem zxs {l:List Bool}(h:l.length≤1000):zaC 1 l=some l:=zrO (zhj (by omega) (by omega))
theorem app1 {l:List Bool}(h:l.length≤1000):zAK 1 ([]:List Bool) l=some l:=by
 rw [ztB (zhj (by simp;omega) (by simp;omega))]
 rfl
theorem zBV {n:Nat}(h:n≤1000):zA2 false 1 (n:Int) (n:Int)=some (List.replicate n false):=by
 rw [zwB (by omega) (by omega) (zhj (by omega) (by omega))]
 rfl
def zin (e:Entry) (n:Int):Entry×Int×Int :=
 if hasB e n=true then
  if Entry.Owner e=0∧zaP (Entry.Share e) n (Entry.Share e).length=[] then (Entry.mk (n + 1) (List.replicate (Entry.Share e).length false),0,0)
  else if Entry.Owner e=n + 1 then (e,n + 1,0)
  else (Entry.mk (Entry.Owner e) ((Entry.Share e).set n.toNat true),Entry.Owner e,0)
 else (e,0,1)
theorem zxp {l:List Bool}{n:Int}(h0:0≤n) (hn:n<(l.length:Int)) (h:zaP l n l.length=[]):l.set n.toNat false=List.replicate l.length false:=by
 apply List.ext_getElem
 ·simp
 ·intro i h1 h2
  simp only [vQ0] at h1
  rw [List.getElem_set,List.getElem_replicate]
  split
  ·rfl
  ·have:=zgm h i h1 (by omega)
   rw [wF0 h1] at this
   cases hb:l[i] with
   | false=>rfl
   | true=>rw [hb] at this;exact absurd rfl this
theorem zqz (e:Entry) (n:Int) (hl:(Entry.Share e).length≤1000):zc5 e n=some (zin e n):=by
 unfold zc5 zin
 rw [zxs hl]
 simp only [wC0,Entry.eta,zgW]
 cases hh:hasB e n with
 | false=>simp
 | true =>
  obtain ⟨h1,h2,h3,h4,h5⟩:=zhM hh
  have hw:w64 (n + 1)=n + 1:=zaV (by omega) (by omega)
  have hx:zAG ((Entry.Share e).length:Int) n=some n:=znq h2 h3
  have hs:=fun b:Bool=>zty (v:=b) h2 h3
  simp only [wH0,wA0,if_false,if_true,znT _ _ hl,wC0,hw,hx,hs]
  by_cases ho:Entry.Owner e=0
  ·by_cases hn:zaP (Entry.Share e) n (Entry.Share e).length=[]
   ·simp [ho,hn,zxp h2 h3 hn]
   ·have:¬ ((zaP (Entry.Share e) n (Entry.Share e).length).length:Int)=0:=fun h=>hn (vO0 (by omega))
    have h6:¬ (0:Int)=n + 1:=by omega
    simp [ho,hn,this,h6]
  ·by_cases h6:Entry.Owner e=n + 1
   ·have h7:¬ n + 1=0:=by omega
    simp [ho,h6,h7]
    rw [← h6]
    rfl
   ·simp [ho,h6]
theorem zuj (e:Entry) (n:Int) (hl:(Entry.Share e).length≤1000):zmu e n=some (zin e n):=by
 unfold zmu zin
 rw [zkx]
 simp only [wC0]
 cases hh:hasB e n with
 | false=>simp
 | true =>
  obtain ⟨h1,h2,h3,h4,h5⟩:=zhM hh
  have hw:w64 (n + 1)=n + 1:=zaV (by omega) (by omega)
  have hx:zAG ((Entry.Share e).length:Int) n=some n:=znq h2 h3
  have hs:=fun b:Bool=>zty (v:=b) h2 h3
  have hset:zqM (Entry.Share e) n true=some ((Entry.Share e).set n.toNat true):=by
   unfold zqM
   simp [app1 hl,hx,hs]
  simp only [wH0,wA0,if_false,if_true,zgt _ _ hl,wC0,hw,zBV hl,hset]
  by_cases ho:Entry.Owner e=0
  ·by_cases hn:zaP (Entry.Share e) n (Entry.Share e).length=[]
   ·simp [ho,hn]
   ·have:¬ ((zaP (Entry.Share e) n (Entry.Share e).length).length:Int)=0:=fun h=>hn (vO0 (by omega))
    have h6:¬ (0:Int)=n + 1:=by omega
    simp [ho,hn,this,h6]
  ·by_cases h6:Entry.Owner e=n + 1
   ·have h7:¬ n + 1=0:=by omega
    simp [ho,h6,h7]
   ·simp [ho,h6]
theorem ztF:zik=zb3:=rfl
def zpw (e:Entry) (n:Int):Entry×Int×List Int×Int :=
 if hasB e n=true then (Entry.mk (n + 1) (List.replicate (Entry.Share e).length false),Entry.Owner e,zaP (Entry.Share e) n (Entry.Share e).length,0) else (e,0,[],1)
theorem zo9 (e:Entry) (n:Int) (hl:(Entry.Share e).length≤1000):zck e n=some (zpw e n):=by
 unfold zck zpw
 rw [zxs hl,ztF]
 simp only [wC0,Entry.eta,zgW]
 rcases Bool.eq_false_or_eq_true (hasB e n) with hh|hh
 rotate_left
 ·simp [hh]
 ·obtain ⟨h1,h2,h3,h4,h5⟩:=zhM hh
  have hw:w64 (n + 1)=n + 1:=zaV (by omega) (by omega)
  simp only [hh,wH0,wA0,if_false,if_true,znT _ _ hl,wC0,hw]
theorem zsa (e:Entry) (n:Int) (hl:(Entry.Share e).length≤1000):zhb e n=some (zpw e n):=by
 unfold zhb zpw
 rw [zkx]
 simp only [wC0]
 rcases Bool.eq_false_or_eq_true (hasB e n) with hh|hh
 rotate_left
 ·simp [hh]
 ·obtain ⟨h1,h2,h3,h4,h5⟩:=zhM hh
  have hw:w64 (n + 1)=n + 1:=zaV (by omega) (by omega)
  simp only [hh,wH0,wA0,if_false,if_true,zgt _ _ hl,wC0,hw,zBV hl]
def zmj (e:Entry) (n:Int):Entry×Int :=
 if hasB e n=true then (if Entry.Owner e=n + 1 then (Entry.mk 0 (Entry.Share e),0) else (e,7)) else (e,1)
theorem zqY (e:Entry) (n:Int) (hl:(Entry.Share e).length≤1000):zfc e n=some (zmj e n):=by
 unfold zfc zmj
 rw [zxs hl]
 simp only [wC0,Entry.eta,zgW]
 rcases Bool.eq_false_or_eq_true (hasB e n) with hh|hh
 rotate_left
 ·simp [hh]
 ·obtain ⟨h1,h2,h3,h4,h5⟩:=zhM hh
  have hw:w64 (n + 1)=n + 1:=zaV (by omega) (by omega)
  by_cases h6:Entry.Owner e=n + 1<;>simp [hh,hw,h6]
theorem zut (e:Entry) (n:Int):zmn e n=some (zmj e n):=by
 unfold zmn zmj
 rw [zkx]
 simp only [wC0]
 rcases Bool.eq_false_or_eq_true (hasB e n) with hh|hh
 rotate_left
 ·simp [hh]
 ·obtain ⟨h1,h2,h3,h4,h5⟩:=zhM hh
  have hw:w64 (n + 1)=n + 1:=zaV (by omega) (by omega)
  by_cases h6:Entry.Owner e=n + 1<;>simp [hh,hw,h6]
theorem zws (l:List Bool) (hl:(l.length:Int)≤9223372036854775807):(true∈l∧∃ i:Nat,zaT l true=some (i:Int))∨(true∉l∧zaT l true=some (-1)):=by
 have step:∀ i:Nat,i<l.length→zak l true (l.length:Int) i=some (if l[i]?=some true then .inr (.inr (i:Int)) else .inl ((i:Int) + 1)):=fun i hi=>by
  have hw:w64 ((i:Int) + 1)=i + 1:=zaV (by omega) (by omega)
  have hlt:(i:Int)<(l.length:Int):=by omega
  unfold zak
  rw [zeB,wF0 hi]
  cases hb:l[i]<;>simp [hlt,hw,hb]
 have last:zak l true (l.length:Int) (l.length:Int)=some (.inr (.inl ())):=by
  unfold zak
  simp
 simp only [zaT]
 rcases zmv (fun i=>decide (l[i]?≠some true)) l.length with h|⟨i,h1,h2,h3⟩
 ·refine .inr ⟨fun hm=>?_,?_⟩
  ·obtain ⟨i,hi,e⟩:=List.getElem_of_mem hm
   have:=h i hi
   simp [wF0 hi,e] at this
  ·have:=zf7 (f:=zak l true (l.length:Int)) (fun i=>(i:Int)) (n:=0) (m:=l.length) (by omega) fun j _ hj=>by
    rw [step j hj,if_neg (by simpa using h j hj)]
    simp
   rw [show zaf (zak l true (l.length:Int)) 0=some (.inl ()) from this.trans (zb0 last)]
   rfl
 ·have h2':l[i]?=some true:=by simpa using h2
  refine .inl ⟨List.mem_of_getElem? h2',i,?_⟩
  have:=zf7 (f:=zak l true (l.length:Int)) (fun i=>(i:Int)) (n:=0) (m:=i) (by omega) fun j _ hj=>by
   rw [step j (by omega),if_neg (by simpa using h3 j hj)]
   simp
  rw [show zaf (zak l true (l.length:Int)) 0=some (.inr (i:Int)) from this.trans (zb0 (by rw [step i h1,if_pos h2']))]
  rfl
theorem zqA (l:List Bool) (hl:(l.length:Int)≤9223372036854775807):zaX l true=some (decide (true∈l)):=by
 unfold zaX
 rcases zws l hl with ⟨h1,i,h2⟩|⟨h1,h2⟩
 ·rw [h2];simp [h1]
 ·rw [h2];simp [h1]
def ztn (e:Entry):Bool:=zAP e ((Entry.Share e).length:Int)&&(decide (0<Entry.Owner e)&&decide (true∉Entry.Share e))
theorem zpb (e:Entry):zbT e=some (ztn e):=by
 unfold zbT ztn
 rw [zhG]
 cases hm:zAP e ((Entry.Share e).length:Int) with
 | false=>simp
 | true =>
  have hl:((Entry.Share e).length:Int)≤9223372036854775807:=by
   simp [zAP] at hm
   omega
  simp only [zqA _ hl]
  by_cases h:0<Entry.Owner e<;>simp [h]
theorem zxS (e:Entry) (hl:((Entry.Share e).length:Int)≤9223372036854775807):zml e e=some true:=by
 have step:∀ i:Nat,i<(Entry.Share e).length→zcz e e i=some (.inl ((i:Int) + 1)):=fun i hi=>by
  have hw:w64 ((i:Int) + 1)=i + 1:=zaV (by omega) (by omega)
  have hlt:(i:Int)<((Entry.Share e).length:Int):=by omega
  unfold zcz
  rw [zeB,wF0 hi]
  simp [hlt,hw]
 have last:zcz e e ((Entry.Share e).length:Int)=some (.inr (.inl ())):=by
  unfold zcz
  simp
 unfold zml
 have:=zf7 (f:=zcz e e) (fun i=>(i:Int)) (n:=0) (m:=(Entry.Share e).length) (by omega) fun j _ hj=>by
  rw [step j hj]
  simp
 rw [show zaf (zcz e e) 0=some (.inl ()) from this.trans (zb0 last)]
 simp
theorem zos (l:List Int) (hl:(l.length:Int)≤9223372036854775807):zj0 l l=some true:=by
 have step:∀ i:Nat,i<l.length→zbQ l l i=some (.inl ((i:Int) + 1)):=fun i hi=>by
  have hw:w64 ((i:Int) + 1)=i + 1:=zaV (by omega) (by omega)
  have hlt:(i:Int)<(l.length:Int):=by omega
  unfold zbQ
  rw [zeB,wF0 hi]
  simp [hlt,hw]
 have last:zbQ l l (l.length:Int)=some (.inr (.inl ())):=by
  unfold zbQ
  simp
 unfold zj0
 have:=zf7 (f:=zbQ l l) (fun i=>(i:Int)) (n:=0) (m:=l.length) (by omega) fun j _ hj=>by
  rw [step j hj]
  simp
 rw [show zaf (zbQ l l) 0=some (.inl ()) from this.trans (zb0 last)]
 simp
theorem zbM {e:Entry}{c:Int}:zAP e c=true↔(1≤c∧c≤4∧((Entry.Share e).length:Int)=c∧0≤Entry.Owner e∧Entry.Owner e≤c)∧(Entry.Owner e=0∨(Entry.Share e)[(Entry.Owner e - 1).toNat]?≠some true):=by
 unfold zAP
 simp only [wD0,Bool.or_eq_true,vG0]
theorem zux {e:Entry}{n k:Int}(h:zAP e n=true) (h0:0≤k) (hk:k<n):hasB e k=true:=by
 have:=(zbM.1 h).1.2.2.1
 unfold hasB
 rw [this,h]
 simp [h0,hk]
theorem zi8 {l:List Bool}{n:Int}{x:Int}:∀ {k:Nat},x∈zaP l n k→∃ j:Nat,x=j∧j<k∧l[j]?=some true∧(j:Int)≠n
 | 0,h=>by simp [zaP] at h
 | k + 1,h=>by
  simp only [zaP] at h
  split at h
  ·rename_i hc
   rcases List.mem_append.1 h with h|h
   ·obtain ⟨j,h1,h2,h3,h4⟩:=zi8 h
    exact ⟨j,h1,by omega,h3,h4⟩
   ·rw [List.mem_singleton] at h
    exact ⟨k,h,by omega,hc.1,hc.2⟩
  ·obtain ⟨j,h1,h2,h3,h4⟩:=zi8 h
   exact ⟨j,h1,by omega,h3,h4⟩
theorem ztZ {e:Entry}{n k:Int}(h:zAP e n=true) (h0:0≤k) (hk:k<n) :
  (zin e k).2.2=0∧(zin e k).2.1=Entry.Owner e∧(Entry.Owner (zin e k).1=k + 1∨(Entry.Share (zin e k).1)[k.toNat]?=some true)∧(0<Entry.Owner e→Entry.Owner (zin e k).1=Entry.Owner e) ∧
   (∀ c:Nat,(Entry.Share e)[c]?=some true→(Entry.Share (zin e k).1)[c]?=some true∨Entry.Owner (zin e k).1=c + 1)∧zAP (zin e k).1 n=true:=by
 have hh:=zux h h0 hk
 obtain ⟨⟨m1,m2,m3,m4,m5⟩,m6⟩:=zbM.1 h
 unfold zin
 rw [if_pos hh]
 by_cases h1:Entry.Owner e=0∧zaP (Entry.Share e) k (Entry.Share e).length=[]
 ·rw [if_pos h1]
  refine ⟨rfl,h1.1.symm,.inl (by simp),fun h=>by omega,fun c hc=>.inr ?_,?_⟩
  ·have hlt:c<(Entry.Share e).length:=by
    rcases vV0 c (Entry.Share e).length with h|h
    ·exact h
    ·rw [vR0 h] at hc;cases hc
   have:(c:Int)=k:=Classical.byContradiction fun hn=>zgm h1.2 c hlt hn hc
   simp [this]
  ·refine zbM.2 ⟨?_,.inr ?_⟩
   ·simp;omega
   ·simp only [Entry.Owner_mk,Entry.Share_mk]
    rw [List.getElem?_replicate]
    split<;>simp
 ·rw [if_neg h1]
  by_cases h2:Entry.Owner e=k + 1
  ·rw [if_pos h2]
   exact ⟨rfl,h2.symm,.inl h2,fun _=>rfl,fun c hc=>.inl hc,h⟩
  ·rw [if_neg h2]
   refine ⟨rfl,rfl,.inr ?_,fun _=>by simp,fun c hc=>.inl ?_,zbM.2 ⟨?_,?_⟩⟩
   ·simp only [Entry.Share_mk]
    rw [List.getElem?_set_self (by omega)]
   ·simp only [Entry.Share_mk]
    rw [List.getElem?_set]
    split
    ·rename_i he
     subst he
     have:k.toNat<(Entry.Share e).length:=by omega
     simp [this]
    ·exact hc
   ·simp;omega
   ·rcases m6 with m6|m6
    ·exact .inl (by simpa using m6)
    ·by_cases ho:Entry.Owner e=0
     ·exact .inl (by simpa using ho)
     ·refine .inr ?_
      simp only [Entry.Owner_mk,Entry.Share_mk]
      rw [vX0 (by omega)]
      exact m6
theorem zr1 {e:Entry}{n k:Int}(h:zAP e n=true) (h0:0≤k) (hk:k<n) :
  zpw e k=(Entry.mk (k + 1) (List.replicate (Entry.Share e).length false),Entry.Owner e,zaP (Entry.Share e) k (Entry.Share e).length,0)∧zAP (Entry.mk (k + 1) (List.replicate (Entry.Share e).length false)) n=true ∧
   ztn (Entry.mk (k + 1) (List.replicate (Entry.Share e).length false))=true:=by
 have hh:=zux h h0 hk
 obtain ⟨⟨m1,m2,m3,m4,m5⟩,m6⟩:=zbM.1 h
 have hm:zAP (Entry.mk (k + 1) (List.replicate (Entry.Share e).length false)) n=true:=by
  refine zbM.2 ⟨?_,.inr ?_⟩
  ·simp;omega
  ·simp only [Entry.Owner_mk,Entry.Share_mk]
   rw [List.getElem?_replicate]
   split<;>simp
 refine ⟨?_,hm,?_⟩
 ·unfold zpw
  rw [if_pos hh]
 ·unfold ztn
  have:((Entry.Share (Entry.mk (k + 1) (List.replicate (Entry.Share e).length false))).length:Int)=n:=by simp [m3]
  rw [this,hm]
  have:¬ true∈List.replicate (Entry.Share e).length false:=by simp
  have h1:0<k + 1:=by omega
  simp [this,h1]
theorem zun {e:Entry}{n k:Int}(h:zAP e n=true) (h0:0≤k) (hk:k<n) :
  (((zmj e k).2=0)↔(Entry.Owner e=k + 1))∧((zmj e k).2=0→Entry.Owner (zmj e k).1=0)∧zAP (zmj e k).1 n=true:=by
 have hh:=zux h h0 hk
 obtain ⟨⟨m1,m2,m3,m4,m5⟩,m6⟩:=zbM.1 h
 unfold zmj
 rw [if_pos hh]
 by_cases h1:Entry.Owner e=k + 1
 ·rw [if_pos h1]
  refine ⟨by simp [h1],by simp,zbM.2 ⟨?_,.inl (by simp)⟩⟩
  simp;omega
 ·rw [if_neg h1]
  exact ⟨by simp [h1],by simp,h⟩
end Go.Proofs.YtdfohlonacbelaaGreat
