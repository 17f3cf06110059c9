/- Layer 14: which stores are right, and their words, by the program and by the reference. -/
import Derived.Test.YtlgjbfdojbmmgaaP7e
import Derived.Test.YtlgjbfdojbmmgaaU4
set_option linter.unusedSimpArgs false
set_option linter.unusedVariables false
namespace Go.Proofs.Ytlgjbfdojbmmgaa
open Go.SX
theorem znP {a n:Nat}(hn:0<n):remO (a:Int) (n:Int)=some ((a % n:Nat):Int):=by
 rw [(zxH (a:=(a:Int)) (n:=(n:Int)) (by omega) (by omega)).1]
 rfl
theorem zix {a n:Nat}(hn:0<n) (ha:a≤1000000):quoO .i64 (a:Int) (n:Int)=some ((a / n:Nat):Int):=by
 unfold quoO
 rw [if_neg (by omega)]
 have h:=Nat.div_le_self a n
 show some (w64 ((a / n:Nat):Int))=_
 rw [zoe (by omega)]
def bN (b:Banks):Nat:=(Banks.Rows b).length
def bM (b:Banks):Nat:=(Banks.Par b).length
def allB (b:Banks):List Int:=(List.range (bN b * bM b)).map fun p=>cell (Banks.Rows b) (p % bN b) (p / bN b)
theorem zeM (b:Banks):(allB b).length=bN b * bM b:=by simp [allB]
theorem zgC {b:Banks}{p:Nat}(h:p<bN b * bM b):(allB b)[p]?=some (cell (Banks.Rows b) (p % bN b) (p / bN b)):=by
 unfold allB
 rw [List.getElem?_map,List.getElem?_range h]
 rfl
def zbT (s:Vault):List Int:=(allB (Vault.Banks s)).take (Vault.Words s).toNat
def zlog (s:Vault):Log:=Log.mk (List.replicate (Vault.Words s).toNat 0) (Vault.Span s) (Vault.Lst s)
def logV (s:Vault):Log:=Log.mk (zbT s) (Vault.Span s) (Vault.Lst s)
def fitV (s:Vault):Prop:=1≤Vault.Words s∧Vault.Words s≤64∧(Vault.Words s).toNat≤bM (Vault.Banks s) * bN (Vault.Banks s)∧(bM (Vault.Banks s) - 1) * bN (Vault.Banks s)<(Vault.Words s).toNat
instance (s:Vault):Decidable (fitV s):=by unfold fitV;infer_instance
noncomputable def zam (s:Vault):Bool:=zbf (Vault.Banks s)&&(decide (fitV s)&&zaU (zlog s))
structure VOk (s:Vault):Prop where
 b:BOk (Vault.Banks s)
 l:(Vault.Lst s).length≤300
 v:∀ u∈Vault.Lst s,wd (Undo.Val u)
theorem zau {s:Vault}(h:zam s=true):zbf (Vault.Banks s)=true∧fitV s∧zaU (zlog s)=true:=by
 unfold zam at h
 simpa only [wD0,decide_eq_true_eq] using h
theorem zqC {a b:Nat}(ha:a≤80) (hb:b≤10):a * b≤800:=Nat.mul_le_mul ha hb
theorem zr9 (a b:Nat):((a:Int) * (b:Int))=((a * b:Nat):Int):=rfl
theorem zb7 {s:Vault}(hs:VOk s):zcc s=some (zam s):=by
 unfold zcc zam
 rw [zf7 hs.b]
 cases hr:zbf (Vault.Banks s)
 ·rfl
 obtain ⟨⟨s1,s2,s3,s4,_,_⟩,_⟩:=zas hr
 simp only [wC0,wH0,wA0,if_false,Bool.true_and]
 by_cases h1:Vault.Words s<1
 ·have:¬ fitV s:=fun h=>by unfold fitV at h;omega
  simp only [h1,this,decide_true,decide_false,if_true,Bool.false_and,wC0]
 by_cases h2:64<Vault.Words s
 ·have:¬ fitV s:=fun h=>by unfold fitV at h;omega
  simp only [h1,h2,this,decide_true,decide_false,if_true,Bool.false_and,wC0,wA0,if_false]
 have hp:=zqC hs.b.pl hs.b.rl
 have hq:((Banks.Par (Vault.Banks s)).length - 1) * (Banks.Rows (Vault.Banks s)).length≤800:=zqC (by omega) hs.b.rl
 have e1:w64 ((List.length (Banks.Par (Vault.Banks s)):Int) - 1)=(((Banks.Par (Vault.Banks s)).length - 1:Nat):Int):=by rw [zdO (by omega) (by omega)];omega
 have w1:w64 (((Banks.Par (Vault.Banks s)).length * (Banks.Rows (Vault.Banks s)).length:Nat):Int)=(((Banks.Par (Vault.Banks s)).length * (Banks.Rows (Vault.Banks s)).length:Nat):Int):=zoe (by omega)
 have w2:w64 ((((Banks.Par (Vault.Banks s)).length - 1) * (Banks.Rows (Vault.Banks s)).length:Nat):Int)=((((Banks.Par (Vault.Banks s)).length - 1) * (Banks.Rows (Vault.Banks s)).length:Nat):Int):=zoe (by omega)
 simp only [h1,h2,decide_false,wC0,wA0,if_false,e1,zr9,w1,w2]
 obtain ⟨W,hW⟩:∃ W:Nat,Vault.Words s=(W:Int):=⟨(Vault.Words s).toNat,by omega⟩
 by_cases hf:fitV s
 ·have hf2:=hf
  unfold fitV bM bN at hf2
  have c1:(decide ((((Banks.Par (Vault.Banks s)).length * (Banks.Rows (Vault.Banks s)).length:Nat):Int)<Vault.Words s)||decide (Vault.Words s≤((((Banks.Par (Vault.Banks s)).length - 1) * (Banks.Rows (Vault.Banks s)).length:Nat):Int)))=false:=by
   rw [Bool.or_eq_false_iff,decide_eq_false_iff_not,decide_eq_false_iff_not]
   omega
  rw [c1,if_neg (by simp),hW,zb9 (by omega) (by omega),wC0]
  have hz:Log.mk (List.replicate W 0) (Vault.Span s) (Vault.Lst s)=zlog s:=by unfold zlog;rw [hW,Int.toNat_natCast]
  rw [hz,zdU _ (by have:=hs.l;unfold zlog;simp only [Log.Lst_mk];omega),wC0,decide_eq_true hf,Bool.true_and]
 ·have hf2:=hf
  unfold fitV bM bN at hf2
  have c1:(decide ((((Banks.Par (Vault.Banks s)).length * (Banks.Rows (Vault.Banks s)).length:Nat):Int)<Vault.Words s)||decide (Vault.Words s≤((((Banks.Par (Vault.Banks s)).length - 1) * (Banks.Rows (Vault.Banks s)).length:Nat):Int)))=true:=by
   rw [Bool.or_eq_true,decide_eq_true_eq,decide_eq_true_eq]
   omega
  rw [c1,if_pos rfl,decide_eq_false hf,Bool.false_and]
theorem zvL {w n:Nat}(hn:0<n) (hw:w≤100) (hn2:n≤100):zeC (w:Int) (n:Int)=some (((w + n - 1) / n:Nat):Int):=by
 unfold zeC
 have e1:w64 (w64 ((w:Int) + (n:Int)) - 1)=((w + n - 1:Nat):Int):=by
  rw [zdO (n:=(w:Int) + (n:Int)) (by omega) (by omega),zdO (by omega) (by omega)]
  omega
 rw [e1,zix hn (by omega)]
 rfl
theorem zke {w n m:Nat}(hn:0<n) (hw:0<w) (hm:1≤m):m=(w + n - 1) / n↔w≤m * n∧(m - 1) * n<w:=by
 have h1:=Nat.div_add_mod (w + n - 1) n
 have h2:=Nat.mod_lt (w + n - 1) hn
 constructor
 ·intro h
  rw [← h] at h1
  have e:(m - 1) * n + n=n * m:=by
   obtain ⟨k,rfl⟩:∃ k,m=k + 1:=⟨m - 1,by omega⟩
   rw [Nat.mul_comm n,Nat.add_mul,Nat.one_mul];rfl
  rw [Nat.mul_comm m n]
  omega
 ·rintro ⟨h3,h4⟩
  rw [eq_comm,Nat.div_eq_iff hn]
  have e:(m - 1) * n + n=m * n:=by
   obtain ⟨k,rfl⟩:∃ k,m=k + 1:=⟨m - 1,by omega⟩
   rw [Nat.add_mul,Nat.one_mul];rfl
  omega
theorem zvd {s:Vault}(hl:(Vault.Lst s).length≤1000) (hw:0≤Vault.Words s):zf8 s=some ((List.range (Vault.Lst s).length).all (uok (zlog s))):=by
 have h:=zxn (zlog s) hl
 have e:(List.length (Log.Mem (zlog s)):Int)=Vault.Words s:=by
  unfold zlog
  rw [Log.Mem_mk,List.length_replicate]
  omega
 rw [e] at h
 exact h
theorem za4 {s:Vault}(hs:VOk s):za6 s=some (zam s):=by
 unfold za6 zam
 rw [zdJ hs.b]
 cases hr:zbf (Vault.Banks s)
 ·rfl
 obtain ⟨⟨s1,s2,s3,s4,_,_⟩,_⟩:=zas hr
 simp only [wC0,wH0,wA0,if_false,Bool.true_and]
 by_cases h1:Vault.Words s<1
 ·have:¬ fitV s:=fun h=>by unfold fitV at h;omega
  simp only [h1,this,decide_true,decide_false,if_true,Bool.false_and,wC0]
 by_cases h2:64<Vault.Words s
 ·have:¬ fitV s:=fun h=>by unfold fitV at h;omega
  simp only [h1,h2,this,decide_true,decide_false,if_true,Bool.false_and,wC0,wA0,if_false]
 obtain ⟨W,hW⟩:∃ W:Nat,Vault.Words s=(W:Int):=⟨(Vault.Words s).toNat,by omega⟩
 have hri:=zvd (s:=s) (by have:=hs.l;omega) (by omega)
 simp only [h1,h2,decide_false,wC0,wA0,if_false]
 have he:=zvL (w:=W) (n:=(Banks.Rows (Vault.Banks s)).length) (by omega) (by omega) (by omega)
 rw [hW,he]
 simp only [wC0]
 have hi:=zke (w:=W) (n:=(Banks.Rows (Vault.Banks s)).length) (m:=(Banks.Par (Vault.Banks s)).length) (by omega) (by omega) s3
 by_cases hf:fitV s
 ·have hf2:=hf
  unfold fitV bM bN at hf2
  rw [hW,Int.toNat_natCast] at hf2
  have hm:=hi.2 ⟨hf2.2.2.1,hf2.2.2.2⟩
  have c1:(List.length (Banks.Par (Vault.Banks s)):Int)=(((W + (Banks.Rows (Vault.Banks s)).length - 1) / (Banks.Rows (Vault.Banks s)).length:Nat):Int):=by rw [← hm]
  simp only [c1,hf,decide_true,wH0,wA0,if_false,Bool.true_and]
  unfold zaU
  by_cases h3:0≤Vault.Span s
  ·by_cases h4:Vault.Span s≤1099511627776
   ·by_cases h5:(Vault.Lst s).length≤256
    ·have hz:zd8 (zlog s):=by
      unfold zd8 zlog
      simp only [Log.Mem_mk,Log.Span_mk,Log.Lst_mk,List.length_replicate]
      omega
     have h5':(List.length (Vault.Lst s):Int)≤256:=by omega
     simp only [h3,h4,h5',hz,decide_true,if_true,hri,wC0,Bool.true_and]
     rfl
    ·have hz:¬ zd8 (zlog s):=by
      unfold zd8 zlog
      simp only [Log.Mem_mk,Log.Span_mk,Log.Lst_mk,List.length_replicate]
      omega
     have h5':¬ (List.length (Vault.Lst s):Int)≤256:=by omega
     simp only [h3,h4,h5',hz,decide_true,decide_false,if_true,wC0,Bool.false_and,wA0,if_false]
   ·have hz:¬ zd8 (zlog s):=by
     unfold zd8 zlog
     simp only [Log.Mem_mk,Log.Span_mk,Log.Lst_mk,List.length_replicate]
     omega
    simp only [h3,h4,hz,decide_true,decide_false,if_true,wC0,Bool.false_and,wA0,if_false]
  ·have hz:¬ zd8 (zlog s):=by
    unfold zd8 zlog
    simp only [Log.Mem_mk,Log.Span_mk,Log.Lst_mk,List.length_replicate]
    omega
   simp only [h3,hz,decide_false,wC0,Bool.false_and,wA0,if_false]
 ·have hm:¬ (List.length (Banks.Par (Vault.Banks s)):Int)=(((W + (Banks.Rows (Vault.Banks s)).length - 1) / (Banks.Rows (Vault.Banks s)).length:Nat):Int):=by
   intro h
   have h':=hi.1 (Int.ofNat.inj h)
   apply hf
   unfold fitV bM bN
   rw [hW,Int.toNat_natCast]
   omega
  simp only [hm,hf,decide_false,Bool.not_false,if_true,Bool.false_and]
theorem zue {m m':List Int}{sp:Int}{l:List Undo}(h:m.length=m'.length):zaU (Log.mk m sp l)=zaU (Log.mk m' sp l):=by
 have hu:uok (Log.mk m sp l)=uok (Log.mk m' sp l):=by
  funext i
  unfold uok
  simp only [Log.Mem_mk,Log.Span_mk,Log.Lst_mk,h]
  cases l[i]?<;>rfl
 have hs:zd8 (Log.mk m sp l)=zd8 (Log.mk m' sp l):=by
  unfold zd8
  simp only [Log.Mem_mk,Log.Span_mk,Log.Lst_mk,h]
 unfold zaU
 simp only [Log.Lst_mk,hs,hu]
theorem zji {s:Vault}(h:fitV s):(zbT s).length=(Vault.Words s).toNat:=by
 unfold fitV at h
 unfold zbT
 rw [wE0,zeM,Nat.mul_comm]
 omega
theorem zfx {s:Vault}(h:zam s=true):zaU (logV s)=true:=by
 obtain ⟨_,h2,h3⟩:=zau h
 unfold logV
 rw [zue (m':=List.replicate (Vault.Words s).toNat 0) (by rw [zji h2,List.length_replicate])]
 exact h3
theorem znl {f:(Int×List Int)→Option ((Int×List Int)⊕List Int)}{s:Vault}(hr:zam s=true)
  (step:∀ (i:Nat) (l:List Int),i<(Vault.Words s).toNat→l.length≤100→f ((i:Int),l)=some (.inl (((i + 1:Nat):Int),l++[cell (Banks.Rows (Vault.Banks s)) (i % bN (Vault.Banks s)) (i / bN (Vault.Banks s))])))
  (out:∀ l:List Int,f (Vault.Words s,l)=some (.inr l)):zar f ((0:Int),([]:List Int))=some (zbT s):=by
 obtain ⟨_,h2,_⟩:=zau hr
 have h3:=h2
 unfold fitV at h3
 have hl:=zeM (Vault.Banks s)
 have lp:=zav (f:=f) (n:=(Vault.Words s).toNat) (e:=zbT s) (fun i=>((i:Int),(allB (Vault.Banks s)).take i)) (fun i hi=>by
  have hip:i<bN (Vault.Banks s) * bM (Vault.Banks s):=by rw [Nat.mul_comm];omega
  rw [step i _ hi (by rw [wE0];omega),zaF (by rw [hl];exact hip)]
  have:=zgC hip
  rw [wF0 (by rw [hl];exact hip)] at this
  rw [Option.some.inj this]) (by
  have e:(((Vault.Words s).toNat:Nat):Int)=Vault.Words s:=by omega
  rw [e,out]
  rfl)
 exact lp
theorem zxE {b:Banks}(h:zbf b=true) {k:Nat}(hk:k<bN b):(rowAt (Banks.Rows b) k).length=bM b:=(zas h).2 _ (zdt hk)
theorem zd1 {s:Vault}(h:zam s=true) {i:Nat}(hi:i<(Vault.Words s).toNat):0<bN (Vault.Banks s)∧i % bN (Vault.Banks s)<bN (Vault.Banks s)∧i / bN (Vault.Banks s)<bM (Vault.Banks s):=by
 obtain ⟨h1,h2,_⟩:=zau h
 obtain ⟨⟨s1,_⟩,_⟩:=zas h1
 have hn:0<bN (Vault.Banks s):=s1
 unfold fitV at h2
 refine ⟨hn,Nat.mod_lt _ hn,?_⟩
 rw [Nat.div_lt_iff_lt_mul hn]
 omega
theorem zj7 (s:Vault) (i:Nat) (hn:0<bN (Vault.Banks s)) (hi:i≤1000):zbm s (i:Int)=some (((i % bN (Vault.Banks s):Nat):Int),((i / bN (Vault.Banks s):Nat):Int)):=by
 unfold zbm
 have e:(List.length (Banks.Rows (Vault.Banks s)):Int)=(bN (Vault.Banks s):Int):=rfl
 dsimp only
 rw [e,znP hn,wC0,zix hn (by omega),wC0]
theorem zs6 {b:Banks}(h:zbf b=true) {k a:Nat}(hk:k<bN b) (ha:a<bM b):getO (Banks.Rows b) (k:Int)=some (rowAt (Banks.Rows b) k)∧getO (rowAt (Banks.Rows b) k) (a:Int)=some (cell (Banks.Rows b) k a):=by
 constructor
 ·rw [zab hk,zbo hk]
 ·have hl:=zxE h hk
  rw [zab (show a<(rowAt (Banks.Rows b) k).length by omega)]
  unfold cell
  rw [zaJ]
theorem zmr {s:Vault}(hs:VOk s):zff s=some (if zam s=true then zbT s else []):=by
 unfold zff
 rw [za4 hs]
 cases hr:zam s
 ·rfl
 have h2:=(zau hr).2.1
 have h3:=(zau hr).1
 unfold fitV at h2
 rw [wC0,znl hr (fun i l hi hl=>by
  obtain ⟨p1,p2,p3⟩:=zd1 hr hi
  obtain ⟨g1,g2⟩:=zs6 h3 p2 p3
  have hlt:(i:Int)<Vault.Words s:=by omega
  unfold zd9
  simp only [hlt,decide_true,if_true,zj7 s i p1 (by omega),wC0,g1,g2]
  rw [zaH (by simp;omega) (by omega),wC0,zah (by omega)]) (fun l=>by
  unfold zd9
  simp only [Int.lt_irrefl,decide_false,wA0,if_false])]
 rfl
theorem zjo {s:Vault}(hs:VOk s):zf6 s=some (if zam s=true then zbT s else []):=by
 unfold zf6
 rw [zb7 hs]
 cases hr:zam s
 ·rfl
 have h2:=(zau hr).2.1
 have h3:=(zau hr).1
 unfold fitV at h2
 have e:(List.length (Banks.Rows (Vault.Banks s)):Int)=(bN (Vault.Banks s):Int):=rfl
 rw [wC0]
 dsimp only
 rw [if_neg (by simp),znl hr (fun i l hi hl=>by
  obtain ⟨p1,p2,p3⟩:=zd1 hr hi
  obtain ⟨g1,g2⟩:=zs6 h3 p2 p3
  have hlt:(i:Int)<Vault.Words s:=by omega
  unfold zfL
  simp only [hlt,decide_true,if_true,e,znP p1,zix p1 (show i≤1000000 by omega),wC0,g1,g2]
  rw [zaH (by simp;omega) (by omega),wC0,zah (by omega)]) (fun l=>by
  unfold zfL
  simp only [Int.lt_irrefl,decide_false,wA0,if_false])]
 rfl
theorem zl3 (l:List Int) (h:l.length≤1000):zf2 l l=some true:=by
 unfold zf2
 have lp:=zav (f:=zd6 l l) (n:=l.length) (e:=.inl ()) (fun i=>(i:Int)) (fun i hi=>by
  have hlt:(i:Int)<(l.length:Int):=by omega
  unfold zd6
  simp only [hlt,decide_true,if_true,zab hi,wC0,wH0,wA0,if_false,zah (show i<4611686018427387904 by omega)]) (by
  unfold zd6
  simp)
 rw [show (((0:Nat):Int))=0 from rfl] at lp
 simp only [decide_true,wH0,wA0,if_false,lp,zeA]
theorem zbG {s:Vault}(hs:VOk s):zcJ s s=some true:=by
 unfold zcJ
 rw [zqL hs.b]
 simp only [wC0,if_true,decide_true]
 rw [znD _ ⟨by simp,by have:=hs.l;simp only [Log.Lst_mk];omega⟩]
 rfl
def zpo (s:Vault):Bool:=zmS (Vault.Banks s)&&decide ((Vault.Lst s).length≤300)
theorem zpV (s:Vault):zic s=some (zpo s):=by
 unfold zic zpo
 rw [zqH]
 cases zmS (Vault.Banks s)
 ·rfl
 ·have:((List.length (Vault.Lst s):Int)≤300)=((Vault.Lst s).length≤300):=by
   apply propext
   omega
  simp only [wC0,if_true,Bool.true_and,this]
end Go.Proofs.Ytlgjbfdojbmmgaa
