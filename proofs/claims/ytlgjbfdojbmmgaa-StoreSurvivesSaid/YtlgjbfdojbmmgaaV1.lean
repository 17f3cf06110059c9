/- Layer 14: which stores are right, and their words, by the program and by the reference. -/
import Derived.Test.YtlgjbfdojbmmgaaP7e
import Derived.Test.YtlgjbfdojbmmgaaU4
set_option linter.unusedSimpArgs false
set_option linter.unusedVariables false
namespace Go.Proofs.Ytlgjbfdojbmmgaa
open Go.SX
theorem zu3 {a n:Nat}(hn:0<n):remO (a:Int) (n:Int)=some ((a % n:Nat):Int):=by
 rw [(zgi (a:=(a:Int)) (n:=(n:Int)) (by omega) (by omega)).1]
 rfl
theorem zsM {a n:Nat}(hn:0<n) (ha:a≤1000000):quoO .i64 (a:Int) (n:Int)=some ((a / n:Nat):Int):=by
 unfold quoO
 rw [if_neg (by omega)]
 have h:=Nat.div_le_self a n
 show some (w64 ((a / n:Nat):Int))=_
 rw [zpm (by omega)]
def bN (b:Banks):Nat:=(Banks.Rows b).length
def bM (b:Banks):Nat:=(Banks.Par b).length
def allB (b:Banks):List Int:=(List.range (bN b * bM b)).map fun p=>cell (Banks.Rows b) (p % bN b) (p / bN b)
theorem zfS (b:Banks):(allB b).length=bN b * bM b:=by simp [allB]
theorem zgV {b:Banks}{p:Nat}(h:p<bN b * bM b):(allB b)[p]?=some (cell (Banks.Rows b) (p % bN b) (p / bN b)):=by
 unfold allB
 rw [List.getElem?_map,List.getElem?_range h]
 rfl
def zbb (s:Vault):List Int:=(allB (Vault.Banks s)).take (Vault.Words s).toNat
def zlog (s:Vault):Log:=Log.mk (List.replicate (Vault.Words s).toNat 0) (Vault.Span s) (Vault.Lst s)
def logV (s:Vault):Log:=Log.mk (zbb s) (Vault.Span s) (Vault.Lst s)
def fitV (s:Vault):Prop:=1≤Vault.Words s∧Vault.Words s≤64∧(Vault.Words s).toNat≤bM (Vault.Banks s) * bN (Vault.Banks s)∧(bM (Vault.Banks s) - 1) * bN (Vault.Banks s)<(Vault.Words s).toNat
instance (s:Vault):Decidable (fitV s):=by unfold fitV;infer_instance
noncomputable def zaw (s:Vault):Bool:=zbj (Vault.Banks s)&&(decide (fitV s)&&za9 (zlog s))
structure VOk (s:Vault):Prop where
 b:BOk (Vault.Banks s)
 l:(Vault.Lst s).length≤300
 v:∀ u∈Vault.Lst s,wd (Undo.Val u)
theorem zaj {s:Vault}(h:zaw s=true):zbj (Vault.Banks s)=true∧fitV s∧za9 (zlog s)=true:=by
 unfold zaw at h
 simpa only [wD0,decide_eq_true_eq] using h
theorem zsd {w n:Nat}(hn:0<n) (hw:w≤100) (hn2:n≤100):zei (w:Int) (n:Int)=some (((w + n - 1) / n:Nat):Int):=by
 unfold zei
 have e1:w64 (w64 ((w:Int) + (n:Int)) - 1)=((w + n - 1:Nat):Int):=by
  rw [zcM (n:=(w:Int) + (n:Int)) (by omega) (by omega),zcM (by omega) (by omega)]
  omega
 rw [e1,zsM hn (by omega)]
 rfl
theorem zqX {w n m:Nat}(hn:0<n) (hw:0<w) (hm:1≤m):m=(w + n - 1) / n↔w≤m * n∧(m - 1) * n<w:=by
 have h1:=Nat.div_add_mod (w + n - 1) n
 have h2:=Nat.mod_lt (w + n - 1) hn
 constructor
 ·intro h
  rw [← h] at h1
  have e:(m - 1) * n + n=n * m:=by
   obtain ⟨k,rfl⟩:∃ k,m=k + 1:=⟨m - 1,by omega⟩
   rw [Nat.mul_comm n,Nat.add_mul,Nat.one_mul];rfl
  rw [Nat.mul_comm m n]
  omega
 ·rintro ⟨h3,h4⟩
  rw [eq_comm,Nat.div_eq_iff hn]
  have e:(m - 1) * n + n=m * n:=by
   obtain ⟨k,rfl⟩:∃ k,m=k + 1:=⟨m - 1,by omega⟩
   rw [Nat.add_mul,Nat.one_mul];rfl
  omega
theorem zse {s:Vault}(hl:(Vault.Lst s).length≤1000) (hw:0≤Vault.Words s):zfs s=some ((List.range (Vault.Lst s).length).all (uok (zlog s))):=by
 have h:=zuV (zlog s) hl
 have e:(List.length (Log.Mem (zlog s)):Int)=Vault.Words s:=by
  unfold zlog
  rw [Log.Mem_mk,List.length_replicate]
  omega
 rw [e] at h
 exact h
theorem zaZ {s:Vault}(hs:VOk s):zaT s=some (zaw s):=by
 unfold zaT zaw
 rw [zdF hs.b]
 cases hr:zbj (Vault.Banks s)
 ·rfl
 obtain ⟨⟨s1,s2,s3,s4,_,_⟩,_⟩:=zau hr
 simp only [wC0,wH0,wA0,if_false,Bool.true_and]
 by_cases h1:Vault.Words s<1
 ·have:¬ fitV s:=fun h=>by unfold fitV at h;omega
  simp only [h1,this,decide_true,decide_false,if_true,Bool.false_and,wC0]
 by_cases h2:64<Vault.Words s
 ·have:¬ fitV s:=fun h=>by unfold fitV at h;omega
  simp only [h1,h2,this,decide_true,decide_false,if_true,Bool.false_and,wC0,wA0,if_false]
 obtain ⟨W,hW⟩:∃ W:Nat,Vault.Words s=(W:Int):=⟨(Vault.Words s).toNat,by omega⟩
 have hri:=zse (s:=s) (by have:=hs.l;omega) (by omega)
 simp only [h1,h2,decide_false,wC0,wA0,if_false]
 have he:=zsd (w:=W) (n:=(Banks.Rows (Vault.Banks s)).length) (by omega) (by omega) (by omega)
 rw [hW,he]
 simp only [wC0]
 have hi:=zqX (w:=W) (n:=(Banks.Rows (Vault.Banks s)).length) (m:=(Banks.Par (Vault.Banks s)).length) (by omega) (by omega) s3
 by_cases hf:fitV s
 ·have hf2:=hf
  unfold fitV bM bN at hf2
  rw [hW,Int.toNat_natCast] at hf2
  have hm:=hi.2 ⟨hf2.2.2.1,hf2.2.2.2⟩
  have c1:(List.length (Banks.Par (Vault.Banks s)):Int)=(((W + (Banks.Rows (Vault.Banks s)).length - 1) / (Banks.Rows (Vault.Banks s)).length:Nat):Int):=by rw [← hm]
  simp only [c1,hf,decide_true,wH0,wA0,if_false,Bool.true_and]
  unfold za9
  by_cases h3:0≤Vault.Span s
  ·by_cases h4:Vault.Span s≤1099511627776
   ·by_cases h5:(Vault.Lst s).length≤256
    ·have hz:zb2 (zlog s):=by
      unfold zb2 zlog
      simp only [Log.Mem_mk,Log.Span_mk,Log.Lst_mk,List.length_replicate]
      omega
     have h5':(List.length (Vault.Lst s):Int)≤256:=by omega
     simp only [h3,h4,h5',hz,decide_true,if_true,hri,wC0,Bool.true_and]
     rfl
    ·have hz:¬ zb2 (zlog s):=by
      unfold zb2 zlog
      simp only [Log.Mem_mk,Log.Span_mk,Log.Lst_mk,List.length_replicate]
      omega
     have h5':¬ (List.length (Vault.Lst s):Int)≤256:=by omega
     simp only [h3,h4,h5',hz,decide_true,decide_false,if_true,wC0,Bool.false_and,wA0,if_false]
   ·have hz:¬ zb2 (zlog s):=by
     unfold zb2 zlog
     simp only [Log.Mem_mk,Log.Span_mk,Log.Lst_mk,List.length_replicate]
     omega
    simp only [h3,h4,hz,decide_true,decide_false,if_true,wC0,Bool.false_and,wA0,if_false]
  ·have hz:¬ zb2 (zlog s):=by
    unfold zb2 zlog
    simp only [Log.Mem_mk,Log.Span_mk,Log.Lst_mk,List.length_replicate]
    omega
   simp only [h3,hz,decide_false,wC0,Bool.false_and,wA0,if_false]
 ·have hm:¬ (List.length (Banks.Par (Vault.Banks s)):Int)=(((W + (Banks.Rows (Vault.Banks s)).length - 1) / (Banks.Rows (Vault.Banks s)).length:Nat):Int):=by
   intro h
   have h':=hi.1 (Int.ofNat.inj h)
   apply hf
   unfold fitV bM bN
   rw [hW,Int.toNat_natCast]
   omega
  simp only [hm,hf,decide_false,Bool.not_false,if_true,Bool.false_and]
theorem zlu {m m':List Int}{sp:Int}{l:List Undo}(h:m.length=m'.length):za9 (Log.mk m sp l)=za9 (Log.mk m' sp l):=by
 have hu:uok (Log.mk m sp l)=uok (Log.mk m' sp l):=by
  funext i
  unfold uok
  simp only [Log.Mem_mk,Log.Span_mk,Log.Lst_mk,h]
  cases l[i]?<;>rfl
 have hs:zb2 (Log.mk m sp l)=zb2 (Log.mk m' sp l):=by
  unfold zb2
  simp only [Log.Mem_mk,Log.Span_mk,Log.Lst_mk,h]
 unfold za9
 simp only [Log.Lst_mk,hs,hu]
theorem zic {s:Vault}(h:fitV s):(zbb s).length=(Vault.Words s).toNat:=by
 unfold fitV at h
 unfold zbb
 rw [wE0,zfS,Nat.mul_comm]
 omega
theorem zcR {s:Vault}(h:zaw s=true):za9 (logV s)=true:=by
 obtain ⟨_,h2,h3⟩:=zaj h
 unfold logV
 rw [zlu (m':=List.replicate (Vault.Words s).toNat 0) (by rw [zic h2,List.length_replicate])]
 exact h3
theorem zru {f:(Int×List Int)→Option ((Int×List Int)⊕List Int)}{s:Vault}(hr:zaw s=true)
  (step:∀ (i:Nat) (l:List Int),i<(Vault.Words s).toNat→l.length≤100→f ((i:Int),l)=some (.inl (((i + 1:Nat):Int),l++[cell (Banks.Rows (Vault.Banks s)) (i % bN (Vault.Banks s)) (i / bN (Vault.Banks s))])))
  (out:∀ l:List Int,f (Vault.Words s,l)=some (.inr l)):zaz f ((0:Int),([]:List Int))=some (zbb s):=by
 obtain ⟨_,h2,_⟩:=zaj hr
 have h3:=h2
 unfold fitV at h3
 have hl:=zfS (Vault.Banks s)
 have lp:=zaN (f:=f) (n:=(Vault.Words s).toNat) (e:=zbb s) (fun i=>((i:Int),(allB (Vault.Banks s)).take i)) (fun i hi=>by
  have hip:i<bN (Vault.Banks s) * bM (Vault.Banks s):=by rw [Nat.mul_comm];omega
  rw [step i _ hi (by rw [wE0];omega),zb5 (by rw [hl];exact hip)]
  have:=zgV hip
  rw [wF0 (by rw [hl];exact hip)] at this
  rw [Option.some.inj this]) (by
  have e:(((Vault.Words s).toNat:Nat):Int)=Vault.Words s:=by omega
  rw [e,out]
  rfl)
 exact lp
theorem zvt {b:Banks}(h:zbj b=true) {k:Nat}(hk:k<bN b):(rowAt (Banks.Rows b) k).length=bM b:=(zau h).2 _ (zdt hk)
theorem zfx {s:Vault}(h:zaw s=true) {i:Nat}(hi:i<(Vault.Words s).toNat):0<bN (Vault.Banks s)∧i % bN (Vault.Banks s)<bN (Vault.Banks s)∧i / bN (Vault.Banks s)<bM (Vault.Banks s):=by
 obtain ⟨h1,h2,_⟩:=zaj h
 obtain ⟨⟨s1,_⟩,_⟩:=zau h1
 have hn:0<bN (Vault.Banks s):=s1
 unfold fitV at h2
 refine ⟨hn,Nat.mod_lt _ hn,?_⟩
 rw [Nat.div_lt_iff_lt_mul hn]
 omega
theorem zji (s:Vault) (i:Nat) (hn:0<bN (Vault.Banks s)) (hi:i≤1000):zbd s (i:Int)=some (((i % bN (Vault.Banks s):Nat):Int),((i / bN (Vault.Banks s):Nat):Int)):=by
 unfold zbd
 have e:(List.length (Banks.Rows (Vault.Banks s)):Int)=(bN (Vault.Banks s):Int):=rfl
 dsimp only
 rw [e,zu3 hn,wC0,zsM hn (by omega),wC0]
theorem zt0 {b:Banks}(h:zbj b=true) {k a:Nat}(hk:k<bN b) (ha:a<bM b):getO (Banks.Rows b) (k:Int)=some (rowAt (Banks.Rows b) k)∧getO (rowAt (Banks.Rows b) k) (a:Int)=some (cell (Banks.Rows b) k a):=by
 constructor
 ·rw [zat hk,zdM hk]
 ·have hl:=zvt h hk
  rw [zat (show a<(rowAt (Banks.Rows b) k).length by omega)]
  unfold cell
  rw [zcb]
theorem zkU {s:Vault}(hs:VOk s):zaG s=some (if zaw s=true then zbb s else []):=by
 unfold zaG
 rw [zaZ hs]
 cases hr:zaw s
 ·rfl
 have h2:=(zaj hr).2.1
 have h3:=(zaj hr).1
 unfold fitV at h2
 rw [wC0,zru hr (fun i l hi hl=>by
  obtain ⟨p1,p2,p3⟩:=zfx hr hi
  obtain ⟨g1,g2⟩:=zt0 h3 p2 p3
  have hlt:(i:Int)<Vault.Words s:=by omega
  unfold zd3
  simp only [hlt,decide_true,if_true,zji s i p1 (by omega),wC0,g1,g2]
  rw [zdf (by simp;omega) (by omega),wC0,zaD (by omega)]) (fun l=>by
  unfold zd3
  simp only [Int.lt_irrefl,decide_false,wA0,if_false])]
 rfl
theorem zk2 (l:List Int) (h:l.length≤1000):zcE l l=some true:=by
 unfold zcE
 have lp:=zaN (f:=zdJ l l) (n:=l.length) (e:=.inl ()) (fun i=>(i:Int)) (fun i hi=>by
  have hlt:(i:Int)<(l.length:Int):=by omega
  unfold zdJ
  simp only [hlt,decide_true,if_true,zat hi,wC0,wH0,wA0,if_false,zaD (show i<4611686018427387904 by omega)]) (by
  unfold zdJ
  simp)
 rw [show (((0:Nat):Int))=0 from rfl] at lp
 simp only [decide_true,wH0,wA0,if_false,lp,zbn]
theorem zmS {s:Vault}(hs:VOk s):zht s s=some true:=by
 unfold zht
 rw [zuW hs.b]
 simp only [wC0,if_true,decide_true]
 rw [zm2 _ ⟨by simp,by have:=hs.l;simp only [Log.Lst_mk];omega⟩]
 rfl
end Go.Proofs.Ytlgjbfdojbmmgaa
