/- Layer 7: banks that are written: they stay right, and what is lost comes back. -/
import Derived.Test.YtlgjbfdojbmmgaaP7d
set_option linter.unusedSimpArgs false
set_option linter.unusedVariables false
namespace Go.Proofs.Ytlgjbfdojbmmgaa
open Go.SX
structure Good (n m:Nat) (b:Banks):Prop where
 ok:BOk b
 right:zbj b=true
 lost:Banks.Lost b=0
 rl:(Banks.Rows b).length=n
 pl:(Banks.Par b).length=m
theorem Good.row {n m:Nat}{b:Banks}(g:Good n m b) {k:Nat}(hk:k<n):(rowAt (Banks.Rows b) k).length=m:=by
 rw [(zau g.right).2 _ (zdt (by rw [g.rl];exact hk)),g.pl]
theorem Good.par {n m:Nat}{b:Banks}(g:Good n m b) {a:Nat}(ha:a<m):za0 (Banks.Rows b) a (-1) n=zay (Banks.Par b) a:=by
 have:=znX g.right g.lost (a:=a) (by rw [g.pl];exact ha)
 rwa [g.rl] at this
theorem zqp {n m:Nat}{b:Banks}(hn:1≤n∧n≤8) (hm:1≤m∧m≤64) (rl:(Banks.Rows b).length=n) (pl:(Banks.Par b).length=m) (hl:Banks.Lost b=0) (hr:∀ r∈Banks.Rows b,r.length=m)
  (hp:∀ a,a<m→za0 (Banks.Rows b) a (-1) n=zay (Banks.Par b) a):zbj b=true:=by
 unfold zbj zfi
 rw [wD0,wD0,decide_eq_true_eq,List.all_eq_true,if_pos hl,zbH]
 refine ⟨⟨?_,fun r h=>decide_eq_true (by rw [hr r h,pl])⟩,fun a ha=>decide_eq_true ?_⟩
 ·unfold zmx
  rw [rl,pl,hl]
  omega
 ·rw [rl]
  exact hp a (by rw [← pl];exact ha)
theorem ztF {n m:Nat}(hn:1≤n∧n≤8) (hm:1≤m∧m≤64):Good n m (newB n m):=by
 have rl:(Banks.Rows (newB n m)).length=n:=List.length_replicate
 have pl:(Banks.Par (newB n m)).length=m:=List.length_replicate
 refine ⟨zte hn.2 hm.2,zqp hn hm rl pl rfl (fun r hr=>?_) (fun a ha=>?_),rfl,rl,pl⟩
 ·rw [List.eq_of_mem_replicate hr,List.length_replicate]
 ·have hz:∀ k,cell (Banks.Rows (newB n m)) k a=0:=by
   intro k
   unfold cell rowAt zay newB
   rw [Banks.Rows_mk,List.getElem?_replicate]
   split
   ·show ((List.replicate m (0:Int))[a]?).getD 0=0
    rw [List.getElem?_replicate]
    split<;>rfl
   ·rfl
  have hc:∀ k,za0 (Banks.Rows (newB n m)) a (-1) k=0:=by
   intro k
   induction k with
   | zero=>rfl
   | succ k ih =>
    have c1:¬ ((k:Int)=-1):=by omega
    rw [za0,if_neg c1,ih,hz,zpa wd0]
  rw [hc]
  unfold zay newB
  rw [Banks.Par_mk,List.getElem?_replicate]
  split<;>rfl
theorem zlA {n m:Nat}{b:Banks}(g:Good n m b) {k a:Nat}(hk:k<n) (ha:a<m) {w:Int}(hw:wd w):Good n m (zbL b k a w):=by
 obtain ⟨⟨s1,s2,s3,s4,_,_⟩,hf⟩:=zau g.right
 have hkr:k<(Banks.Rows b).length:=by rw [g.rl];exact hk
 have rl:(Banks.Rows (zbL b k a w)).length=n:=by show ((Banks.Rows b).set k _).length=n;rw [List.length_set,g.rl]
 have pl:(Banks.Par (zbL b k a w)).length=m:=by show ((Banks.Par b).set a _).length=m;rw [List.length_set,g.pl]
 have hrow:=g.ok.rw _ (zdt hkr)
 refine ⟨zoR g.ok hkr hw,zqp (by rw [← g.rl];exact ⟨s1,s2⟩) (by rw [← g.pl];exact ⟨s3,s4⟩) rl pl g.lost (fun r hr=>?_) (fun c hc=>?_),g.lost,rl,pl⟩
 ·rcases List.mem_or_eq_of_mem_set hr with q|q
  ·rw [hf r q,g.pl]
  ·rw [q,List.length_set,g.row hk]
 ·show za0 ((Banks.Rows b).set k ((rowAt (Banks.Rows b) k).set a w)) c (-1) n=zay ((Banks.Par b).set a _) c
  by_cases hac:a=c
  ·subst hac
   have h1:=zs8 g.ok g.right g.lost hkr (j:=a) (by rw [g.pl];exact ha) hw
   rw [g.rl] at h1
   rw [h1,zik (by rw [g.pl];exact ha)]
  ·rw [zet hac,← g.par hc]
   refine zds n fun i hi _=>?_
   unfold cell
   by_cases hik:k=i
   ·subst hik
    rw [rowAt_set hkr,zet hac]
   ·rw [zdP hik]
theorem zou {n m:Nat}{b:Banks}(g:Good n m b) {k a:Nat}(hk:k<n) (ha:a<m):zkZ b (k:Int) (a:Int)=true:=by
 unfold zkZ hasB
 rw [g.right,g.rl,g.pl]
 simp only [Bool.true_and,wD0,decide_eq_true_eq]
 omega
theorem zjR {n m:Nat}{b:Banks}(g:Good n m b) {k a:Nat}(hk:k<n) (ha:a<m) (w:Int):zbw b (k:Int) (a:Int) w=some (zbL b k a w,0):=by
 rw [zky g.ok]
 unfold zsY
 rw [if_pos (zou g hk ha),g.lost,if_neg (by omega),Int.toNat_natCast,Int.toNat_natCast]
theorem zsJ {n m:Nat}{b:Banks}(g:Good n m b) {k a:Nat}(hk:k<n) (ha:a<m):zdy b (k:Int) (a:Int)=some (cell (Banks.Rows b) k a,0):=by
 rw [zdY g.ok]
 unfold zsL
 rw [if_pos (zou g hk ha),g.lost,if_neg (by omega),Int.toNat_natCast,Int.toNat_natCast]
theorem zlb {n m:Nat}{b:Banks}(g:Good n m b) {k:Nat}(hk:k<n):zbj (zc0 b k)=true:=by
 obtain ⟨⟨s1,s2,s3,s4,_,_⟩,hf⟩:=zau g.right
 have hkr:k<(Banks.Rows b).length:=by rw [g.rl];exact hk
 have rl:(Banks.Rows (zc0 b k)).length=(Banks.Rows b).length:=List.length_set
 have hl:¬ Banks.Lost (zc0 b k)=0:=by show ¬ (k:Int) + 1=0;omega
 have hk1:(Banks.Lost (zc0 b k) - 1).toNat=k:=by show ((k:Int) + 1 - 1).toNat=k;omega
 unfold zbj zfi
 rw [wD0,wD0,decide_eq_true_eq,List.all_eq_true,if_neg hl,hk1]
 refine ⟨⟨?_,fun r hr=>decide_eq_true ?_⟩,?_⟩
 ·unfold zmx
  rw [rl]
  refine ⟨s1,s2,s3,s4,?_,?_⟩
  ·show 0≤(k:Int) + 1;omega
  ·show (k:Int) + 1≤_;omega
 ·rcases List.mem_or_eq_of_mem_set hr with q|q
  ·exact hf r q
  ·rw [q,List.length_replicate];rfl
 ·have:rowAt (Banks.Rows (zc0 b k)) k=List.replicate (Banks.Par b).length 0:=rowAt_set hkr _
  rw [this,List.all_eq_true]
  intro x hx
  rw [List.eq_of_mem_replicate hx]
  rfl
theorem zt9 {n m:Nat}{b:Banks}(g:Good n m b) {k:Nat}(hk:k<n):zhG (zc0 b k)=rowAt (Banks.Rows b) k:=by
 have hkr:k<(Banks.Rows b).length:=by rw [g.rl];exact hk
 have hk1:(Banks.Lost (zc0 b k) - 1).toNat=k:=by show ((k:Int) + 1 - 1).toNat=k;omega
 have rl:(Banks.Rows (zc0 b k)).length=n:=by show ((Banks.Rows b).set k _).length=n;rw [List.length_set,g.rl]
 have hlen:=g.row hk
 apply List.ext_getElem (by rw [hlen];simp [zhG];exact g.pl)
 intro a ha hb
 have ham:a<m:=by rw [← hlen];exact hb
 simp only [zhG,List.getElem_map,List.getElem_range,hk1,rl]
 have e1:za0 (Banks.Rows (zc0 b k)) a (k:Int) n=za0 (Banks.Rows b) a (k:Int) n:=zds n fun i hi hne=>by
  unfold cell
  show zay (rowAt ((Banks.Rows b).set k _) i) a=_
  rw [zdP (by omega)]
 have e2:zay (Banks.Par (zc0 b k)) a=xo (za0 (Banks.Rows b) a (k:Int) n) (cell (Banks.Rows b) k a):=by
  rw [← zeu g.ok.rw hk,g.par ham]
  rfl
 have w1:=zfD g.ok.rw a (k:Int) n
 have w2:=zgG g.ok.rw k a
 rw [e1,e2,← zhf w1 w1 w2,zsP w1,zts w2]
 unfold cell
 rw [zcb hb]
theorem znU {n m:Nat}{b:Banks}(g:Good n m b) {k:Nat}(hk:k<n):zjf (zc0 b k)=b:=by
 have hkr:k<(Banks.Rows b).length:=by rw [g.rl];exact hk
 have hk1:(Banks.Lost (zc0 b k) - 1).toNat=k:=by show ((k:Int) + 1 - 1).toNat=k;omega
 unfold zjf
 rw [zt9 g hk,hk1]
 have e:(Banks.Rows (zc0 b k)).set k (rowAt (Banks.Rows b) k)=Banks.Rows b:=by
  show ((Banks.Rows b).set k _).set k _=_
  rw [List.set_set,zdM hkr,List.set_getElem_self]
 rw [e]
 have:Banks.mk (Banks.Rows b) (Banks.Par b) (Banks.Lost b)=b:=Banks.eta b
 rw [g.lost] at this
 exact this
theorem zu0 {n m:Nat}{b:Banks}(g:Good n m b) {k:Nat}(hk:k<n):zdp b (k:Int)=some (zc0 b k,0):=by
 rw [zdU g.ok]
 unfold zpo
 have:hasB b (k:Int)=true:=by
  unfold hasB
  rw [g.right,g.rl]
  simp only [Bool.true_and,wD0,decide_eq_true_eq]
  omega
 rw [if_pos this,g.lost,if_neg (by omega),Int.toNat_natCast]
theorem znM {n m:Nat}{b:Banks}(g:Good n m b) {k:Nat}(hk:k<n):zbO (zc0 b k)=some (b,0):=by
 rw [zcj (zqR g.ok k)]
 unfold zgO
 have h2:¬ Banks.Lost (zc0 b k)=0:=by show ¬ (k:Int) + 1=0;omega
 rw [if_pos (zlb g hk),if_neg h2,znU g hk]
end Go.Proofs.Ytlgjbfdojbmmgaa
