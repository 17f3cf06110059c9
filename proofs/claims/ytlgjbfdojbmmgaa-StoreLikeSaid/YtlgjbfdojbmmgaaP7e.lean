/- Layer 7: banks that are written: they stay right, and what is lost comes back. -/
import Derived.Test.YtlgjbfdojbmmgaaP7d
set_option linter.unusedSimpArgs false
set_option linter.unusedVariables false
namespace Go.Proofs.Ytlgjbfdojbmmgaa
open Go.SX
structure Good (n m:Nat) (b:Banks):Prop where
 ok:BOk b
 right:zb9 b=true
 lost:Banks.Lost b=0
 rl:(Banks.Rows b).length=n
 pl:(Banks.Par b).length=m
theorem Good.row {n m:Nat}{b:Banks}(g:Good n m b) {k:Nat}(hk:k<n):(rowAt (Banks.Rows b) k).length=m:=by
 rw [(zaU g.right).2 _ (zdh (by rw [g.rl];exact hk)),g.pl]
theorem Good.par {n m:Nat}{b:Banks}(g:Good n m b) {a:Nat}(ha:a<m):zbg (Banks.Rows b) a (-1) n=zaC (Banks.Par b) a:=by
 have:=zmM g.right g.lost (a:=a) (by rw [g.pl];exact ha)
 rwa [g.rl] at this
theorem zpW {n m:Nat}{b:Banks}(hn:1≤n∧n≤8) (hm:1≤m∧m≤64) (rl:(Banks.Rows b).length=n) (pl:(Banks.Par b).length=m) (hl:Banks.Lost b=0) (hr:∀ r∈Banks.Rows b,r.length=m)
  (hp:∀ a,a<m→zbg (Banks.Rows b) a (-1) n=zaC (Banks.Par b) a):zb9 b=true:=by
 unfold zb9 zgt
 rw [wD0,wD0,decide_eq_true_eq,List.all_eq_true,if_pos hl,zbi]
 refine ⟨⟨?_,fun r h=>decide_eq_true (by rw [hr r h,pl])⟩,fun a ha=>decide_eq_true ?_⟩
 ·unfold zmY
  rw [rl,pl,hl]
  omega
 ·rw [rl]
  exact hp a (by rw [← pl];exact ha)
theorem ztF {n m:Nat}(hn:1≤n∧n≤8) (hm:1≤m∧m≤64):Good n m (newB n m):=by
 have rl:(Banks.Rows (newB n m)).length=n:=List.length_replicate
 have pl:(Banks.Par (newB n m)).length=m:=List.length_replicate
 refine ⟨zsy hn.2 hm.2,zpW hn hm rl pl rfl (fun r hr=>?_) (fun a ha=>?_),rfl,rl,pl⟩
 ·rw [List.eq_of_mem_replicate hr,List.length_replicate]
 ·have hz:∀ k,cell (Banks.Rows (newB n m)) k a=0:=by
   intro k
   unfold cell rowAt zaC newB
   rw [Banks.Rows_mk,List.getElem?_replicate]
   split
   ·show ((List.replicate m (0:Int))[a]?).getD 0=0
    rw [List.getElem?_replicate]
    split<;>rfl
   ·rfl
  have hc:∀ k,zbg (Banks.Rows (newB n m)) a (-1) k=0:=by
   intro k
   induction k with
   | zero=>rfl
   | succ k ih =>
    have c1:¬ ((k:Int)=-1):=by omega
    rw [zbg,if_neg c1,ih,hz,zsK wd0]
  rw [hc]
  unfold zaC newB
  rw [Banks.Par_mk,List.getElem?_replicate]
  split<;>rfl
theorem zk6 {n m:Nat}{b:Banks}(g:Good n m b) {k a:Nat}(hk:k<n) (ha:a<m) {w:Int}(hw:wd w):Good n m (zbz b k a w):=by
 obtain ⟨⟨s1,s2,s3,s4,_,_⟩,hf⟩:=zaU g.right
 have hkr:k<(Banks.Rows b).length:=by rw [g.rl];exact hk
 have rl:(Banks.Rows (zbz b k a w)).length=n:=by show ((Banks.Rows b).set k _).length=n;rw [List.length_set,g.rl]
 have pl:(Banks.Par (zbz b k a w)).length=m:=by show ((Banks.Par b).set a _).length=m;rw [List.length_set,g.pl]
 have hrow:=g.ok.rw _ (zdh hkr)
 refine ⟨zmU g.ok hkr hw,zpW (by rw [← g.rl];exact ⟨s1,s2⟩) (by rw [← g.pl];exact ⟨s3,s4⟩) rl pl g.lost (fun r hr=>?_) (fun c hc=>?_),g.lost,rl,pl⟩
 ·rcases List.mem_or_eq_of_mem_set hr with q|q
  ·rw [hf r q,g.pl]
  ·rw [q,List.length_set,g.row hk]
 ·show zbg ((Banks.Rows b).set k ((rowAt (Banks.Rows b) k).set a w)) c (-1) n=zaC ((Banks.Par b).set a _) c
  by_cases hac:a=c
  ·subst hac
   have h1:=zrL g.ok g.right g.lost hkr (j:=a) (by rw [g.pl];exact ha) hw
   rw [g.rl] at h1
   rw [h1,zhx (by rw [g.pl];exact ha)]
  ·rw [zew hac,← g.par hc]
   refine zf5 n fun i hi _=>?_
   unfold cell
   by_cases hik:k=i
   ·subst hik
    rw [rowAt_set hkr,zew hac]
   ·rw [zeP hik]
theorem zn7 {n m:Nat}{b:Banks}(g:Good n m b) {k a:Nat}(hk:k<n) (ha:a<m):zko b (k:Int) (a:Int)=true:=by
 unfold zko hasB
 rw [g.right,g.rl,g.pl]
 simp only [Bool.true_and,wD0,decide_eq_true_eq]
 omega
theorem zjc {n m:Nat}{b:Banks}(g:Good n m b) {k a:Nat}(hk:k<n) (ha:a<m) (w:Int):zbo b (k:Int) (a:Int) w=some (zbz b k a w,0):=by
 rw [zjZ g.ok]
 unfold zsM
 rw [if_pos (zn7 g hk ha),g.lost,if_neg (by omega),Int.toNat_natCast,Int.toNat_natCast]
theorem zsO {n m:Nat}{b:Banks}(g:Good n m b) {k a:Nat}(hk:k<n) (ha:a<m):zdf b (k:Int) (a:Int)=some (cell (Banks.Rows b) k a,0):=by
 rw [zdH g.ok]
 unfold zrx
 rw [if_pos (zn7 g hk ha),g.lost,if_neg (by omega),Int.toNat_natCast,Int.toNat_natCast]
end Go.Proofs.Ytlgjbfdojbmmgaa
