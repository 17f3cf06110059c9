/- Layer 7: banks that are written: they stay right, and what is lost comes back. -/
import Derived.Test.YtlgjbfdojbmmgaaP7d
set_option linter.unusedSimpArgs false
set_option linter.unusedVariables false
namespace Go.Proofs.Ytlgjbfdojbmmgaa
open Go.SX
structure Good (n m:Nat) (b:Banks):Prop where
 ok:BOk b
 right:zbf b=true
 lost:Banks.Lost b=0
 rl:(Banks.Rows b).length=n
 pl:(Banks.Par b).length=m
theorem Good.row {n m:Nat}{b:Banks}(g:Good n m b) {k:Nat}(hk:k<n):(rowAt (Banks.Rows b) k).length=m:=by
 rw [(zas g.right).2 _ (zdt (by rw [g.rl];exact hk)),g.pl]
theorem Good.par {n m:Nat}{b:Banks}(g:Good n m b) {a:Nat}(ha:a<m):zaO (Banks.Rows b) a (-1) n=zaC (Banks.Par b) a:=by
 have:=zpv g.right g.lost (a:=a) (by rw [g.pl];exact ha)
 rwa [g.rl] at this
theorem zwo {n m:Nat}{b:Banks}(hn:1≤n∧n≤8) (hm:1≤m∧m≤64) (rl:(Banks.Rows b).length=n) (pl:(Banks.Par b).length=m) (hl:Banks.Lost b=0) (hr:∀ r∈Banks.Rows b,r.length=m)
  (hp:∀ a,a<m→zaO (Banks.Rows b) a (-1) n=zaC (Banks.Par b) a):zbf b=true:=by
 unfold zbf zf0
 rw [wD0,wD0,decide_eq_true_eq,List.all_eq_true,if_pos hl,zca]
 refine ⟨⟨?_,fun r h=>decide_eq_true (by rw [hr r h,pl])⟩,fun a ha=>decide_eq_true ?_⟩
 ·unfold zmn
  rw [rl,pl,hl]
  omega
 ·rw [rl]
  exact hp a (by rw [← pl];exact ha)
theorem ziT {n m:Nat}{b:Banks}(g:Good n m b) {k a:Nat}(hk:k<n) (ha:a<m) {w:Int}(hw:wd w):Good n m (zbj b k a w):=by
 obtain ⟨⟨s1,s2,s3,s4,_,_⟩,hf⟩:=zas g.right
 have hkr:k<(Banks.Rows b).length:=by rw [g.rl];exact hk
 have rl:(Banks.Rows (zbj b k a w)).length=n:=by show ((Banks.Rows b).set k _).length=n;rw [List.length_set,g.rl]
 have pl:(Banks.Par (zbj b k a w)).length=m:=by show ((Banks.Par b).set a _).length=m;rw [List.length_set,g.pl]
 have hrow:=g.ok.rw _ (zdt hkr)
 refine ⟨zo4 g.ok hkr hw,zwo (by rw [← g.rl];exact ⟨s1,s2⟩) (by rw [← g.pl];exact ⟨s3,s4⟩) rl pl g.lost (fun r hr=>?_) (fun c hc=>?_),g.lost,rl,pl⟩
 ·rcases List.mem_or_eq_of_mem_set hr with q|q
  ·rw [hf r q,g.pl]
  ·rw [q,List.length_set,g.row hk]
 ·show zaO ((Banks.Rows b).set k ((rowAt (Banks.Rows b) k).set a w)) c (-1) n=zaC ((Banks.Par b).set a _) c
  by_cases hac:a=c
  ·subst hac
   have h1:=zoQ g.ok g.right g.lost hkr (j:=a) (by rw [g.pl];exact ha) hw
   rw [g.rl] at h1
   rw [h1,ziE (by rw [g.pl];exact ha)]
  ·rw [ze0 hac,← g.par hc]
   refine zeF n fun i hi _=>?_
   unfold cell
   by_cases hik:k=i
   ·subst hik
    rw [rowAt_set hkr,ze0 hac]
   ·rw [zfP hik]
theorem zxr {n m:Nat}{b c:Banks}(g:Good n m b) (h:Good n m c) (hr:Banks.Rows b=Banks.Rows c):b=c:=by
 have hp:Banks.Par b=Banks.Par c:=by
  apply List.ext_getElem (by rw [g.pl,h.pl])
  intro a ha hc
  have h1:=g.par (a:=a) (by rw [← g.pl];exact ha)
  have h2:=h.par (a:=a) (by rw [← h.pl];exact hc)
  rw [zaJ ha] at h1
  rw [zaJ hc] at h2
  rw [← h1,← h2,hr]
 rw [← Banks.eta b,← Banks.eta c,hr,hp,g.lost,h.lost]
theorem zkX {n m:Nat}{b:Banks}(g:Good n m b) {k a:Nat}(hk:k<n) (ha:a<m):zjW b (k:Int) (a:Int)=true:=by
 unfold zjW hasB
 rw [g.right,g.rl,g.pl]
 simp only [Bool.true_and,wD0,decide_eq_true_eq]
 omega
theorem zk7 {n m:Nat}{b:Banks}(g:Good n m b) {k a:Nat}(hk:k<n) (ha:a<m) (w:Int):zby b (k:Int) (a:Int) w=some (zbj b k a w,0):=by
 rw [zlN g.ok]
 unfold zmI
 rw [if_pos (zkX g hk ha),g.lost,if_neg (by omega),Int.toNat_natCast,Int.toNat_natCast]
theorem zuZ {n m:Nat}{b:Banks}(g:Good n m b) {k a:Nat}(hk:k<n) (ha:a<m):zdu b (k:Int) (a:Int)=some (cell (Banks.Rows b) k a,0):=by
 rw [zd7 g.ok]
 unfold ztK
 rw [if_pos (zkX g hk ha),g.lost,if_neg (by omega),Int.toNat_natCast,Int.toNat_natCast]
end Go.Proofs.Ytlgjbfdojbmmgaa
