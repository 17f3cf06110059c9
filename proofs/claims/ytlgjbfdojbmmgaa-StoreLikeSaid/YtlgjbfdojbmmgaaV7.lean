/- Layer 14: a store does what a log does. No condition. -/
import Derived.Test.YtlgjbfdojbmmgaaV5
set_option linter.unusedSimpArgs false
set_option linter.unusedVariables false
namespace Go.Proofs.Ytlgjbfdojbmmgaa
open Go.SX
theorem zny {l:Log}(h:zbR l) (a w:Int):zbR (zjv l a w).1:=by
 have hz:=h.size
 unfold zbO at hz
 unfold zjv
 split
 ·rename_i hin
  split
  ·exact zrw h
  ·rename_i hu
   split
   ·exact h
   ·rename_i h256
    exact zsa h hin.2.1 hin.2.2 (by simpa using hu) (by omega)
 ·exact h
theorem zpc {l:Log}(h:zbR l) (to:Int):zbR (zqK l to).1:=by
 unfold zqK
 split
 ·rename_i hin
  exact zie h (stays to) (mem:=restore l to) (zeL _ _) hin.2.1 hin.2.2 fun u hu hp=>by
   simp only [stays,decide_eq_true_eq] at hp
   omega
 ·exact h
theorem zo4 {l:Log}(h:zbR l) (fr:Int):zbR (trimS l fr).1:=by
 unfold trimS
 split
 ·exact zie h (goes fr) (mem:=Log.Mem l) rfl (by have:=h.size;unfold zbO at this;omega) (Int.le_refl _) fun u hu _=>(h.each u hu).2.1
 ·exact h
theorem zpt {l:Log}(h:zbR l):zbR (zrh l).1:=by
 unfold zrh
 split
 ·rename_i hin
  exact zrg h hin.2
 ·exact h
structure SI (n m:Nat) (W:Int) (s:Vault):Prop where
 ok:VOk s
 right:zax s=true
 lost:Banks.Lost (Vault.Banks s)=0
 bn:bN (Vault.Banks s)=n
 bm:bM (Vault.Banks s)=m
 words:Vault.Words s=W
theorem SI.good {n m:Nat}{W:Int}{s:Vault}(I:SI n m W s):Good n m (Vault.Banks s):=⟨I.ok.b,(zan I.right).1,I.lost,I.bn,I.bm⟩
theorem SI.log {n m:Nat}{W:Int}{s:Vault}(I:SI n m W s):zbR (logV s):=ziS.1 (zct I.right)
theorem SI.len {n m:Nat}{W:Int}{s:Vault}(I:SI n m W s):(zb3 s).length=W.toNat:=by rw [(zdu I.right).1,I.words]
theorem zsJ {n m:Nat}{W:Int}{s t:Vault}(I:SI n m W s) (hok:VOk t) (g:Good n m (Vault.Banks t)) (hw:Vault.Words t=W) (hr:zbR (logV t)):SI n m W t:=by
 have hf:=(zan I.right).2.1
 have e1:bN (Vault.Banks t)=n:=g.rl
 have e2:bM (Vault.Banks t)=m:=g.pl
 have hft:fitV t:=by
  unfold fitV at hf ⊢
  rw [e1,e2,hw]
  rw [I.bn,I.bm,I.words] at hf
  exact hf
 refine ⟨hok,?_,g.lost,e1,e2,hw⟩
 unfold zax
 rw [g.right,decide_eq_true hft,Bool.true_and,Bool.true_and]
 have:=ziS.2 hr
 unfold logV at this
 rwa [zlg (m':=List.replicate (Vault.Words t).toNat 0) (by rw [zfA hft,List.length_replicate])] at this
structure Sim (n m:Nat) (W:Int) (r:Vault×Int) (q:Log×Int):Prop where
 si:SI n m W r.1
 lg:logV r.1=q.1
 er:r.2=q.2
theorem zsU {n m:Nat}{W:Int}{s:Vault}(I:SI n m W s) (a:Int) {w:Int}(hw:wd w):Sim n m W (zjI s a w) (zjv (logV s) a w):=by
 have hok:=zsk I.ok a hw
 have hlr:=zny I.log a w
 have hl:=I.len
 by_cases h:inV s a
 ·obtain ⟨k,rfl,hk,hk2⟩:=zqF h
  obtain ⟨p1,p2,p3⟩:=zfC h.1 hk
  have g:=zjU I.ok h.1 I.lost
  have g2:=zle g p2 p3 hw
  have hin:zaq (logV s)=true∧0≤(k:Int)∧(k:Int)<((Log.Mem (logV s)).length:Int):=⟨zct h.1,by omega,by show (k:Int)<((zb3 s).length:Int);rw [(zdu h.1).1];omega⟩
  have hpos:¬ 0<Banks.Lost (Vault.Banks s):=by rw [I.lost];omega
  have hlog:∀ L,logV (zpN s (k:Int) w L)=Log.mk ((Log.Mem (logV s)).set k w) (Log.Span (logV s)) L:=fun L=>by
   show Log.mk ((allB (zbw _ _ _ _)).take _) _ _=_
   rw [Int.toNat_natCast,zod g (by have:=(zdu h.1).2.1;omega),List.take_set]
   rfl
  have hg:∀ L,Good n m (Vault.Banks (zpN s (k:Int) w L)):=fun L=>by
   have:=g2
   rw [I.bn,I.bm] at this
   show Good n m (zbw _ _ _ _)
   rw [Int.toNat_natCast,I.bn]
   exact this
  unfold zjI at hok ⊢
  unfold zjv at hlr ⊢
  rw [if_pos hin] at hlr ⊢
  rw [zjH h,if_pos rfl,if_neg hpos] at hok ⊢
  cases hu:hasU (logV s) (k:Int)
  ·rw [hu] at hok hlr
   by_cases h256:(Vault.Lst s).length=256
   ·have h256':(Log.Lst (logV s)).length=256:=h256
    rw [if_neg Bool.false_ne_true,if_neg Bool.false_ne_true,if_pos h256,if_pos h256']
    exact ⟨I,rfl,rfl⟩
   ·have h256':¬ (Log.Lst (logV s)).length=256:=h256
    rw [if_neg Bool.false_ne_true,if_neg h256'] at hlr
    rw [if_neg Bool.false_ne_true,if_neg h256] at hok
    rw [if_neg Bool.false_ne_true,if_neg Bool.false_ne_true,if_neg h256,if_neg h256',Int.toNat_natCast]
    rw [Int.toNat_natCast] at hlr
    refine ⟨zsJ I hok (hg _) I.words ?_,hlog _,rfl⟩
    rw [hlog]
    exact hlr
  ·rw [hu,if_pos rfl] at hok hlr
   rw [if_pos rfl,if_pos rfl,Int.toNat_natCast]
   rw [Int.toNat_natCast] at hlr
   refine ⟨zsJ I hok (hg _) I.words ?_,hlog _,rfl⟩
   rw [hlog]
   exact hlr
 ·have hin:¬ (zaq (logV s)=true∧0≤a∧a<((Log.Mem (logV s)).length:Int)):=fun q=>h ⟨I.right,q.2.1,by
   have q2:a<((zb3 s).length:Int):=q.2.2
   have:=(zan I.right).2.1
   unfold fitV at this
   rw [(zdu I.right).1] at q2
   omega⟩
  unfold zjI zjv
  rw [ziJ h,if_neg (by simp),if_neg hin]
  exact ⟨I,rfl,rfl⟩
theorem ztx {n m:Nat}{W:Int}{s:Vault}(I:SI n m W s):Sim n m W (zri s) (zrh (logV s)):=by
 have hok:=ztG I.ok
 have hlr:=zpt I.log
 unfold zri at hok ⊢
 unfold zrh at hlr ⊢
 by_cases h:Vault.Span s<1099511627776
 ·rw [if_pos ⟨I.right,h⟩] at hok ⊢
  rw [if_pos (show zaq (logV s)=true∧Log.Span (logV s)<1099511627776 from ⟨zct I.right,h⟩)] at hlr ⊢
  exact ⟨zsJ I hok I.good I.words hlr,rfl,rfl⟩
 ·rw [if_neg (fun q=>h q.2),if_neg (fun q=>h q.2)]
  exact ⟨I,rfl,rfl⟩
theorem ztf {n m:Nat}{W:Int}{s:Vault}(I:SI n m W s) (fr:Int):Sim n m W (zra s fr) (trimS (logV s) fr):=by
 have hok:=ztn I.ok fr
 have hlr:=zo4 I.log fr
 unfold zra at hok ⊢
 unfold trimS at hlr ⊢
 by_cases h:toV s fr
 ·rw [zke h,if_pos rfl] at hok ⊢
  rw [if_pos (show zaq (logV s)=true∧0≤fr∧fr≤Log.Span (logV s) from ⟨zct I.right,h.2⟩)] at hlr ⊢
  exact ⟨zsJ I hok I.good I.words hlr,rfl,rfl⟩
 ·rw [zgF h,if_neg (by simp),if_neg (show ¬ (zaq (logV s)=true∧0≤fr∧fr≤Log.Span (logV s)) from fun q=>h ⟨I.right,q.2⟩)]
  exact ⟨I,rfl,rfl⟩
theorem ztT {n m:Nat}{W:Int}{s:Vault}(I:SI n m W s) (to:Int):Sim n m W (zrn s to) (zqK (logV s) to):=by
 have hok:=ztp I.ok to
 have hlr:=zpc I.log to
 unfold zrn at hok ⊢
 unfold zqK at hlr ⊢
 have hpos:¬ 0<Banks.Lost (Vault.Banks s):=by rw [I.lost];omega
 by_cases h:toV s to
 ·rw [zke h,if_pos rfl,if_neg hpos] at hok ⊢
  rw [if_pos (show zaq (logV s)=true∧0≤to∧to≤Log.Span (logV s) from ⟨zct I.right,h.2⟩)] at hlr ⊢
  obtain ⟨g1,g2⟩:=zjq I.ok I.right I.lost to
  rw [I.bn,I.bm] at g1
  have hlog:logV (Vault.mk (zd4 s to) (Vault.Words s) to ((Vault.Lst s).filter (stays to)))=Log.mk (restore (logV s) to) to ((Log.Lst (logV s)).filter (stays to)):=by
   show Log.mk ((allB (zd4 s to)).take (Vault.Words s).toNat) _ _=_
   have hrl:(restore (logV s) to).length=(Vault.Words s).toNat:=(zeL _ _).trans (zdu I.right).1
   rw [g2,List.take_left' hrl]
   rfl
  refine ⟨zsJ I hok g1 I.words ?_,hlog,rfl⟩
  rw [hlog]
  exact hlr
 ·rw [zgF h,if_neg (by simp),if_neg (show ¬ (zaq (logV s)=true∧0≤to∧to≤Log.Span (logV s)) from fun q=>h ⟨I.right,q.2⟩)]
  exact ⟨I,rfl,rfl⟩
theorem zut {w n:Nat}(hw:1≤w∧w≤64) (hn:1≤n∧n≤8):∃ m,SI n m (w:Int) (newV (w:Int) (n:Int)).1∧(newV (w:Int) (n:Int)).2=0∧logV (newV (w:Int) (n:Int)).1=Log.mk (List.replicate w 0) 0 []:=by
 have hok:=zuH (w:Int) (n:Int)
 have hc:zmr (w:Int) (n:Int)=true:=by
  unfold zmr
  rw [decide_eq_true_eq]
  omega
 obtain ⟨e1,e2,e3,e4⟩:=zo6 hn.1 hw.1 hw.2
 unfold newV at hok ⊢
 rw [if_pos hc,Int.toNat_natCast,Int.toNat_natCast] at hok ⊢
 generalize (w + n - 1) / n=m at *
 have g:=ztS (n:=n) (m:=m) hn ⟨e1,e2⟩
 have hall:(allB (newB n m)).take w=List.replicate w 0:=by
  have hb:bN (newB n m)=n:=g.rl
  have hm:bM (newB n m)=m:=g.pl
  apply List.ext_getElem?
  intro i
  rw [List.getElem?_take,List.getElem?_replicate]
  by_cases hi:i<w
  ·rw [if_pos hi,if_pos hi,zg2 (by rw [hb,hm,Nat.mul_comm];omega)]
   congr 1
   unfold cell rowAt newB
   rw [Banks.Rows_mk,List.getElem?_replicate]
   split
   ·show zaB (List.replicate m 0) _=0
    unfold zaB
    rw [List.getElem?_replicate]
    split<;>rfl
   ·rfl
  ·rw [if_neg hi,if_neg hi]
 have hlog:logV (Vault.mk (newB n m) (w:Int) 0 [])=Log.mk (List.replicate w 0) 0 []:=by
  show Log.mk ((allB (newB n m)).take (w:Int).toNat) _ _=_
  rw [Int.toNat_natCast,hall]
  rfl
 have hr:=zs2 hw.1 hw.2
 have hft:fitV (Vault.mk (newB n m) (w:Int) 0 []):=by
  unfold fitV
  rw [Vault.Words_mk,Vault.Banks_mk,show bN (newB n m)=n from g.rl,show bM (newB n m)=m from g.pl,Int.toNat_natCast]
  omega
 refine ⟨m,⟨hok,?_,g.lost,g.rl,g.pl,rfl⟩,rfl,hlog⟩
 unfold zax
 rw [Vault.Banks_mk,g.right,decide_eq_true hft,Bool.true_and,Bool.true_and]
 exact ziS.2 hr
theorem SI.words_eq {n m:Nat}{W:Int}{s:Vault}(I:SI n m W s):zb9 s=some (zb3 s):=by rw [zkD I.ok,if_pos I.right]
theorem SI.small {n m:Nat}{W:Int}{s:Vault}(I:SI n m W s):zh1 (logV s):=zrz I.ok I.right
theorem SI.refl {n m:Nat}{W:Int}{s:Vault}(I:SI n m W s):zdf (zb3 s) (zb3 s)=some true:=zkz _ (by have:=zdu I.right;omega)
end Go.Proofs.Ytlgjbfdojbmmgaa
