/- Layer 14: a store does what a log does. No condition. -/
import Derived.Test.YtlgjbfdojbmmgaaV5
set_option linter.unusedSimpArgs false
set_option linter.unusedVariables false
namespace Go.Proofs.Ytlgjbfdojbmmgaa
open Go.SX
theorem znx {l:Log}(h:zby l) (a w:Int):zby (zin l a w).1:=by
 have hz:=h.size
 unfold zb2 at hz
 unfold zin
 split
 ·rename_i hin
  split
  ·exact zn3 h
  ·rename_i hu
   split
   ·exact h
   ·rename_i h256
    exact zoi h hin.2.1 hin.2.2 (by simpa using hu) (by omega)
 ·exact h
theorem zpB {l:Log}(h:zby l) (to:Int):zby (zrk l to).1:=by
 unfold zrk
 split
 ·rename_i hin
  exact zdK h (stays to) (mem:=restore l to) (zcQ _ _) hin.2.1 hin.2.2 fun u hu hp=>by
   simp only [stays,decide_eq_true_eq] at hp
   omega
 ·exact h
theorem zpx {l:Log}(h:zby l) (fr:Int):zby (trimS l fr).1:=by
 unfold trimS
 split
 ·exact zdK h (goes fr) (mem:=Log.Mem l) rfl (by have:=h.size;unfold zb2 at this;omega) (Int.le_refl _) fun u hu _=>(h.each u hu).2.1
 ·exact h
theorem zpH {l:Log}(h:zby l):zby (zrD l).1:=by
 unfold zrD
 split
 ·rename_i hin
  exact zlH h hin.2
 ·exact h
structure SI (n m:Nat) (W:Int) (s:Vault):Prop where
 ok:VOk s
 right:zaw s=true
 lost:Banks.Lost (Vault.Banks s)=0
 bn:bN (Vault.Banks s)=n
 bm:bM (Vault.Banks s)=m
 words:Vault.Words s=W
theorem SI.good {n m:Nat}{W:Int}{s:Vault}(I:SI n m W s):Good n m (Vault.Banks s):=⟨I.ok.b,(zaj I.right).1,I.lost,I.bn,I.bm⟩
theorem SI.log {n m:Nat}{W:Int}{s:Vault}(I:SI n m W s):zby (logV s):=zdD.1 (zcR I.right)
theorem SI.len {n m:Nat}{W:Int}{s:Vault}(I:SI n m W s):(zbb s).length=W.toNat:=by rw [(zdR I.right).1,I.words]
theorem zr6 {n m:Nat}{W:Int}{s t:Vault}(I:SI n m W s) (hok:VOk t) (g:Good n m (Vault.Banks t)) (hw:Vault.Words t=W) (hr:zby (logV t)):SI n m W t:=by
 have hf:=(zaj I.right).2.1
 have e1:bN (Vault.Banks t)=n:=g.rl
 have e2:bM (Vault.Banks t)=m:=g.pl
 have hft:fitV t:=by
  unfold fitV at hf ⊢
  rw [e1,e2,hw]
  rw [I.bn,I.bm,I.words] at hf
  exact hf
 refine ⟨hok,?_,g.lost,e1,e2,hw⟩
 unfold zaw
 rw [g.right,decide_eq_true hft,Bool.true_and,Bool.true_and]
 have:=zdD.2 hr
 unfold logV at this
 rwa [zlu (m':=List.replicate (Vault.Words t).toNat 0) (by rw [zic hft,List.length_replicate])] at this
structure Sim (n m:Nat) (W:Int) (r:Vault×Int) (q:Log×Int):Prop where
 si:SI n m W r.1
 lg:logV r.1=q.1
 er:r.2=q.2
theorem zsk {n m:Nat}{W:Int}{s:Vault}(I:SI n m W s) (a:Int) {w:Int}(hw:wd w):Sim n m W (zg8 s a w) (zin (logV s) a w):=by
 have hok:=zsN I.ok a hw
 have hlr:=znx I.log a w
 have hl:=I.len
 by_cases h:inV s a
 ·obtain ⟨k,rfl,hk,hk2⟩:=zp2 h
  obtain ⟨p1,p2,p3⟩:=zfx h.1 hk
  have g:=zkn I.ok h.1 I.lost
  have g2:=zlA g p2 p3 hw
  have hin:za9 (logV s)=true∧0≤(k:Int)∧(k:Int)<((Log.Mem (logV s)).length:Int):=⟨zcR h.1,by omega,by show (k:Int)<((zbb s).length:Int);rw [(zdR h.1).1];omega⟩
  have hpos:¬ 0<Banks.Lost (Vault.Banks s):=by rw [I.lost];omega
  have hlog:∀ L,logV (zqi s (k:Int) w L)=Log.mk ((Log.Mem (logV s)).set k w) (Log.Span (logV s)) L:=fun L=>by
   show Log.mk ((allB (zbL _ _ _ _)).take _) _ _=_
   rw [Int.toNat_natCast,znr g (by have:=(zdR h.1).2.1;omega),List.take_set]
   rfl
  have hg:∀ L,Good n m (Vault.Banks (zqi s (k:Int) w L)):=fun L=>by
   have:=g2
   rw [I.bn,I.bm] at this
   show Good n m (zbL _ _ _ _)
   rw [Int.toNat_natCast,I.bn]
   exact this
  unfold zg8 at hok ⊢
  unfold zin at hlr ⊢
  rw [if_pos hin] at hlr ⊢
  rw [zhS h,if_pos rfl,if_neg hpos] at hok ⊢
  cases hu:hasU (logV s) (k:Int)
  ·rw [hu] at hok hlr
   by_cases h256:(Vault.Lst s).length=256
   ·have h256':(Log.Lst (logV s)).length=256:=h256
    rw [if_neg Bool.false_ne_true,if_neg Bool.false_ne_true,if_pos h256,if_pos h256']
    exact ⟨I,rfl,rfl⟩
   ·have h256':¬ (Log.Lst (logV s)).length=256:=h256
    rw [if_neg Bool.false_ne_true,if_neg h256'] at hlr
    rw [if_neg Bool.false_ne_true,if_neg h256] at hok
    rw [if_neg Bool.false_ne_true,if_neg Bool.false_ne_true,if_neg h256,if_neg h256',Int.toNat_natCast]
    rw [Int.toNat_natCast] at hlr
    refine ⟨zr6 I hok (hg _) I.words ?_,hlog _,rfl⟩
    rw [hlog]
    exact hlr
  ·rw [hu,if_pos rfl] at hok hlr
   rw [if_pos rfl,if_pos rfl,Int.toNat_natCast]
   rw [Int.toNat_natCast] at hlr
   refine ⟨zr6 I hok (hg _) I.words ?_,hlog _,rfl⟩
   rw [hlog]
   exact hlr
 ·have hin:¬ (za9 (logV s)=true∧0≤a∧a<((Log.Mem (logV s)).length:Int)):=fun q=>h ⟨I.right,q.2.1,by
   have q2:a<((zbb s).length:Int):=q.2.2
   have:=(zaj I.right).2.1
   unfold fitV at this
   rw [(zdR I.right).1] at q2
   omega⟩
  unfold zg8 zin
  rw [zjd h,if_neg (by simp),if_neg hin]
  exact ⟨I,rfl,rfl⟩
theorem ztW {n m:Nat}{W:Int}{s:Vault}(I:SI n m W s):Sim n m W (znF s) (zrD (logV s)):=by
 have hok:=zuh I.ok
 have hlr:=zpH I.log
 unfold znF at hok ⊢
 unfold zrD at hlr ⊢
 by_cases h:Vault.Span s<1099511627776
 ·rw [if_pos ⟨I.right,h⟩] at hok ⊢
  rw [if_pos (show za9 (logV s)=true∧Log.Span (logV s)<1099511627776 from ⟨zcR I.right,h⟩)] at hlr ⊢
  exact ⟨zr6 I hok I.good I.words hlr,rfl,rfl⟩
 ·rw [if_neg (fun q=>h q.2),if_neg (fun q=>h q.2)]
  exact ⟨I,rfl,rfl⟩
theorem zun {n m:Nat}{W:Int}{s:Vault}(I:SI n m W s) (fr:Int):Sim n m W (zpC s fr) (trimS (logV s) fr):=by
 have hok:=ztJ I.ok fr
 have hlr:=zpx I.log fr
 unfold zpC at hok ⊢
 unfold trimS at hlr ⊢
 by_cases h:toV s fr
 ·rw [zhX h,if_pos rfl] at hok ⊢
  rw [if_pos (show za9 (logV s)=true∧0≤fr∧fr≤Log.Span (logV s) from ⟨zcR I.right,h.2⟩)] at hlr ⊢
  exact ⟨zr6 I hok I.good I.words hlr,rfl,rfl⟩
 ·rw [zhz h,if_neg (by simp),if_neg (show ¬ (za9 (logV s)=true∧0≤fr∧fr≤Log.Span (logV s)) from fun q=>h ⟨I.right,q.2⟩)]
  exact ⟨I,rfl,rfl⟩
theorem zt1 {n m:Nat}{W:Int}{s:Vault}(I:SI n m W s) (to:Int):Sim n m W (zkY s to) (zrk (logV s) to):=by
 have hok:=zue I.ok to
 have hlr:=zpB I.log to
 unfold zkY at hok ⊢
 unfold zrk at hlr ⊢
 have hpos:¬ 0<Banks.Lost (Vault.Banks s):=by rw [I.lost];omega
 by_cases h:toV s to
 ·rw [zhX h,if_pos rfl,if_neg hpos] at hok ⊢
  rw [if_pos (show za9 (logV s)=true∧0≤to∧to≤Log.Span (logV s) from ⟨zcR I.right,h.2⟩)] at hlr ⊢
  obtain ⟨g1,g2⟩:=zjx I.ok I.right I.lost to
  rw [I.bn,I.bm] at g1
  have hlog:logV (Vault.mk (zeb s to) (Vault.Words s) to ((Vault.Lst s).filter (stays to)))=Log.mk (restore (logV s) to) to ((Log.Lst (logV s)).filter (stays to)):=by
   show Log.mk ((allB (zeb s to)).take (Vault.Words s).toNat) _ _=_
   have hrl:(restore (logV s) to).length=(Vault.Words s).toNat:=(zcQ _ _).trans (zdR I.right).1
   rw [g2,List.take_left' hrl]
   rfl
  refine ⟨zr6 I hok g1 I.words ?_,hlog,rfl⟩
  rw [hlog]
  exact hlr
 ·rw [zhz h,if_neg (by simp),if_neg (show ¬ (za9 (logV s)=true∧0≤to∧to≤Log.Span (logV s)) from fun q=>h ⟨I.right,q.2⟩)]
  exact ⟨I,rfl,rfl⟩
theorem zvr {w n:Nat}(hw:1≤w∧w≤64) (hn:1≤n∧n≤8):∃ m,SI n m (w:Int) (newV (w:Int) (n:Int)).1∧(newV (w:Int) (n:Int)).2=0∧logV (newV (w:Int) (n:Int)).1=Log.mk (List.replicate w 0) 0 []:=by
 have hok:=zvp (w:Int) (n:Int)
 have hc:zmu (w:Int) (n:Int)=true:=by
  unfold zmu
  rw [decide_eq_true_eq]
  omega
 obtain ⟨e1,e2,e3,e4⟩:=zpS hn.1 hw.1 hw.2
 unfold newV at hok ⊢
 rw [if_pos hc,Int.toNat_natCast,Int.toNat_natCast] at hok ⊢
 generalize (w + n - 1) / n=m at *
 have g:=ztF (n:=n) (m:=m) hn ⟨e1,e2⟩
 have hall:(allB (newB n m)).take w=List.replicate w 0:=by
  have hb:bN (newB n m)=n:=g.rl
  have hm:bM (newB n m)=m:=g.pl
  apply List.ext_getElem?
  intro i
  rw [List.getElem?_take,List.getElem?_replicate]
  by_cases hi:i<w
  ·rw [if_pos hi,if_pos hi,zgV (by rw [hb,hm,Nat.mul_comm];omega)]
   congr 1
   unfold cell rowAt newB
   rw [Banks.Rows_mk,List.getElem?_replicate]
   split
   ·show zay (List.replicate m 0) _=0
    unfold zay
    rw [List.getElem?_replicate]
    split<;>rfl
   ·rfl
  ·rw [if_neg hi,if_neg hi]
 have hlog:logV (Vault.mk (newB n m) (w:Int) 0 [])=Log.mk (List.replicate w 0) 0 []:=by
  show Log.mk ((allB (newB n m)).take (w:Int).toNat) _ _=_
  rw [Int.toNat_natCast,hall]
  rfl
 have hr:=zoD hw.1 hw.2
 have hft:fitV (Vault.mk (newB n m) (w:Int) 0 []):=by
  unfold fitV
  rw [Vault.Words_mk,Vault.Banks_mk,show bN (newB n m)=n from g.rl,show bM (newB n m)=m from g.pl,Int.toNat_natCast]
  omega
 refine ⟨m,⟨hok,?_,g.lost,g.rl,g.pl,rfl⟩,rfl,hlog⟩
 unfold zaw
 rw [Vault.Banks_mk,g.right,decide_eq_true hft,Bool.true_and,Bool.true_and]
 exact zdD.2 hr
theorem SI.words_eq {n m:Nat}{W:Int}{s:Vault}(I:SI n m W s):zaG s=some (zbb s):=by rw [zkU I.ok,if_pos I.right]
theorem SI.refl {n m:Nat}{W:Int}{s:Vault}(I:SI n m W s):zcE (zbb s) (zbb s)=some true:=zk2 _ (by have:=zdR I.right;omega)
end Go.Proofs.Ytlgjbfdojbmmgaa
