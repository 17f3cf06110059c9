/- Layer 14: a store does what a log does. No condition. -/
import Derived.Test.YtlgjbfdojbmmgaaV5
set_option linter.unusedSimpArgs false
set_option linter.unusedVariables false
namespace Go.Proofs.Ytlgjbfdojbmmgaa
open Go.SX
theorem znw {l:Log}(h:zbS l) (a w:Int):zbS (zj4 l a w).1:=by
 have hz:=h.size
 unfold zbL at hz
 unfold zj4
 split
 ·rename_i hin
  split
  ·exact zrK h
  ·rename_i hu
   split
   ·exact h
   ·rename_i h256
    exact zst h hin.2.1 hin.2.2 (by simpa using hu) (by omega)
 ·exact h
theorem zpt {l:Log}(h:zbS l) (to:Int):zbS (zrb l to).1:=by
 unfold zrb
 split
 ·rename_i hin
  exact zh5 h (stays to) (mem:=restore l to) (ze4 _ _) hin.2.1 hin.2.2 fun u hu hp=>by
   simp only [stays,decide_eq_true_eq] at hp
   omega
 ·exact h
theorem zoV {l:Log}(h:zbS l) (fr:Int):zbS (trimS l fr).1:=by
 unfold trimS
 split
 ·exact zh5 h (goes fr) (mem:=Log.Mem l) rfl (by have:=h.size;unfold zbL at this;omega) (Int.le_refl _) fun u hu _=>(h.each u hu).2.1
 ·exact h
theorem zoR {l:Log}(h:zbS l):zbS (zqW l).1:=by
 unfold zqW
 split
 ·rename_i hin
  exact zrj h hin.2
 ·exact h
structure SI (n m:Nat) (W:Int) (s:Vault):Prop where
 ok:VOk s
 right:zaz s=true
 lost:Banks.Lost (Vault.Banks s)=0
 bn:bN (Vault.Banks s)=n
 bm:bM (Vault.Banks s)=m
 words:Vault.Words s=W
theorem SI.good {n m:Nat}{W:Int}{s:Vault}(I:SI n m W s):Good n m (Vault.Banks s):=⟨I.ok.b,(zam I.right).1,I.lost,I.bn,I.bm⟩
theorem SI.log {n m:Nat}{W:Int}{s:Vault}(I:SI n m W s):zbS (logV s):=zjS.1 (zcC I.right)
theorem SI.len {n m:Nat}{W:Int}{s:Vault}(I:SI n m W s):(zb2 s).length=W.toNat:=by rw [(zdt I.right).1,I.words]
theorem zsw {n m:Nat}{W:Int}{s t:Vault}(I:SI n m W s) (hok:VOk t) (g:Good n m (Vault.Banks t)) (hw:Vault.Words t=W) (hr:zbS (logV t)):SI n m W t:=by
 have hf:=(zam I.right).2.1
 have e1:bN (Vault.Banks t)=n:=g.rl
 have e2:bM (Vault.Banks t)=m:=g.pl
 have hft:fitV t:=by
  unfold fitV at hf ⊢
  rw [e1,e2,hw]
  rw [I.bn,I.bm,I.words] at hf
  exact hf
 refine ⟨hok,?_,g.lost,e1,e2,hw⟩
 unfold zaz
 rw [g.right,decide_eq_true hft,Bool.true_and,Bool.true_and]
 have:=zjS.2 hr
 unfold logV at this
 rwa [zlq (m':=List.replicate (Vault.Words t).toNat 0) (by rw [zfF hft,List.length_replicate])] at this
structure Sim (n m:Nat) (W:Int) (r:Vault×Int) (q:Log×Int):Prop where
 si:SI n m W r.1
 lg:logV r.1=q.1
 er:r.2=q.2
theorem zs8 {n m:Nat}{W:Int}{s:Vault}(I:SI n m W s) (a:Int) {w:Int}(hw:wd w):Sim n m W (zki s a w) (zj4 (logV s) a w):=by
 have hok:=zrP I.ok a hw
 have hlr:=znw I.log a w
 have hl:=I.len
 by_cases h:inV s a
 ·obtain ⟨k,rfl,hk,hk2⟩:=zqs h
  obtain ⟨p1,p2,p3⟩:=zfw h.1 hk
  have g:=zjD I.ok h.1 I.lost
  have g2:=zk6 g p2 p3 hw
  have hin:zaq (logV s)=true∧0≤(k:Int)∧(k:Int)<((Log.Mem (logV s)).length:Int):=⟨zcC h.1,by omega,by show (k:Int)<((zb2 s).length:Int);rw [(zdt h.1).1];omega⟩
  have hpos:¬ 0<Banks.Lost (Vault.Banks s):=by rw [I.lost];omega
  have hlog:∀ L,logV (zp6 s (k:Int) w L)=Log.mk ((Log.Mem (logV s)).set k w) (Log.Span (logV s)) L:=fun L=>by
   show Log.mk ((allB (zbz _ _ _ _)).take _) _ _=_
   rw [Int.toNat_natCast,zn1 g (by have:=(zdt h.1).2.1;omega),List.take_set]
   rfl
  have hg:∀ L,Good n m (Vault.Banks (zp6 s (k:Int) w L)):=fun L=>by
   have:=g2
   rw [I.bn,I.bm] at this
   show Good n m (zbz _ _ _ _)
   rw [Int.toNat_natCast,I.bn]
   exact this
  unfold zki at hok ⊢
  unfold zj4 at hlr ⊢
  rw [if_pos hin] at hlr ⊢
  rw [zj3 h,if_pos rfl,if_neg hpos] at hok ⊢
  cases hu:hasU (logV s) (k:Int)
  ·rw [hu] at hok hlr
   by_cases h256:(Vault.Lst s).length=256
   ·have h256':(Log.Lst (logV s)).length=256:=h256
    rw [if_neg Bool.false_ne_true,if_neg Bool.false_ne_true,if_pos h256,if_pos h256']
    exact ⟨I,rfl,rfl⟩
   ·have h256':¬ (Log.Lst (logV s)).length=256:=h256
    rw [if_neg Bool.false_ne_true,if_neg h256'] at hlr
    rw [if_neg Bool.false_ne_true,if_neg h256] at hok
    rw [if_neg Bool.false_ne_true,if_neg Bool.false_ne_true,if_neg h256,if_neg h256',Int.toNat_natCast]
    rw [Int.toNat_natCast] at hlr
    refine ⟨zsw I hok (hg _) I.words ?_,hlog _,rfl⟩
    rw [hlog]
    exact hlr
  ·rw [hu,if_pos rfl] at hok hlr
   rw [if_pos rfl,if_pos rfl,Int.toNat_natCast]
   rw [Int.toNat_natCast] at hlr
   refine ⟨zsw I hok (hg _) I.words ?_,hlog _,rfl⟩
   rw [hlog]
   exact hlr
 ·have hin:¬ (zaq (logV s)=true∧0≤a∧a<((Log.Mem (logV s)).length:Int)):=fun q=>h ⟨I.right,q.2.1,by
   have q2:a<((zb2 s).length:Int):=q.2.2
   have:=(zam I.right).2.1
   unfold fitV at this
   rw [(zdt I.right).1] at q2
   omega⟩
  unfold zki zj4
  rw [ziH h,if_neg (by simp),if_neg hin]
  exact ⟨I,rfl,rfl⟩
theorem ztD {n m:Nat}{W:Int}{s:Vault}(I:SI n m W s):Sim n m W (zrm s) (zqW (logV s)):=by
 have hok:=ztX I.ok
 have hlr:=zoR I.log
 unfold zrm at hok ⊢
 unfold zqW at hlr ⊢
 by_cases h:Vault.Span s<1099511627776
 ·rw [if_pos ⟨I.right,h⟩] at hok ⊢
  rw [if_pos (show zaq (logV s)=true∧Log.Span (logV s)<1099511627776 from ⟨zcC I.right,h⟩)] at hlr ⊢
  exact ⟨zsw I hok I.good I.words hlr,rfl,rfl⟩
 ·rw [if_neg (fun q=>h q.2),if_neg (fun q=>h q.2)]
  exact ⟨I,rfl,rfl⟩
theorem ztl {n m:Nat}{W:Int}{s:Vault}(I:SI n m W s) (fr:Int):Sim n m W (zrp s fr) (trimS (logV s) fr):=by
 have hok:=ztk I.ok fr
 have hlr:=zoV I.log fr
 unfold zrp at hok ⊢
 unfold trimS at hlr ⊢
 by_cases h:toV s fr
 ·rw [ziX h,if_pos rfl] at hok ⊢
  rw [if_pos (show zaq (logV s)=true∧0≤fr∧fr≤Log.Span (logV s) from ⟨zcC I.right,h.2⟩)] at hlr ⊢
  exact ⟨zsw I hok I.good I.words hlr,rfl,rfl⟩
 ·rw [zgz h,if_neg (by simp),if_neg (show ¬ (zaq (logV s)=true∧0≤fr∧fr≤Log.Span (logV s)) from fun q=>h ⟨I.right,q.2⟩)]
  exact ⟨I,rfl,rfl⟩
theorem zti {n m:Nat}{W:Int}{s:Vault}(I:SI n m W s) (to:Int):Sim n m W (zq4 s to) (zrb (logV s) to):=by
 have hok:=ztm I.ok to
 have hlr:=zpt I.log to
 unfold zq4 at hok ⊢
 unfold zrb at hlr ⊢
 have hpos:¬ 0<Banks.Lost (Vault.Banks s):=by rw [I.lost];omega
 by_cases h:toV s to
 ·rw [ziX h,if_pos rfl,if_neg hpos] at hok ⊢
  rw [if_pos (show zaq (logV s)=true∧0≤to∧to≤Log.Span (logV s) from ⟨zcC I.right,h.2⟩)] at hlr ⊢
  obtain ⟨g1,g2⟩:=zi7 I.ok I.right I.lost to
  rw [I.bn,I.bm] at g1
  have hlog:logV (Vault.mk (zdV s to) (Vault.Words s) to ((Vault.Lst s).filter (stays to)))=Log.mk (restore (logV s) to) to ((Log.Lst (logV s)).filter (stays to)):=by
   show Log.mk ((allB (zdV s to)).take (Vault.Words s).toNat) _ _=_
   have hrl:(restore (logV s) to).length=(Vault.Words s).toNat:=(ze4 _ _).trans (zdt I.right).1
   rw [g2,List.take_left' hrl]
   rfl
  refine ⟨zsw I hok g1 I.words ?_,hlog,rfl⟩
  rw [hlog]
  exact hlr
 ·rw [zgz h,if_neg (by simp),if_neg (show ¬ (zaq (logV s)=true∧0≤to∧to≤Log.Span (logV s)) from fun q=>h ⟨I.right,q.2⟩)]
  exact ⟨I,rfl,rfl⟩
theorem zut {w n:Nat}(hw:1≤w∧w≤64) (hn:1≤n∧n≤8):∃ m,SI n m (w:Int) (newV (w:Int) (n:Int)).1∧(newV (w:Int) (n:Int)).2=0∧logV (newV (w:Int) (n:Int)).1=Log.mk (List.replicate w 0) 0 []:=by
 have hok:=zuD (w:Int) (n:Int)
 have hc:zmG (w:Int) (n:Int)=true:=by
  unfold zmG
  rw [decide_eq_true_eq]
  omega
 obtain ⟨e1,e2,e3,e4⟩:=zpl hn.1 hw.1 hw.2
 unfold newV at hok ⊢
 rw [if_pos hc,Int.toNat_natCast,Int.toNat_natCast] at hok ⊢
 generalize (w + n - 1) / n=m at *
 have g:=ztF (n:=n) (m:=m) hn ⟨e1,e2⟩
 have hall:(allB (newB n m)).take w=List.replicate w 0:=by
  have hb:bN (newB n m)=n:=g.rl
  have hm:bM (newB n m)=m:=g.pl
  apply List.ext_getElem?
  intro i
  rw [List.getElem?_take,List.getElem?_replicate]
  by_cases hi:i<w
  ·rw [if_pos hi,if_pos hi,zg5 (by rw [hb,hm,Nat.mul_comm];omega)]
   congr 1
   unfold cell rowAt newB
   rw [Banks.Rows_mk,List.getElem?_replicate]
   split
   ·show zaC (List.replicate m 0) _=0
    unfold zaC
    rw [List.getElem?_replicate]
    split<;>rfl
   ·rfl
  ·rw [if_neg hi,if_neg hi]
 have hlog:logV (Vault.mk (newB n m) (w:Int) 0 [])=Log.mk (List.replicate w 0) 0 []:=by
  show Log.mk ((allB (newB n m)).take (w:Int).toNat) _ _=_
  rw [Int.toNat_natCast,hall]
  rfl
 have hr:=zrw hw.1 hw.2
 have hft:fitV (Vault.mk (newB n m) (w:Int) 0 []):=by
  unfold fitV
  rw [Vault.Words_mk,Vault.Banks_mk,show bN (newB n m)=n from g.rl,show bM (newB n m)=m from g.pl,Int.toNat_natCast]
  omega
 refine ⟨m,⟨hok,?_,g.lost,g.rl,g.pl,rfl⟩,rfl,hlog⟩
 unfold zaz
 rw [Vault.Banks_mk,g.right,decide_eq_true hft,Bool.true_and,Bool.true_and]
 exact zjS.2 hr
theorem SI.words_eq {n m:Nat}{W:Int}{s:Vault}(I:SI n m W s):zcm s=some (zb2 s):=by rw [zky I.ok,if_pos I.right]
theorem SI.small {n m:Nat}{W:Int}{s:Vault}(I:SI n m W s):zij (logV s):=zsS I.ok I.right
theorem SI.refl {n m:Nat}{W:Int}{s:Vault}(I:SI n m W s):zdr (zb2 s) (zb2 s)=some true:=zkN _ (by have:=zdt I.right;omega)
end Go.Proofs.Ytlgjbfdojbmmgaa
