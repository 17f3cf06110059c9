/- Layer 14: a store is trimmed, begun, goes on, loses a bank and is rebuilt. -/
import Derived.Test.YtlgjbfdojbmmgaaV4
set_option linter.unusedSimpArgs false
set_option linter.unusedVariables false
namespace Go.Proofs.Ytlgjbfdojbmmgaa
open Go.SX
noncomputable def zrp (s:Vault) (fr:Int):Vault×Int :=
 if (zaz s&&(decide (0≤fr)&&decide (fr≤Vault.Span s)))=true then (Vault.mk (Vault.Banks s) (Vault.Words s) (Vault.Span s) ((Vault.Lst s).filter (goes fr)),0) else (s,1)
theorem zlB {s:Vault}(hs:VOk s) (to:Int):zd6 s to=some (zrp s to):=by
 unfold zd6 zrp
 have hc:=ziR hs
 rw [show zcZ=zao from rfl,hc,zn5 hs]
 by_cases h:toV s to
 ·rw [ziX h]
  simp only [wC0,wH0,wA0,if_false,if_true,Banks.eta,Vault.eta]
  have hl2:=hs.l
  have lp:=zec (f:=zc2 to (Vault.Lst s) (List.length (Vault.Lst s):Int)) (n:=(Vault.Lst s).length) (fun i=>(i:Int)) (fun i=>optT (goes to) (Vault.Lst s)[i]?) (e:=.inl ()) (r:=fun i=>.inr (i:Int)) (fun i hi _=>by
   have hlt:(i:Int)<(List.length (Vault.Lst s):Int):=by omega
   unfold zc2
   simp only [hlt,decide_true,if_true,zci hi,zat hi,wC0,zav (show i<4611686018427387904 by omega),zbv hi]
   by_cases e1:Undo.Span (Vault.Lst s)[i]<to
   ·have:¬ to≤Undo.Span (Vault.Lst s)[i]:=by omega
    simp [e1,goes,this]
   ·have:to≤Undo.Span (Vault.Lst s)[i]:=by omega
    simp [e1,goes,this]) (fun _=>by
   unfold zc2
   simp)
  rw [show ((0:Nat):Int)=0 from rfl] at lp
  rcases lp with ⟨hall,hlp⟩|⟨k,hk,hbad,hpre,hlp⟩
  ·have hself:(Vault.Lst s).filter (goes to)=Vault.Lst s:=by
    rw [List.filter_eq_self]
    intro u hu
    obtain ⟨i,hi,rfl⟩:=List.getElem_of_mem hu
    have:=hall i hi
    rwa [zbv hi] at this
   have hsub:subO (Vault.Lst s) (0:Int) (List.length (Vault.Lst s):Int)=some (Vault.Lst s):=by
    have:=zgh (l:=Vault.Lst s) (i:=0) (j:=(Vault.Lst s).length) (by omega) (by omega)
    rw [List.drop_zero,List.take_length] at this
    exact this
   simp [hlp,hself,hsub]
  ·rw [zbv hk] at hbad
   obtain ⟨i,m,hlo,him,hml,htk⟩:=zqm (f:=zcQ to) (l:=Vault.Lst s) (keep:=goes to) (fun i j m hj hij hm=>by
    have hlt:(j:Int)<(List.length m:Int):=by omega
    unfold zcQ
    simp only [hlt,decide_true,if_true,zci hj,zat hj,wC0,zav (show j<4611686018427387904 by omega)]
    have him:i<m.length:=by omega
    by_cases e1:Undo.Span m[j]<to
    ·have:¬ to≤Undo.Span m[j]:=by omega
     simp [e1,goes,this]
    ·have:to≤Undo.Span m[j]:=by omega
     simp [e1,goes,this,zci him,zeL him,zav (show i<4611686018427387904 by omega)]) (fun i m hm=>by
    unfold zcQ
    simp) hk (fun i hi hik=>by
    have:=hpre i hik
    rwa [zbv hi] at this) hbad
   have hk1:¬ (k:Int)=-1:=by omega
   have hsub:subO (m.take i++List.replicate (m.length - i) (Undo.mk 0 0 0)) (0:Int) (i:Int)=some (m.take i):=by
    have hl:(m.take i++List.replicate (m.length - i) (Undo.mk 0 0 0)).length=m.length:=by simp;omega
    have:=zgh (l:=m.take i++List.replicate (m.length - i) (Undo.mk 0 0 0)) (i:=0) (j:=i) (by omega) (by omega)
    rw [List.drop_zero,zqt him] at this
    exact this
   simp only [hlp,zdP,wC0,hk1,decide_false,wA0,if_false,wH0,zav (show k<4611686018427387904 by omega),hlo]
   rw [zpI him]
   simp only [wC0,hsub]
   rw [htk]
 ·rw [zgz h]
  simp only [wC0,Bool.not_false,if_true,Banks.eta,Vault.eta,wA0,if_false]
def zmG (w n:Int):Bool:=decide (1≤w∧w≤64∧1≤n∧n≤8)
noncomputable def newV (w n:Int):Vault×Int :=
 if zmG w n=true then (Vault.mk (newB n.toNat ((w.toNat + n.toNat - 1) / n.toNat)) w 0 [],0) else (Vault.mk (Banks.mk [] [] 0) 0 0 [],1)
theorem zsN (w n:Int):((decide (w<(1:Int)))||((decide ((64:Int)<w))||((decide (n<(1:Int)))||(decide ((8:Int)<n)))))=!zmG w n:=by
 unfold zmG
 by_cases h:1≤w∧w≤64∧1≤n∧n≤8
 ·rw [decide_eq_true h]
  simp only [wH0,Bool.or_eq_false_iff,decide_eq_false_iff_not]
  omega
 ·rw [decide_eq_false h]
  simp only [Bool.not_false,Bool.or_eq_true,decide_eq_true_eq]
  omega
theorem zpl {w n:Nat}(hn:1≤n) (hw:1≤w) (hw2:w≤64):1≤(w + n - 1) / n∧(w + n - 1) / n≤64∧w≤(w + n - 1) / n * n∧((w + n - 1) / n - 1) * n<w:=by
 have h1:1≤(w + n - 1) / n:=by
  rw [Nat.le_div_iff_mul_le (by omega)]
  omega
 have h2:=(zqk (w:=w) (n:=n) (m:=(w + n - 1) / n) (by omega) (by omega) h1).1 rfl
 refine ⟨h1,?_,h2.1,h2.2⟩
 have h3:(w + n - 1) / n - 1<w:=Nat.lt_of_le_of_lt (Nat.le_mul_of_pos_right _ (by omega)) h2.2
 omega
theorem zos (w n:Int):zhh w n=some (newV w n):=by
 unfold zhh newV
 rw [zsN]
 cases h:zmG w n
 ·rfl
 unfold zmG at h
 rw [decide_eq_true_eq] at h
 obtain ⟨a,rfl⟩:∃ a:Nat,w=(a:Int):=⟨w.toNat,by omega⟩
 obtain ⟨b,rfl⟩:∃ b:Nat,n=(b:Int):=⟨n.toNat,by omega⟩
 obtain ⟨e1,e2,e3,e4⟩:=zpl (w:=a) (n:=b) (by omega) (by omega) (by omega)
 simp only [wH0,wA0,if_false,if_true,zrG (w:=a) (n:=b) (by omega) (by omega) (by omega),wC0,Int.toNat_natCast]
 generalize (a + b - 1) / b=m at e1 e2
 have hc:((decide ((b:Int)<(1:Int)))||((decide ((8:Int)<(b:Int)))||((decide ((m:Int)<(1:Int)))||(decide ((64:Int)<(m:Int))))))=false:=by
  simp only [Bool.or_eq_false_iff,decide_eq_false_iff_not]
  omega
 rw [hc,if_neg (by simp),zfl (by omega) (by omega),wC0,show zih=zdQ from rfl,ztI (by omega) (by omega)]
 rfl
noncomputable def zrm (s:Vault):Vault×Int:=if zaz s=true∧Vault.Span s<1099511627776 then (Vault.mk (Vault.Banks s) (Vault.Words s) (Vault.Span s + 1) (Vault.Lst s),0) else (s,1)
theorem zuP {s:Vault}(h:zaz s=true):0≤Vault.Span s∧Vault.Span s≤1099511627776:=by
 have:=(zbp (zam h).2.2).1
 unfold zbL at this
 exact ⟨this.2.2.1,this.2.2.2.1⟩
theorem zmv {s:Vault}(hs:VOk s):zd9 s=some (zrm s):=by
 unfold zd9 zrm
 have hc:=ziR hs
 rw [show zhi=zao from rfl,hc,zct hs]
 cases hr:zaz s
 ·simp only [wC0,Bool.not_false,if_true,Banks.eta,Vault.eta,wA0,false_and,if_false]
 ·have:=zuP hr
  by_cases h:Vault.Span s=1099511627776
  ·simp only [wC0,wH0,wA0,if_false,h,decide_true,if_true,Int.lt_irrefl,and_false,Banks.eta]
   rw [← h,Vault.eta]
  ·have h2:Vault.Span s<1099511627776:=by omega
   simp only [wC0,wH0,wA0,if_false,h,decide_false,h2,and_self,if_true,Banks.eta]
   rw [zdE (by omega) (by omega)]
theorem zrP {s:Vault}(hs:VOk s) (a:Int) {w:Int}(hw:wd w):VOk (zki s a w).1:=by
 unfold zki
 by_cases h:inV s a
 ·obtain ⟨k,rfl,hk,hk2⟩:=zqs h
  obtain ⟨p1,p2,p3⟩:=zfw h.1 hk
  rw [zj3 h,if_pos rfl]
  have hsz:=(zbp (zcC h.1)).1
  unfold zbL at hsz
  have hlen:(Vault.Lst s).length≤256:=hsz.2.2.2.2
  split
  ·exact hs
  ·rename_i hl
   have hl0:Banks.Lost (Vault.Banks s)=0:=by have:=zlS h.1;omega
   have hb:BOk (zbz (Vault.Banks s) (k % bN (Vault.Banks s)) (k / bN (Vault.Banks s)) w):=zmU hs.b p2 hw
   split
   ·exact ⟨hb,hs.l,hs.v⟩
   ·split
    ·exact hs
    ·rename_i h256
     refine ⟨hb,?_,?_⟩
     ·show (Vault.Lst s++[_]).length≤300
      rw [wI0]
      simp
      omega
     ·intro u hu
      rcases List.mem_append.1 (show u∈Vault.Lst s++[Undo.mk (Vault.Span s) (k:Int) (zjW (logV s) (k:Int))] from hu) with q|q
      ·exact hs.v u q
      ·rw [List.mem_singleton] at q
       subst q
       show wd (zjW (logV s) (k:Int))
       unfold zjW
       cases e:(Log.Mem (logV s))[(k:Int).toNat]? with
       | none=>exact wd0
       | some x=>exact ztq hs x (List.mem_of_getElem? e)
 ·rw [ziH h]
  exact hs
theorem ztm {s:Vault}(hs:VOk s) (to:Int):VOk (zq4 s to).1:=by
 unfold zq4
 by_cases h:toV s to
 ·rw [ziX h,if_pos rfl]
  split
  ·exact hs
  ·rename_i hl
   have hl0:Banks.Lost (Vault.Banks s)=0:=by have:=zlS h.1;omega
   exact ⟨(zi7 hs h.1 hl0 to).1.ok,Nat.le_trans (List.length_filter_le _ _) hs.l,fun u hu=>hs.v u (List.mem_filter.1 hu).1⟩
 ·rw [zgz h]
  exact hs
theorem ztk {s:Vault}(hs:VOk s) (to:Int):VOk (zrp s to).1:=by
 unfold zrp
 split
 ·exact ⟨hs.b,Nat.le_trans (List.length_filter_le _ _) hs.l,fun u hu=>hs.v u (List.mem_filter.1 hu).1⟩
 ·exact hs
theorem zuD (w n:Int):VOk (newV w n).1:=by
 unfold newV
 cases h:zmG w n
 ·exact ⟨⟨by simp,by simp,by simp,fun r hr=>by simp at hr,by simp⟩,by simp,by simp⟩
 ·rw [if_pos rfl]
  unfold zmG at h
  rw [decide_eq_true_eq] at h
  obtain ⟨e1,e2,e3,e4⟩:=zpl (w:=w.toNat) (n:=n.toNat) (by omega) (by omega) (by omega)
  exact ⟨zsy (by omega) e2,by simp,by simp⟩
theorem ztX {s:Vault}(hs:VOk s):VOk (zrm s).1:=by
 unfold zrm
 split
 ·exact ⟨hs.b,hs.l,hs.v⟩
 ·exact hs
end Go.Proofs.Ytlgjbfdojbmmgaa
