/- Deliveries of requests that home takes, as changes of one line. No condition. -/
import Derived.Test.YtlgjbfdojbmmgaaRI
set_option linter.unusedSimpArgs false
set_option linter.unusedVariables false
set_option maxRecDepth 100000
namespace Go.Proofs.Ytlgjbfdojbmmgaa
open Go.SX
theorem zk3 {A B:AL}{l n:Nat}(h0:A.bu=0) (h1:B.bu=n + 1) (h2:B.ph≤3) (h3:B.got=0) (h4:B.wk=A.wk) (hw:A.wk n≠3) (k:Nat):wOf B l k=wOf A l k:=by
 unfold wOf zz9
 rw [h0,h1,h3,h4,if_neg (show ¬ (0=k + 1∧A.ph≤4) by omega)]
 by_cases q:n + 1=k + 1
 ·have e:n=k:=by omega
  subst e
  rw [if_pos ⟨rfl,by omega⟩,vD0 (show ¬ B.ph=4 by omega),vD0 hw,if_neg (by omega),if_neg (by omega)]
  rfl
 ·rw [if_neg (fun r=>q r.1)]
def zAY (Z:Nat→Bool) (l n k:Nat):Option Msg:=if Z k=true∧k≠n then some (zAC l n k) else none
theorem zxs {o n l a:Nat}(ho:o<9) (hn:n<4) (hl:l<16) (ha:a<9) (w:Bool):zdo (zz8 o n l a w):=by
 unfold zz8
 refine mo _ _ _ _ _ _ _ _ _ ?_ (by omega) (by omega) (by omega) (by omega) (by omega) u0 u0
 cases w<;>simp
theorem zvX {Z:Nat→Bool}{l n k:Nat}(x:Msg):(if Z k=true∧k≠n then [zAC l n k] else []).count x=io (zAY Z l n k) x:=by
 unfold zAY
 split
 ·exact cnt1 x _
 ·rfl
theorem zmM {Z:Nat→Bool}{l n c:Nat}(hz:∀ k,c≤k→Z k=false):∀ d,zbZ Z l n (c + d)=zbZ Z l n c
 | 0=>rfl
 | d + 1=>by
  show zbZ Z l n (c + d)++(if Z (c + d)=true∧c + d≠n then [zAC l n (c + d)] else [])=_
  rw [if_neg (fun q=>by rw [hz (c + d) (by omega)] at q;cases q.1),vN0,zmM hz d]
theorem zvQ {Z:Nat→Bool}{l n c:Nat}(c4:c≤4) (hz:∀ k,c≤k→Z k=false) (x:Msg):(zbZ Z l n c).count x=s4 (fun k=>io (zAY Z l n k) x):=by
 rw [← zmM hz (4 - c),show c + (4 - c)=4 by omega]
 unfold s4
 simp only [zbZ,List.count_append,zvX,List.count_nil,vA0]
theorem zvF {A:AL}{l n c:Nat}(c4:c≤4) (hz:∀ k,c≤k→A.sh k=false):(zbZ A.sh l n c).length=np (zz0 A n):=by
 have e:∀ k,(if A.sh k=true∧k≠n then [zAC l n k] else []).length=z1 (zz0 A n k):=fun k=>by
  unfold zz0 z1
  by_cases q:A.sh k=true∧k≠n
  ·rw [if_pos q,show (if k≠n∧A.sh k=true then 1 else 0)=1 from if_pos ⟨q.2,q.1⟩];rfl
  ·rw [if_neg q,show (if k≠n∧A.sh k=true then 1 else 0)=0 from if_neg (fun r=>q ⟨r.2,r.1⟩)];rfl
 rw [← zmM hz (4 - c),show c + (4 - c)=4 by omega]
 unfold np
 simp only [zbZ,wI0,e,List.length_nil,vA0]
theorem zt4 {Z:Nat→Bool}{l n:Nat}(hn:n<4) (hl:l<16):∀ {c:Nat},c≤4→∀ y∈zbZ Z l n c,zdo y∧Msg.Line y=(l:Int)
 | 0,_,y,hy=>by cases hy
 | c + 1,hc,y,hy=>by
  simp only [zbZ] at hy
  rcases List.mem_append.1 hy with q|q
  ·exact zt4 hn hl (by omega) y q
  ·split at q
   ·rw [List.mem_singleton.1 q]
    exact ⟨mo _ _ _ _ _ _ _ _ _ (by omega) (by omega) (by omega) (by omega) (by omega) (by omega) u0 u0,rfl⟩
   ·cases q
section
variable {c h:Nat} {A:Nat→AL} {W:Nat→Wait} {ms:List Msg} {v:Nat→Int}
theorem quiet {A:AL}{v:Int}(i:Iv c A v) (hb:A.bu=0):A.ph=0∧∀ j,A.pd j=0:=⟨i.bz.1.1 hb,fun j=>by
 by_cases q:A.pd j=0
 ·exact q
 ·exact absurd hb (i.p1 j q).2.2.1⟩
theorem znx {A:AL}{l:Nat}(h:A.ph=0∨A.ph=4):phS A l=none:=by unfold phS;rw [if_neg (by omega),if_neg (by omega),if_neg (by omega),if_neg (by omega)]
theorem zoS {A:AL}{n p:Nat}{tk pd:Nat→Nat}(hn:n<4) (h0:A.tk n=1) (h1:tk=up A.tk n 0) (hp:A.ph=0) (hd:∀ j,A.pd j=0) (hq:pwt p≤4) (hpd:s4 (fun k=>dwt (pd k))≤8):s4 (fun k=>twt (tk k)) + pwt p + s4 (fun k=>dwt (pd k))<phi A:=by
 have q:=znD (f:=A.tk) (n:=n) (t:=0) hn
 rw [h0,show twt 1=13 from rfl,show twt 0=0 from rfl] at q
 rw [h1]
 unfold phi
 omega
theorem zpB (p:Nat):pwt p≤4:=by unfold pwt;grind
theorem zkG (d:Nat):dwt d≤2:=by unfold dwt;grind
theorem zyj (K:Ok c h A W ms v) {k l:Nat}(hk:k<ms.length) (hr:ms.length + c≤64) (hl:l<h) {m:Msg}(hm:ms[k]=m) {n:Nat}(hn:n<c) (h0:(A l).tk n=1) (hw:(A l).wk n=1) (hb:(A l).bu=0) (em:tkS (A l) l n=some m):Step c h A W ms v k m:=by
 have c4:=K.c4
 have h16:=K.h16
 have he:=zby hk
 have i:=(K.lv l hl).iv
 have hu:=(K.lv l hl).uv.2.2.1
 obtain ⟨p0,d0⟩:=quiet i hb
 obtain ⟨t1,t2,t3,t4,t5,t6⟩:=zo7 h0 em
 have em':m=zAe n l false:=by
  have:=zlB (l:=l) h0 (by omega)
  rw [em,hw] at this
  exact Option.some.inj this
 obtain ⟨r0,r1,r2⟩:=zuw (c:=c) (H:=fun l=>(A l).ho) (O:=fun l=>((A l).ow:Int)) (Z:=fun l=>(A l).sh) (B:=fun l=>((A l).bu:Int)) (r:=ms.eraseIdx k) hl h16 c4 hn (by omega) t1 t3 (by rw [em'];rfl) (by rw [em'];rfl) (by show ((A l).bu:Int)=0;omega) (K.may hl) hu
 have dz:s4 (fun k=>dwt ((A l).pd k))≤8:=by
  have:(fun k=>dwt ((A l).pd k))=fun _=>0:=funext fun k=>by rw [d0 k];rfl
  rw [this];exact Nat.zero_le 8
 have sz:∀ (x:Msg) (B:AL),B.pd=(A l).pd→s4 (fun k=>io (pdS B l k) x)=0:=fun x B q=>by
  have:(fun k=>io (pdS B l k) x)=fun _=>0:=funext fun k=>by rw [zmk (by rw [q];exact d0 k)];rfl
  rw [this];rfl
 by_cases ho:(A l).ow=0
 ·by_cases hz:∀ k,k≠n→(A l).sh k=false
  ·have ev:Ev c (A l) { A l with tk:=up (A l).tk n 0,bu:=n + 1,ow:=n + 1,sh:=up (A l).sh n false,ph:=3,ac:=0,got:=0,own:=true,kp:=false,pv:=(A l).ho,sr:=0 }:=.rd0 n hn h0 hw hb ho hz
   obtain ⟨B,hB⟩:∃ B,B=({ A l with tk:=up (A l).tk n 0,bu:=n + 1,ow:=n + 1,sh:=up (A l).sh n false,ph:=3,ac:=0,got:=0,own:=true,kp:=false,pv:=(A l).ho,sr:=0 }:AL):=⟨_,rfl⟩
   rw [← hB] at ev
   have hp:phS B l=some (zzU 0 n l 0 true false (A l).ho):=by rw [hB];rfl
   have cn:=zvG (A:=A l) (B:=B) (l:=l) (n:=n) (by omega) (fun j q=>by rw [hB];exact zjd (zbL q) rfl rfl) (by rw [hB];exact zjM zah) (znx (.inl p0)) (fun j=>zmk (d0 j))
   rw [em,hp] at cn
   refine ⟨l,B,W,[zzU 0 n l 0 true false (A l).ho],hl,ev,?_,K.dl hk hr hl (by rw [hm];exact t1) ev (.same (fun _=>by rw [hB]) fun j _=>zk3 hb (by rw [hB]) (by rw [hB];exact wG0 3) (by rw [hB]) (by rw [hB]) (by omega) j) (fun x=>by rw [hm,cnt1,cn x,sz x B (by rw [hB])];rfl) (zeW (zet (by omega) (by omega) (by omega) (by omega) _ _ hu) rfl) (by simp),.inl ?_⟩
   ·refine zqF K hk hr hl hm hn t1 t2 t3 (by omega) (r0 (by show ((A l).ow:Int)=0;omega) hz) (by rw [hB]) (by rw [hB]) (zaK (fun A=>A.ho) (by rw [hB])) (zmD (fun A=>Entry.mk (A.ow:Int) (ls c A.sh)) ?_) (zmD (fun A=>(A.bu:Int)) (by rw [hB];rfl))
    rw [hB]
    exact congrArg (Entry.mk ((n:Int) + 1)) (zlv fun j _=>by
     show up (A l).sh n false j=false
     unfold up;split;rfl;exact hz j ‹_›)
   ·rw [hB];exact zoS (by omega) h0 rfl p0 d0 (zpB _) dz
  ·have hz':∃ k,k≠n∧(A l).sh k=true:=by
    apply Classical.byContradiction
    intro q
    exact hz fun k hk=>by
     cases r:(A l).sh k
     ·rfl
     ·exact absurd ⟨k,hk,r⟩ q
   have ev:Ev c (A l) { A l with tk:=up (A l).tk n 0,bu:=n + 1,sh:=up (A l).sh n true,ph:=3,ac:=0,got:=0,own:=false,kp:=false,pv:=(A l).ho,sr:=0 }:=.rd1 n hn h0 hw hb ho hz'
   obtain ⟨B,hB⟩:∃ B,B=({ A l with tk:=up (A l).tk n 0,bu:=n + 1,sh:=up (A l).sh n true,ph:=3,ac:=0,got:=0,own:=false,kp:=false,pv:=(A l).ho,sr:=0 }:AL):=⟨_,rfl⟩
   rw [← hB] at ev
   have hp:phS B l=some (zzU 0 n l 0 false false (A l).ho):=by rw [hB];rfl
   have cn:=zvG (A:=A l) (B:=B) (l:=l) (n:=n) (by omega) (fun j q=>by rw [hB];exact zjd (zbL q) rfl rfl) (by rw [hB];exact zjM zah) (znx (.inl p0)) (fun j=>zmk (d0 j))
   rw [em,hp] at cn
   obtain ⟨j0,j1,j2⟩:=hz'
   have j3:j0<c:=by
    apply Classical.byContradiction
    intro q
    have:=(i.rg j0 (by omega)).2.2.2.2
    rw [j2] at this;cases this
   refine ⟨l,B,W,[zzU 0 n l 0 false false (A l).ho],hl,ev,?_,K.dl hk hr hl (by rw [hm];exact t1) ev (.same (fun _=>by rw [hB]) fun j _=>zk3 hb (by rw [hB]) (by rw [hB];exact wG0 3) (by rw [hB]) (by rw [hB]) (by omega) j) (fun x=>by rw [hm,cnt1,cn x,sz x B (by rw [hB])];rfl) (zeW (zet (by omega) (by omega) (by omega) (by omega) _ _ hu) rfl) (by simp),.inl ?_⟩
   ·refine zqF K hk hr hl hm hn t1 t2 t3 (by omega) (r1 (by show ((A l).ow:Int)=0;omega) ⟨j0,j3,j1,j2⟩) (by rw [hB]) (by rw [hB]) (zaK (fun A=>A.ho) (by rw [hB])) (zmD (fun A=>Entry.mk (A.ow:Int) (ls c A.sh)) (by rw [hB];show Entry.mk ((A l).ow:Int) _=_;rw [ho];rfl)) (zmD (fun A=>(A.bu:Int)) (by rw [hB];rfl))
   ·rw [hB];exact zoS (by omega) h0 rfl p0 d0 (zpB _) dz
 ·obtain ⟨o,ho'⟩:∃ o,(A l).ow=o + 1:=⟨(A l).ow - 1,by omega⟩
  have hon:o≠n:=fun q=>by
   rcases i.o1 o ho' with r|r
   ·have:=i.k1 n hw;rw [q] at r;omega
   ·omega
  have ev:Ev c (A l) { A l with tk:=up (A l).tk n 0,bu:=n + 1,sh:=up (A l).sh n true,ph:=1,ac:=0,got:=0,fo:=o }:=.rd2 n hn h0 hw hb o ho'
  obtain ⟨B,hB⟩:∃ B,B=({ A l with tk:=up (A l).tk n 0,bu:=n + 1,sh:=up (A l).sh n true,ph:=1,ac:=0,got:=0,fo:=o }:AL):=⟨_,rfl⟩
  rw [← hB] at ev
  have hp:phS B l=some (zz8 o n l 0 false):=by rw [hB];rfl
  have cn:=zvG (A:=A l) (B:=B) (l:=l) (n:=n) (by omega) (fun j q=>by rw [hB];exact zjd (zbL q) rfl rfl) (by rw [hB];exact zjM zah) (znx (.inl p0)) (fun j=>zmk (d0 j))
  rw [em,hp] at cn
  have bz:=i.bz.2.2.2
  refine ⟨l,B,W,[zz8 o n l 0 false],hl,ev,?_,K.dl hk hr hl (by rw [hm];exact t1) ev (.same (fun _=>by rw [hB]) fun j _=>zk3 hb (by rw [hB]) (by rw [hB];exact Nat.le_succ_of_le (Nat.le_succ 1)) (by rw [hB]) (by rw [hB]) (by omega) j) (fun x=>by rw [hm,cnt1,cn x,sz x B (by rw [hB])];rfl) (zeW (mo _ _ _ _ _ _ _ _ _ (by simp) (by omega) (by omega) (by omega) (by omega) (by omega) u0 u0) rfl) (by simp),.inl ?_⟩
  ·refine zqF K hk hr hl hm hn t1 t2 t3 (by omega) (r2 o (by omega) hon (by show ((A l).ow:Int)=_;omega)) (by rw [hB]) (by rw [hB]) (zaK (fun A=>A.ho) (by rw [hB])) (zmD (fun A=>Entry.mk (A.ow:Int) (ls c A.sh)) (by rw [hB];show Entry.mk ((A l).ow:Int) _=_;rw [ho'];rfl)) (zmD (fun A=>(A.bu:Int)) (by rw [hB];rfl))
  ·rw [hB];exact zoS (by omega) h0 rfl p0 d0 (zpB _) dz
theorem zxp (K:Ok c h A W ms v) {k l:Nat}(hk:k<ms.length) (hr:ms.length + c≤64) (hl:l<h) {m:Msg}(hm:ms[k]=m) {n:Nat}(hn:n<c) (h0:(A l).tk n=1) (hw:(A l).wk n=2) (hb:(A l).bu=0) (em:tkS (A l) l n=some m):Step c h A W ms v k m:=by
 have c4:=K.c4
 have h16:=K.h16
 have he:=zby hk
 have i:=(K.lv l hl).iv
 have hu:=(K.lv l hl).uv.2.2.1
 obtain ⟨p0,d0⟩:=quiet i hb
 obtain ⟨t1,t2,t3,t4,t5,t6⟩:=zo7 h0 em
 have em':m=zAe n l true:=by
  have:=zlB (l:=l) h0 (by omega)
  rw [em,hw] at this
  exact Option.some.inj this
 have bz:=i.bz.2.2.2
 have hz:∀ k,c≤k→(A l).sh k=false:=fun k q=>(i.rg k q).2.2.2.2
 have hlen:=zvF (l:=l) (n:=n) c4 hz
 have h4:=zv8 (zz0 (A l) n)
 have hil:=zlN (Z:=(A l).sh) (l:=l) (n:=n) c
 have hwr:=zta (c:=c) (H:=fun l=>(A l).ho) (O:=fun l=>((A l).ow:Int)) (Z:=fun l=>(A l).sh) (B:=fun l=>((A l).bu:Int)) (r:=ms.eraseIdx k) hl h16 c4 hn (by omega) t1 t3 (by rw [em'];rfl) (by rw [em'];rfl) (by show ((A l).bu:Int)=0;omega) (K.may hl) hu (A l).ow (by omega) rfl
 have dz:s4 (fun k=>dwt (zz0 (A l) n k))≤8:=by
  have a0:=zkG (zz0 (A l) n 0)
  have a1:=zkG (zz0 (A l) n 1)
  have a2:=zkG (zz0 (A l) n 2)
  have a3:=zkG (zz0 (A l) n 3)
  unfold s4
  dsimp only
  omega
 have sz:∀ (x:Msg) (B:AL),B.pd=zz0 (A l) n→B.bu=n + 1→s4 (fun k=>io (pdS B l k) x)=(zbZ (A l).sh l n c).count x:=fun x B q1 q2=>by
  rw [zvQ c4 hz]
  refine zui fun j _=>?_
  unfold zAY
  by_cases q:(A l).sh j=true∧j≠n
  ·rw [if_pos q,zwb (by rw [q1];exact if_pos ⟨q.2,q.1⟩),q2];rfl
  ·rw [if_neg q,zmk (by rw [q1];exact if_neg fun r=>q ⟨r.2,r.1⟩)]
 have key:∀ (B:AL) (y:Msg),Ev c (A l) B→B.tk=up (A l).tk n 0→B.wk=(A l).wk→B.tv=(A l).tv→B.st=(A l).st→B.va=(A l).va→B.ho=(A l).ho→B.bu=n + 1→B.ow=n + 1→(B.sh=fun _=>false)→B.pd=zz0 (A l) n→B.ph≤3→B.got=0→phS B l=some y→zdo y∧Msg.Line y=(l:Int) →
   zgl (pl (ms.eraseIdx k)) m (ls h fun l=>(A l).ho) (ls h (dr c (fun l=>((A l).ow:Int)) fun l=>(A l).sh)) (ls h fun l=>((A l).bu:Int))=some (pl (ms.eraseIdx k++zbZ (A l).sh l n c++[y]),ls h (fun l=>(A l).ho),ls h (up (dr c (fun l=>((A l).ow:Int)) fun l=>(A l).sh) l (Entry.mk ((n:Int) + 1) (ls c fun _=>false))),ls h (up (fun l=>((A l).bu:Int)) l ((n:Int) + 1)))→Step c h A W ms v k m :=
  fun B y ev e1 e2 e3 e4 e5 e6 e7 e8 e9 e10 e11 e12 hp yo hd=>by
   have cn:=zvG (A:=A l) (B:=B) (l:=l) (n:=n) (by omega) (fun j q=>zjd (by rw [e1];exact zbL q) (by rw [e2]) (by rw [e3])) (zjM (by rw [e1];exact zah)) (znx (.inl p0)) (fun j=>zmk (d0 j))
   rw [em,hp] at cn
   rw [vB0] at hd
   refine ⟨l,B,W,zbZ (A l).sh l n c++[y],hl,ev,?_,K.dl hk hr hl (by rw [hm];exact t1) ev (.same (fun _=>by rw [e2]) fun j _=>zk3 hb e7 e11 e12 e2 (by omega) j) (fun x=>by rw [hm,List.count_append,cnt1,cn x,sz x B e10 e7];omega) (fun z hz=>?_) (by rw [wI0,List.length_singleton];omega),.inl ?_⟩
   ·exact zqF K hk hr hl hm hn t1 t2 t3 (by omega) hd e4 e5 (zaK (fun A=>A.ho) e6) (zmD (fun A=>Entry.mk (A.ow:Int) (ls c A.sh)) (by show Entry.mk (B.ow:Int) (ls c B.sh)=_;rw [e8,e9];rfl)) (zmD (fun A=>(A.bu:Int)) (by show (B.bu:Int)=_;rw [e7];rfl))
   ·rcases List.mem_append.1 hz with q|q
    ·exact zt4 (by omega) (by omega) c4 z q
    ·rw [List.mem_singleton.1 q];exact yo
   ·have:=zoS (p:=B.ph) (pd:=B.pd) (by omega) h0 e1 p0 d0 (zpB _) (by rw [e10];exact dz)
    exact this
 by_cases ho:(A l).ow=0
 ·rw [if_pos ho,hlen] at hwr
  exact key _ _ (.wr0 n hn h0 hw hb ho) rfl rfl rfl rfl rfl rfl rfl rfl rfl rfl (wG0 3) rfl rfl ⟨zet (s:=0) (n:=n) (l:=l) (a:=np (zz0 (A l) n)) (by omega) (by omega) (by omega) (by omega) true false hu,rfl⟩ hwr
 rw [if_neg ho] at hwr
 by_cases ho1:(A l).ow=n + 1
 ·rw [if_pos ho1,hlen] at hwr
  exact key _ _ (.wr1 n hn h0 hw hb ho1) rfl rfl rfl rfl rfl rfl rfl rfl rfl rfl (wG0 3) rfl rfl ⟨zet (s:=0) (n:=n) (l:=l) (a:=np (zz0 (A l) n)) (by omega) (by omega) (by omega) (by omega) true true u0,rfl⟩ hwr
 ·rw [if_neg ho1,hlen] at hwr
  exact key _ _ (.wr2 n hn h0 hw hb ((A l).ow - 1) (by omega) (by omega)) rfl rfl rfl rfl rfl rfl rfl rfl rfl rfl (Nat.le_succ 2) rfl rfl ⟨zxs (o:=(A l).ow - 1) (n:=n) (l:=l) (a:=np (zz0 (A l) n)) (by omega) (by omega) (by omega) (by omega) true,rfl⟩ hwr
end
end Go.Proofs.Ytlgjbfdojbmmgaa
