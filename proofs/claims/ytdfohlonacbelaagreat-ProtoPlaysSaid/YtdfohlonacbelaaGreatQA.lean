import Derived.Test.YtdfohlonacbelaaGreatQ9
set_option linter.unusedSimpArgs false
set_option linter.unusedVariables false
set_option maxRecDepth 100000
namespace Go.Proofs.YtdfohlonacbelaaGreat
open Go.SX
theorem zv3 {e:Entry}{c:Int}(hm:zAP e c=true) (ho:0<Entry.Owner e):∃ a,zbT e=some a∧(zcD e (-1:Int)).bind (fun v24=>some (decide ((List.length v24:Int)=(0:Int))))=some a:=by
 have m:=zbM.1 hm
 obtain ⟨⟨m1,m2,m3,m4,m5⟩,m6⟩:=m
 refine ⟨_,zpb e,?_⟩
 rw [zgt e _ (by omega)]
 unfold ztn
 rw [m3,hm,vC0 ho,vC1,vC1]
 simp only [wC0]
 congr 1
 rw [decide_eq_decide]
 constructor
 ·intro q hmem
  obtain ⟨i,hi,hx⟩:=List.mem_iff_getElem.1 hmem
  have q0:zaP (Entry.Share e) (-1) (Entry.Share e).length=[]:=vO0 (by omega)
  exact zgm q0 i hi (by omega) (by rw [wF0 hi,hx])
 ·intro q
  cases hl:zaP (Entry.Share e) (-1) (Entry.Share e).length with
  | nil=>rfl
  | cons x r =>
   obtain ⟨j,_,hj,hx,_⟩:=zi8 (x:=x) (l:=Entry.Share e) (n:=-1) (k:=(Entry.Share e).length) (by rw [hl];exact List.mem_cons_self)
   exact absurd (List.mem_of_getElem? hx) q
def zBD (m:Msg) (x:Int):Msg:=Msg.mk (4:Int) (0:Int) (w64 (x + (1:Int))) (Msg.Line m) (Msg.From m) (0:Int) false (0:Int) (0:Int)
noncomputable def zzO (po:Pool) (m:Msg):Pool:=((zae po m).getD (po,0)).1
noncomputable def invS (m:Msg) (L:List Int) (po:Pool) (i:Nat):Pool:=(L.take i).foldl (fun q x=>zzO q (zBD m x)) po
theorem zyp {po q:Pool}{m:Msg}{e:Int}(h:zae po m=some (q,e)):zzO po m=q:=by unfold zzO;rw [h];rfl
theorem zw5 {st va:List (List Int)}{wa:List Wait}{ho:List Int}{di:List Entry}{bu:List Int}{po:Pool}{F:Prop}(h:zAM F (Proto.mk st va wa ho di bu po)) (m:Msg) (L:List Int) (hL:L.length≤1000) :
  ∃ q,zaf (za9 m L (List.length L:Int)) ((0:Int),po)=some q∧zaf (zce m L) ((0:Int),Proto.mk st va wa ho di bu po)=some (Proto.mk st va wa ho di bu q)∧GP F q:=by
 have step:∀ i (hi:i<L.length),GP F (invS m L po i)→∃ e,zae (invS m L po i) (zBD m L[i])=some (invS m L po (i + 1),e)∧zaZ (Proto.mk st va wa ho di bu (invS m L po i)) (zBD m L[i])=some (Proto.mk st va wa ho di bu (invS m L po (i + 1)))∧GP F (invS m L po (i + 1)):=fun i hi hg=>by
  have g1:=zbD h hg
  simp only [ps,pv,pw,ph,pd,pb,pp] at g1
  obtain ⟨q,e,q1,q2,q3⟩:=zcO g1 (zBD m L[i]) u0 u0
  simp only [ps,pv,pw,ph,pd,pb,pp] at q1 q2
  have hq:invS m L po (i + 1)=q:=by
   unfold invS
   rw [zaY hi,List.foldl_append]
   exact zyp q1
  rw [hq]
  exact ⟨e,q1,q2,q3⟩
 have good:∀ i,i≤L.length→GP F (invS m L po i):=fun i=>by
  induction i with
  | zero=>intro _;exact ⟨h.po,fun f=>(h.rt f).po⟩
  | succ i ih=>intro hi;obtain ⟨_,_,_,g⟩:=step i (by omega) (ih (by omega));exact g
 have l1:=zaF (f:=za9 m L (List.length L:Int)) (n:=L.length) (e:=invS m L po L.length) (fun i=>((i:Int),invS m L po i)) (fun i hi=>by
  obtain ⟨e,s1,s2,s3⟩:=step i hi (good i (by omega))
  unfold zBD at s1
  unfold za9
  simp only [show (i:Int)<(List.length L:Int) by omega,vE0,if_true,zac hi,wC0,s1,zas (show i<4611686018427387904 by omega)]) (by
  unfold za9
  simp only [show ¬ (L.length:Int)<(List.length L:Int) by omega,vF0,wA0,if_false])
 have l2:=zaF (f:=zce m L) (n:=L.length) (e:=Proto.mk st va wa ho di bu (invS m L po L.length)) (fun i=>((i:Int),Proto.mk st va wa ho di bu (invS m L po i))) (fun i hi=>by
  obtain ⟨e,s1,s2,s3⟩:=step i hi (good i (by omega))
  unfold zBD at s2
  unfold zce
  simp only [show (i:Int)<(List.length L:Int) by omega,vE0,if_true,zac hi,wC0,s2,zas (show i<4611686018427387904 by omega)]) (by
  unfold zce
  simp only [show ¬ (L.length:Int)<(List.length L:Int) by omega,vF0,wA0,if_false])
 exact ⟨invS m L po L.length,l1,l2,good _ (wG0 _)⟩
end Go.Proofs.YtdfohlonacbelaaGreat
