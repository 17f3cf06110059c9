/- The law ProtoRight on typed data. -/
import Derived.Test.YtdfohlonacbelaaGreatQD
set_option linter.unusedSimpArgs false
set_option linter.unusedVariables false
set_option maxRecDepth 100000
namespace Go.Proofs.YtdfohlonacbelaaGreat
open Go.SX
theorem ztZ {p:Proto}(s:zxx p) (hv:∀ r∈Proto.Val p,∀ x∈r,U32 x) (hw:∀ w∈Proto.Wait p,U32 (Wait.Val w)) (hh:∀ x∈Proto.Home p,U32 x) (hf:∀ b∈Pool.Frames (Proto.Pool p),∀ x∈b,0≤x∧x<256):Ok10 p where
 st:=⟨by have:=s.sh.state;omega,fun r hr=>by have:=s.st r hr;omega⟩
 va:=⟨by have:=s.sh.val;omega,fun r hr=>by have:=s.va r hr;omega⟩
 vw:=hv
 wa:=by have:=s.sh.wait;omega
 ww:=hw
 ho:=by have:=s.sh.home;omega
 hw:=hh
 di:=⟨by have:=s.di.1;omega,fun r hr=>by have:=s.di.2 r hr;omega⟩
 bu:=by have:=s.bu;omega
 po:=⟨by have:=s.sh.frames;omega,fun b hb=>⟨by have:=s.fr b hb;omega,hf b hb⟩⟩
theorem zoT (p:Proto) (n line:Int) (w:Bool) (v i:Int) (hval:U32 v) (hv:∀ r∈Proto.Val p,∀ x∈r,U32 x) (hw:∀ w∈Proto.Wait p,U32 (Wait.Val w)) (hh:∀ x∈Proto.Home p,U32 x) (hf:∀ b∈Pool.Frames (Proto.Pool p),∀ x∈b,0≤x∧x<256):ze0 p n line w v i=some true:=by
 unfold ze0 zmR
 obtain ⟨s,hs,hS⟩:=zzO p
 simp only [hs,wC0,wH0,wA0,if_false]
 cases s
 ·rfl
 have S:=hS rfl
 have h:=ztZ S hv hw hh hf
 obtain ⟨q1,x1,a1,b1,o1⟩:=zrx h S.sh i
 obtain ⟨q2,x2,a2,b2,o2⟩:=zwZ h S.sh n line w
 obtain ⟨q3,x3,a3,b3,o3⟩:=zv6 h S.sh n line
 obtain ⟨q4,x4,a4,b4,o4⟩:=zx8 h S.sh n line v hval
 obtain ⟨t,t1,t2⟩:=zym S.sh n line w
 simp only [wH0,wA0,if_false,if_true,a1,b1,a2,b2,a3,b3,a4,b4,t1,t2,zkx o1,zkx o2,zkx o3,zkx o4,ze5 S.sh,zhm S.sh,wC0,decide_true]
 rcases zz1 S.sh n line with ⟨a,b,ha,hb,rfl,rfl,g1,g2⟩|⟨g1,g2|g2⟩
 ·simp only [g1,g2,zab ha,zab hb,wC0,decide_true,wH0,wA0,if_false,if_true]
 ·simp only [g1,g2,wC0,decide_true,wH0,Bool.not_false,wA0,if_false,if_true]
 ·simp only [g1,g2,wC0,decide_true,wH0,Bool.not_false,wA0,if_false,if_true,show decide ((8:Int)=1)=false from rfl]
theorem zqB (x:Ty.Tup zcj.ps) (h:OkL zcj.ps x):zcj.sem x=some true :=
 zoT x.1 x.2.1 x.2.2.1 x.2.2.2.1 x.2.2.2.2.1 x.2.2.2.2.2
  ⟨h.2.2.2.2.1.1,Int.lt_of_le_of_lt h.2.2.2.2.1.2 (by decide)⟩
  (fun r hr y hy=>by
   have:=(h.1.2.1.2 r hr).2 y hy
   exact ⟨this.1,Int.lt_of_le_of_lt this.2 (by decide)⟩)
  (fun w hw=>by
   have:=h.1.2.2.1.2 w hw
   exact ⟨this.2.2.2.2.2.2.2.2.1,Int.lt_of_le_of_lt this.2.2.2.2.2.2.2.2.2 (by decide)⟩)
  (fun y hy=>by
   have:=h.1.2.2.2.1.2 y hy
   exact ⟨this.1,Int.lt_of_le_of_lt this.2 (by decide)⟩)
  (fun b hb y hy=>by
   have:=(h.1.2.2.2.2.2.2.2 b hb).2 y hy
   exact ⟨this.1,Int.lt_of_le_of_lt this.2 (by decide)⟩)
end Go.Proofs.YtdfohlonacbelaaGreat
