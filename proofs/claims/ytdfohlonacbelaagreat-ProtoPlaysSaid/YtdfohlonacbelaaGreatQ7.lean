import Derived.Test.YtdfohlonacbelaaGreatQ6
set_option linter.unusedSimpArgs false
set_option linter.unusedVariables false
namespace Go.Proofs.YtdfohlonacbelaaGreat
open Go.SX
theorem zk1 {α:Type}(o:Option α):(o.bind fun v=>some v)=o:=by cases o<;>rfl
theorem zvu {p:Proto}{n:Nat}(hn:n<(Proto.Wait p).length) (hb:Wait.Back (Proto.Wait p)[n]=false):zdq p (n:Int)=zaZ p (Msg.mk (if Wait.Write (Proto.Wait p)[n]=true then 2 else 1) (w64 ((n:Int) + 1)) 0 (w64 (Wait.Line (Proto.Wait p)[n] - 1)) (w64 ((n:Int) + 1)) 0 false 0 0):=by
 unfold zdq
 simp only [zac hn,wC0,hb,wA0,if_false,zk1]
 cases Wait.Write (Proto.Wait p)[n]<;>rfl
theorem zqn {p:Proto}{n l:Nat}(hn:n<(Proto.Wait p).length) (hb:Wait.Back (Proto.Wait p)[n]=true) (hl:w64 (Wait.Line (Proto.Wait p)[n] - 1)=(l:Int)) (hv:n<(Proto.Val p).length) (hr:l<(Proto.Val p)[n].length):zdq p (n:Int)=zaZ p (Msg.mk 8 (w64 ((n:Int) + 1)) 0 (l:Int) 0 0 false 0 (Proto.Val p)[n][l]):=by
 unfold zdq
 simp only [zac hn,zac hv,hl,zac hr,wC0,hb,if_true,zk1]
theorem zuE {p:Proto}(hr:zds p=true) {a:Nat}(ha:a<(Proto.Wait p).length):decide ((0:Int)<Wait.Line (Proto.Wait p)[a])=!decide (Wait.Line (Proto.Wait p)[a]=0):=by
 have:=(zcm hr).wt a ha
 unfold zdC at this
 simp only [wD0,vG0] at this
 by_cases h0:Wait.Line (Proto.Wait p)[a]=0
 ·rw [vC0 h0,vD0 (by omega)];rfl
 ·rw [vD0 h0,vC0 (by omega)];rfl
theorem zsm {p:Proto}(hr:zds p=true):∃ x,zcL (Proto.Pool p)=some x∧x=64 - ((Pool.Frames (Proto.Pool p)).length:Int)∧decide (x=0)=decide ((64:Int)≤((Pool.Frames (Proto.Pool p)).length:Int)):=by
 have hp:=(zcm hr).po
 have h64:=(zbK.1 hp).1
 refine ⟨_,zeu _ (by omega),by rw [if_pos hp],?_⟩
 rw [if_pos hp,decide_eq_decide]
 omega
theorem zuJ {h b:Nat}(hb:b<h) {w:Wait}(hl:Wait.Line w=(b:Int) + 1) (hn:Wait.Need w=0) (hg:Wait.Got w=0):zdC h w=true:=by
 unfold zdC
 rw [hl,hn,hg]
 simp only [wD0,vG0]
 omega
theorem zyf {F:Prop}{p:Proto}(h:zAM F p) (hs:zff p) (n line:Int) (w:Bool):∃ q e,zhI p n line w=some (q,e)∧zmp p n line w=some (q,e)∧zAM F q:=by
 unfold zhI zmp
 simp only [zyD h,zyw h,zyK h,zyA h,zqP h,zrr h,zrj h,zqp hs,zkp hs,wC0]
 cases ht:zgH p n line
 ·exact ⟨_,_,rfl,rfl,h⟩
 obtain ⟨hr,a,b,rfl,rfl,ha,hb⟩:=zng ht
 have R:=zcm hr
 obtain ⟨v,h1,h2⟩:=zvv hs hr ha hb w
 simp only [h1,h2,zac ha,wC0,wH0,wA0,if_false,zuE hr ha]
 cases hl:decide (Wait.Line (Proto.Wait p)[a]=0)
 ·exact ⟨_,_,rfl,rfl,h⟩
 simp only [wH0,wA0,if_false,wC0]
 cases v
 rotate_left
 ·exact ⟨_,_,rfl,rfl,h⟩
 obtain ⟨x,hx,hxe,hx0⟩:=zsm hr
 simp only [wA0,if_false,hx,hx0,wC0]
 cases h64:decide ((64:Int)≤((Pool.Frames (Proto.Pool p)).length:Int))
 rotate_left
 ·exact ⟨_,_,rfl,rfl,h⟩
 simp only [wA0,if_false]
 obtain ⟨w',hw'⟩:∃ w':Wait,w'=Wait.mk (w64 ((b:Int) + (1:Int))) w false false false false (0:Int) (0:Int) (0:Int):=⟨_,rfl⟩
 rw [← hw',ziX h ha]
 have hw0:U32 (Wait.Val w'):=by rw [hw'];exact ⟨by show (0:Int)≤0;omega,by show (0:Int)<4294967296;omega⟩
 have hnew:zdC (Proto.Home p).length w'=true:=zuJ hb (by rw [hw'];exact zaV (by have:=R.h16;omega) (by have:=R.h16;omega)) (by rw [hw'];rfl) (by rw [hw'];rfl)
 have g1:=zfW h a hw0 (fun _=>hnew)
 have ha':a<((Proto.Wait p).set a w').length:=by rw [vQ0];exact ha
 have hget:((Proto.Wait p).set a w')[a]=w':=List.getElem_set_self ha'
 have hbk:Wait.Back w'=false:=by rw [hw'];rfl
 have hwr:Wait.Write w'=w:=by rw [hw'];rfl
 have ask:=zvu (p:=Proto.mk (Proto.State p) (Proto.Val p) ((Proto.Wait p).set a w') (Proto.Home p) (Proto.Dir p) (Proto.Busy p) (Proto.Pool p)) (n:=a) ha' (by show Wait.Back ((Proto.Wait p).set a w')[a]=false;rw [hget];exact hbk)
 obtain ⟨q,e,s1,s2,s3⟩:=zcO g1 (Msg.mk (if Wait.Write w'=true then 2 else 1) (w64 ((a:Int) + 1)) 0 (w64 (Wait.Line w' - 1)) (w64 ((a:Int) + 1)) 0 false 0 0) ⟨by show (0:Int)≤0;omega,by show (0:Int)<4294967296;omega⟩ ⟨by show (0:Int)≤0;omega,by show (0:Int)<4294967296;omega⟩
 have ask2:=(ask.trans (by show zaZ _ (Msg.mk (if Wait.Write ((Proto.Wait p).set a w')[a]=true then 2 else 1) _ _ (w64 (Wait.Line ((Proto.Wait p).set a w')[a] - 1)) _ _ _ _ _)=_;rw [hget])).trans s2
 refine ⟨_,0,?_,by simp only [wC0,ask2],zbD g1 s3⟩
 have s1':zae (Pool.mk (Pool.Frames (Proto.Pool p))) (Msg.mk (if Wait.Write w'=true then 2 else 1) (w64 ((a:Int) + 1)) 0 (w64 (Wait.Line w' - 1)) (w64 ((a:Int) + 1)) 0 false 0 0)=some (q,e):=s1
 simp only [zaz ha,zaD ha,zaz ha',zac ha',hget,wC0,hbk,wA0,if_false]
 cases hc:Wait.Write w'
 ·rw [hc] at s1'
  simp only [wA0,if_false] at s1'
  simp only [cond_false,s1',wC0]
  rfl
 ·rw [hc] at s1'
  simp only [if_true] at s1'
  simp only [cond_true,Msg.setKind,Msg.mk,wC0] at s1' ⊢
  simp only [s1',wC0]
  rfl
theorem zwm {F:Prop}{p:Proto}(h:zAM F p) (hs:zff p) (n line:Int):∃ q e,zfZ p n line=some (q,e)∧zkf p n line=some (q,e)∧zAM F q:=by
 unfold zfZ zkf
 simp only [e1,e2,e3,e4,zyD h,zyw h,zyK h,zyA h,zqP h,zrr h,zrj h,zqp hs,zkp hs,wC0]
 cases ht:zgH p n line
 ·exact ⟨_,_,rfl,rfl,h⟩
 obtain ⟨hr,a,b,rfl,rfl,ha,hb⟩:=zng ht
 have R:=zcm hr
 have hst:a<(Proto.State p).length:=by rw [R.st];exact ha
 have hsl:b<(Proto.State p)[a].length:=by rw [R.sr];exact hb
 have hva:a<(Proto.Val p).length:=by rw [R.va];exact ha
 have hvl:b<(Proto.Val p)[a].length:=by rw [R.vr];exact hb
 simp only [zac ha,zac hst,zac hsl,wC0,wH0,wA0,if_false,zuE hr ha]
 cases hl:decide (Wait.Line (Proto.Wait p)[a]=0)
 ·exact ⟨_,_,rfl,rfl,h⟩
 simp only [wH0,wA0,if_false,wC0]
 cases h0:decide ((Proto.State p)[a][b]=0)
 rotate_left
 ·exact ⟨_,_,rfl,rfl,h⟩
 simp only [wA0,if_false]
 cases hS:decide ((Proto.State p)[a][b]=1)
 rotate_left
 ·simp only [if_true,zaz hst,zaz hsl,zac hst,zaD hsl,zaD hst,wC0,zgf h hst hsl]
  exact ⟨_,_,rfl,rfl,zd5 h hst b 0 (fun _=>rfl)⟩
 obtain ⟨x,hx,hxe,hx0⟩:=zsm hr
 simp only [wA0,if_false,hx,hx0,wC0]
 cases h64:decide ((64:Int)≤((Pool.Frames (Proto.Pool p)).length:Int))
 rotate_left
 ·exact ⟨_,_,rfl,rfl,h⟩
 simp only [wA0,if_false]
 obtain ⟨w',hw'⟩:∃ w':Wait,w'=Wait.mk (w64 ((b:Int) + (1:Int))) false true false false false (0:Int) (0:Int) (0:Int):=⟨_,rfl⟩
 rw [← hw',ziX h ha]
 have hw0:U32 (Wait.Val w'):=by rw [hw'];exact ⟨by show (0:Int)≤0;omega,by show (0:Int)<4294967296;omega⟩
 have hnew:zdC (Proto.Home p).length w'=true:=zuJ hb (by rw [hw'];exact zaV (by have:=R.h16;omega) (by have:=R.h16;omega)) (by rw [hw'];rfl) (by rw [hw'];rfl)
 have g1:=zfW h a hw0 (fun _=>hnew)
 have ha':a<((Proto.Wait p).set a w').length:=by rw [vQ0];exact ha
 have hget:((Proto.Wait p).set a w')[a]=w':=List.getElem_set_self ha'
 have hbk:Wait.Back w'=true:=by rw [hw'];rfl
 have h16:=R.h16
 have hli:w64 (Wait.Line w' - 1)=(b:Int):=by
  have:Wait.Line w'=((b:Int) + 1):=by rw [hw'];exact zaV (by omega) (by omega)
  rw [this,zaV (by omega) (by omega)]
  omega
 have ask:=zqn (p:=Proto.mk (Proto.State p) (Proto.Val p) ((Proto.Wait p).set a w') (Proto.Home p) (Proto.Dir p) (Proto.Busy p) (Proto.Pool p)) (n:=a) (l:=b) ha' (by show Wait.Back ((Proto.Wait p).set a w')[a]=true;rw [hget];exact hbk) (by show w64 (Wait.Line ((Proto.Wait p).set a w')[a] - 1)=_;rw [hget];exact hli) hva hvl
 obtain ⟨q,e,s1,s2,s3⟩:=zcO g1 (Msg.mk 8 (w64 ((a:Int) + 1)) 0 (b:Int) 0 0 false 0 (Proto.Val p)[a][b]) ⟨by show (0:Int)≤0;omega,by show (0:Int)<4294967296;omega⟩ (h.vw _ (List.getElem_mem hva) _ (List.getElem_mem hvl))
 have ask2:=ask.trans s2
 refine ⟨_,0,?_,by simp only [wC0,ask2],zbD g1 s3⟩
 have s1':zae (Pool.mk (Pool.Frames (Proto.Pool p))) (Msg.mk 8 (w64 ((a:Int) + 1)) 0 (b:Int) 0 0 false 0 (Proto.Val p)[a][b])=some (q,e):=s1
 simp only [zaz ha,zaD ha,zaz ha',zac ha',hget,wC0,hbk,if_true,hli]
 simp only [Msg.setKind,Msg.setFor,Msg.setVal,Msg.mk,Msg.Line] at s1' ⊢
 simp only [zaz hva,zaz hvl,zac hva,zac hvl,wC0,s1']
 rfl
end Go.Proofs.YtdfohlonacbelaaGreat
