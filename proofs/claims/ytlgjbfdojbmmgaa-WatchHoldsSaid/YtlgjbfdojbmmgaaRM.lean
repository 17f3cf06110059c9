/- Each thing that happens to a line keeps what holds. No condition. -/
import Derived.Test.YtlgjbfdojbmmgaaRL
set_option linter.unusedSimpArgs false
set_option linter.unusedVariables false
set_option maxHeartbeats 800000
namespace Go.Proofs.Ytlgjbfdojbmmgaa
theorem zxL {c:Nat}{A:AL}{v:Int}(h:Iv c A v) {n:Nat}(hn:n<c) (h0:A.wk n=0) (h1:A.st n=0):Iv c { A with wk:=up A.wk n 1,tk:=up A.tk n 1 } v:=by
 obtain ⟨c4,rg,bz,s4,t0,op,tw,t3,k1,k2,k3,so,o1,o2,f1,f2,wr,rd,s1,p1,p2,ct,a4,vv,hv,ev,tq,pq,kk,x1⟩:=h
 constructor<;>(try dsimp only)
 all_goals (try simp only [up])<;>grind (splits:=25)
theorem zxA {c:Nat}{A:AL}{v:Int}(h:Iv c A v) {n:Nat}(hn:n<c) (h0:A.wk n=0) (h1:A.st n≠2∧A.st n≠3):Iv c { A with wk:=up A.wk n 2,tk:=up A.tk n 1 } v:=by
 obtain ⟨c4,rg,bz,s4,t0,op,tw,t3,k1,k2,k3,so,o1,o2,f1,f2,wr,rd,s1,p1,p2,ct,a4,vv,hv,ev,tq,pq,kk,x1⟩:=h
 constructor<;>(try dsimp only)
 all_goals (try simp only [up])<;>grind (splits:=25)
theorem zyK {c:Nat}{A:AL}{v:Int}(h:Iv c A v) {n:Nat}(hn:n<c) (h0:A.wk n=0) (h1:A.st n=1):Iv c { A with st:=up A.st n 0 } v:=by
 obtain ⟨c4,rg,bz,s4,t0,op,tw,t3,k1,k2,k3,so,o1,o2,f1,f2,wr,rd,s1,p1,p2,ct,a4,vv,hv,ev,tq,pq,kk,x1⟩:=h
 constructor<;>(try dsimp only)
 all_goals (try simp only [up])<;>grind (splits:=25)
theorem zy8 {c:Nat}{A:AL}{v:Int}(h:Iv c A v) {n:Nat}(hn:n<c) (h0:A.wk n=0) (h1:2≤A.st n):Iv c { A with wk:=up A.wk n 3,tk:=up A.tk n 1,tv:=up A.tv n (A.va n) } v:=by
 obtain ⟨c4,rg,bz,s4,t0,op,tw,t3,k1,k2,k3,so,o1,o2,f1,f2,wr,rd,s1,p1,p2,ct,a4,vv,hv,ev,tq,pq,kk,x1⟩:=h
 constructor<;>(try dsimp only)
 all_goals (try simp only [up])<;>grind (splits:=25)
theorem zzx {c:Nat}{A:AL}{v:Int}(h:Iv c A v) {n:Nat}(hn:n<c) (h0:A.wk n=0) (h1:A.st n=2∨A.st n=3) (w:Int):Iv c { A with st:=up A.st n 3,va:=up A.va n w } w:=by
 obtain ⟨c4,rg,bz,s4,t0,op,tw,t3,k1,k2,k3,so,o1,o2,f1,f2,wr,rd,s1,p1,p2,ct,a4,vv,hv,ev,tq,pq,kk,x1⟩:=h
 constructor<;>(try dsimp only)
 case hv=>(intro q;exfalso;have q1:=o2 n (by omega);have q2:=t0 n h0;refine (zse A).elim (fun hb=>by omega) (fun ⟨j,hj⟩=>?_);have q3:=f2 (by omega);have q4:=q3.2.2.2 j hj;have q5:=wr j hj (by omega) q4;omega)
 all_goals (try simp only [up])<;>grind (splits:=25)
theorem zyg {c:Nat}{A:AL}{v:Int}(h:Iv c A v) {n:Nat}(hn:n<c) (h0:A.tk n=1):Iv c { A with tk:=up A.tk n 2 } v:=by
 obtain ⟨c4,rg,bz,s4,t0,op,tw,t3,k1,k2,k3,so,o1,o2,f1,f2,wr,rd,s1,p1,p2,ct,a4,vv,hv,ev,tq,pq,kk,x1⟩:=h
 constructor<;>(try dsimp only)
 all_goals (try simp only [up])<;>grind (splits:=25)
theorem zxl {c:Nat}{A:AL}{v:Int}(h:Iv c A v) {n:Nat}(hn:n<c) (h0:A.tk n=2) (h1:A.wk n≠3):Iv c { A with tk:=up A.tk n 1 } v:=by
 obtain ⟨c4,rg,bz,s4,t0,op,tw,t3,k1,k2,k3,so,o1,o2,f1,f2,wr,rd,s1,p1,p2,ct,a4,vv,hv,ev,tq,pq,kk,x1⟩:=h
 constructor<;>(try dsimp only)
 all_goals (try simp only [up])<;>grind (splits:=25)
theorem zwk {c:Nat}{A:AL}{v:Int}(h:Iv c A v) {n:Nat}(hn:n<c) (h0:A.tk n=2) (h1:A.wk n=3) (h2:2≤A.st n):Iv c { A with tk:=up A.tk n 1,tv:=up A.tv n (A.va n) } v:=by
 obtain ⟨c4,rg,bz,s4,t0,op,tw,t3,k1,k2,k3,so,o1,o2,f1,f2,wr,rd,s1,p1,p2,ct,a4,vv,hv,ev,tq,pq,kk,x1⟩:=h
 constructor<;>(try dsimp only)
 all_goals (try simp only [up])<;>grind (splits:=25)
theorem zyq {c:Nat}{A:AL}{v:Int}(h:Iv c A v) {n:Nat}(hn:n<c) (h0:A.tk n=2) (h1:A.wk n=3) (h2:A.st n=0):Iv c { A with tk:=up A.tk n 0,wk:=up A.wk n 0 } v:=by
 obtain ⟨c4,rg,bz,s4,t0,op,tw,t3,k1,k2,k3,so,o1,o2,f1,f2,wr,rd,s1,p1,p2,ct,a4,vv,hv,ev,tq,pq,kk,x1⟩:=h
 constructor<;>(try dsimp only)
 all_goals (try simp only [up])<;>grind (splits:=25)
theorem zzl {c:Nat}{A:AL}{v:Int}(h:Iv c A v) {n:Nat}(hn:n<c) (h0:A.tk n=1) (h1:A.wk n=3) (hb:A.bu=0) (h2:A.ow=n + 1):Iv c { A with tk:=up A.tk n 3,ow:=0,ho:=A.tv n } v:=by
 obtain ⟨c4,rg,bz,s4,t0,op,tw,t3,k1,k2,k3,so,o1,o2,f1,f2,wr,rd,s1,p1,p2,ct,a4,vv,hv,ev,tq,pq,kk,x1⟩:=h
 constructor<;>(try dsimp only)
 all_goals (try simp only [up])<;>grind (splits:=25)
theorem zyv {c:Nat}{A:AL}{v:Int}(h:Iv c A v) {n:Nat}(hn:n<c) (h0:A.tk n=1) (h1:A.wk n=3) (hb:A.bu=0) (h2:A.ow≠n + 1):Iv c { A with tk:=up A.tk n 3 } v:=by
 obtain ⟨c4,rg,bz,s4,t0,op,tw,t3,k1,k2,k3,so,o1,o2,f1,f2,wr,rd,s1,p1,p2,ct,a4,vv,hv,ev,tq,pq,kk,x1⟩:=h
 constructor<;>(try dsimp only)
 all_goals (try simp only [up])<;>grind (splits:=25)
theorem zy9 {c:Nat}{A:AL}{v:Int}(h:Iv c A v) {n:Nat}(hn:n<c) (h0:A.tk n=3):Iv c { A with tk:=up A.tk n 0,wk:=up A.wk n 0,st:=up A.st n 0 } v:=by
 obtain ⟨c4,rg,bz,s4,t0,op,tw,t3,k1,k2,k3,so,o1,o2,f1,f2,wr,rd,s1,p1,p2,ct,a4,vv,hv,ev,tq,pq,kk,x1⟩:=h
 constructor<;>(try dsimp only)
 all_goals (try simp only [up])<;>grind (splits:=25)
theorem zzv {c:Nat}{A:AL}{v:Int}(h:Iv c A v) {n:Nat}(hn:n<c) (h0:A.tk n=1) (h1:A.wk n=1) (hb:A.bu=0) (h2:A.ow=0) (h3:∀ k,k≠n→A.sh k=false):Iv c { A with tk:=up A.tk n 0,bu:=n + 1,ow:=n + 1,sh:=up A.sh n false,ph:=3,ac:=0,got:=0,own:=true,kp:=false,pv:=A.ho,sr:=0 } v:=by
 obtain ⟨c4,rg,bz,s4,t0,op,tw,t3,k1,k2,k3,so,o1,o2,f1,f2,wr,rd,s1,p1,p2,ct,a4,vv,hv,ev,tq,pq,kk,x1⟩:=h
 constructor<;>(try dsimp only)
 case ct=>have pz:np A.pd=0:=(zvT fun k=>by have:=p1 k;omega);omega
 all_goals (try simp only [up])<;>grind (splits:=25)
theorem zzA {c:Nat}{A:AL}{v:Int}(h:Iv c A v) {n:Nat}(hn:n<c) (h0:A.tk n=1) (h1:A.wk n=1) (hb:A.bu=0) (h2:A.ow=0) (h3:∃ k,k≠n∧A.sh k=true):Iv c { A with tk:=up A.tk n 0,bu:=n + 1,sh:=up A.sh n true,ph:=3,ac:=0,got:=0,own:=false,kp:=false,pv:=A.ho,sr:=0 } v:=by
 obtain ⟨c4,rg,bz,s4,t0,op,tw,t3,k1,k2,k3,so,o1,o2,f1,f2,wr,rd,s1,p1,p2,ct,a4,vv,hv,ev,tq,pq,kk,x1⟩:=h
 constructor<;>(try dsimp only)
 case ct=>have pz:np A.pd=0:=(zvT fun k=>by have:=p1 k;omega);omega
 all_goals (try simp only [up])<;>grind (splits:=25)
theorem zzz {c:Nat}{A:AL}{v:Int}(h:Iv c A v) {n:Nat}(hn:n<c) (h0:A.tk n=1) (h1:A.wk n=1) (hb:A.bu=0) {o:Nat}(h2:A.ow=o + 1):Iv c { A with tk:=up A.tk n 0,bu:=n + 1,sh:=up A.sh n true,ph:=1,ac:=0,got:=0,fo:=o } v:=by
 obtain ⟨c4,rg,bz,s4,t0,op,tw,t3,k1,k2,k3,so,o1,o2,f1,f2,wr,rd,s1,p1,p2,ct,a4,vv,hv,ev,tq,pq,kk,x1⟩:=h
 constructor<;>(try dsimp only)
 case ct=>have pz:np A.pd=0:=(zvT fun k=>by have:=p1 k;omega);omega
 all_goals (try simp only [up])<;>grind (splits:=25)
theorem zzh {c:Nat}{A:AL}{v:Int}(h:Iv c A v) {n:Nat}(hn:n<c) (h0:A.tk n=1) (h1:A.wk n=2) (hb:A.bu=0) (h2:A.ow=0) (b:Bool):Iv c { A with sh:=fun _=>false,ow:=n + 1,tk:=up A.tk n 0,bu:=n + 1,pd:=fun k=>if k≠n∧A.sh k=true then 1 else 0,ac:=np (fun k=>if k≠n∧A.sh k=true then 1 else 0),got:=0,ph:=3,own:=b,kp:=false,pv:=A.ho,sr:=0 } v:=by
 obtain ⟨c4,rg,bz,s4,t0,op,tw,t3,k1,k2,k3,so,o1,o2,f1,f2,wr,rd,s1,p1,p2,ct,a4,vv,hv,ev,tq,pq,kk,x1⟩:=h
 constructor<;>(try dsimp only)
 case a4=>exact ⟨zv8 _,by omega⟩
 all_goals (try simp only [up])<;>grind (splits:=25)
theorem zzy {c:Nat}{A:AL}{v:Int}(h:Iv c A v) {n:Nat}(hn:n<c) (h0:A.tk n=1) (h1:A.wk n=2) (hb:A.bu=0) (h2:A.ow=n + 1) (b:Bool):Iv c { A with sh:=fun _=>false,ow:=n + 1,tk:=up A.tk n 0,bu:=n + 1,pd:=fun k=>if k≠n∧A.sh k=true then 1 else 0,ac:=np (fun k=>if k≠n∧A.sh k=true then 1 else 0),got:=0,ph:=3,own:=b,kp:=true,pv:=0,sr:=0 } v:=by
 obtain ⟨c4,rg,bz,s4,t0,op,tw,t3,k1,k2,k3,so,o1,o2,f1,f2,wr,rd,s1,p1,p2,ct,a4,vv,hv,ev,tq,pq,kk,x1⟩:=h
 constructor<;>(try dsimp only)
 case a4=>exact ⟨zv8 _,by omega⟩
 all_goals (try simp only [up])<;>grind (splits:=25)
theorem zzu {c:Nat}{A:AL}{v:Int}(h:Iv c A v) {n:Nat}(hn:n<c) (h0:A.tk n=1) (h1:A.wk n=2) (hb:A.bu=0) {o:Nat}(h2:A.ow=o + 1) (h3:o≠n):Iv c { A with sh:=fun _=>false,ow:=n + 1,tk:=up A.tk n 0,bu:=n + 1,pd:=fun k=>if k≠n∧A.sh k=true then 1 else 0,ac:=np (fun k=>if k≠n∧A.sh k=true then 1 else 0),got:=0,ph:=2,fo:=o } v:=by
 obtain ⟨c4,rg,bz,s4,t0,op,tw,t3,k1,k2,k3,so,o1,o2,f1,f2,wr,rd,s1,p1,p2,ct,a4,vv,hv,ev,tq,pq,kk,x1⟩:=h
 constructor<;>(try dsimp only)
 case a4=>exact ⟨zv8 _,by omega⟩
 all_goals (try simp only [up])<;>grind (splits:=25)
theorem zBi {c:Nat}{A:AL}{v:Int}(h:Iv c A v) {n:Nat}(hn:n<c) (h0:A.ph=1) (h1:A.fo=n):Iv c { A with st:=up A.st n 4,ph:=3,own:=false,kp:=false,pv:=A.va n,sr:=n + 1 } v:=by
 obtain ⟨c4,rg,bz,s4,t0,op,tw,t3,k1,k2,k3,so,o1,o2,f1,f2,wr,rd,s1,p1,p2,ct,a4,vv,hv,ev,tq,pq,kk,x1⟩:=h
 constructor<;>(try dsimp only)
 all_goals (try simp only [up])<;>grind (splits:=25)
theorem zBr {c:Nat}{A:AL}{v:Int}(h:Iv c A v) {n:Nat}(hn:n<c) (h0:A.ph=2) (h1:A.fo=n):Iv c { A with st:=up A.st n 0,ph:=3,own:=true,kp:=false,pv:=A.va n,sr:=n + 1 } v:=by
 obtain ⟨c4,rg,bz,s4,t0,op,tw,t3,k1,k2,k3,so,o1,o2,f1,f2,wr,rd,s1,p1,p2,ct,a4,vv,hv,ev,tq,pq,kk,x1⟩:=h
 constructor<;>(try dsimp only)
 case o1=>(intro k q;refine (zse A).elim (fun hb=>by omega) (fun ⟨j,hj⟩=>?_);have q3:=f2 h0;have q4:=q3.2.2.2 j hj;have q5:=wr j hj (by omega) q4;right;omega)
 all_goals (try simp only [up])<;>grind (splits:=25)
theorem zwQ {c:Nat}{A:AL}{v:Int}(h:Iv c A v) {n:Nat}(hn:n<c) (h0:A.ph=3):Iv c { A with ph:=4 } v:=by
 obtain ⟨c4,rg,bz,s4,t0,op,tw,t3,k1,k2,k3,so,o1,o2,f1,f2,wr,rd,s1,p1,p2,ct,a4,vv,hv,ev,tq,pq,kk,x1⟩:=h
 constructor<;>(try dsimp only)
 all_goals (try simp only [up])<;>grind (splits:=25)
theorem zzo {c:Nat}{A:AL}{v:Int}(h:Iv c A v) {n:Nat}(hn:n<c) (h0:A.pd n=1):Iv c { A with pd:=up A.pd n 2,st:=up A.st n (if A.st n=1 then 0 else A.st n) } v:=by
 obtain ⟨c4,rg,bz,s4,t0,op,tw,t3,k1,k2,k3,so,o1,o2,f1,f2,wr,rd,s1,p1,p2,ct,a4,vv,hv,ev,tq,pq,kk,x1⟩:=h
 constructor<;>(try dsimp only)
 case ct=>have pz:np (up A.pd n 2)=np A.pd:=zzi ⟨by omega,by omega⟩;rw [pz];exact ct
 all_goals (try simp only [up])<;>grind (splits:=25)
theorem zy6 {c:Nat}{A:AL}{v:Int}(h:Iv c A v) {n:Nat}(hn:n<c) (h0:A.pd n=2):Iv c { A with pd:=up A.pd n 0,got:=A.got + 1 } v:=by
 obtain ⟨c4,rg,bz,s4,t0,op,tw,t3,k1,k2,k3,so,o1,o2,f1,f2,wr,rd,s1,p1,p2,ct,a4,vv,hv,ev,tq,pq,kk,x1⟩:=h
 constructor<;>(try dsimp only)
 case ct=>have pz:np (up A.pd n 0) + 1=np A.pd:=zwN (by omega) (by omega);grind
 case a4=>have pz:np (up A.pd n 0) + 1=np A.pd:=zwN (by omega) (by omega);have q1:=p1 n (by omega);have q2:=ct q1.2.2.1 q1.1;omega
 all_goals (try simp only [up])<;>grind (splits:=25)
theorem zwM {c:Nat}{A:AL}{v:Int}(h:Iv c A v) {n:Nat}(hn:n<c) (h0:A.ph=4) (h1:A.bu=n + 1) (h2:A.ac≤A.got):Iv c { A with ph:=5,wk:=up A.wk n 0,st:=up A.st n (if A.wk n=2 then 3 else if A.own=true then 2 else 1),va:=up A.va n (if A.kp=true then A.va n else A.pv) } v:=by
 obtain ⟨c4,rg,bz,s4,t0,op,tw,t3,k1,k2,k3,so,o1,o2,f1,f2,wr,rd,s1,p1,p2,ct,a4,vv,hv,ev,tq,pq,kk,x1⟩:=h
 constructor<;>(try dsimp only)
 case p1=>have pz:∀ k,A.pd k=0:=zup rg c4 (by have:=ct (by omega) (by omega);omega);grind (splits:=25) [up]
 case x1=>have pz:∀ k,A.pd k=0:=zup rg c4 (by have:=ct (by omega) (by omega);omega);grind (splits:=25) [up]
 all_goals (try simp only [up])<;>grind (splits:=25)
theorem zyl {c:Nat}{A:AL}{v:Int}(h:Iv c A v) {n:Nat}(hn:n<c) (h0:A.ph=5):Iv c { A with ph:=0,bu:=0 } v:=by
 obtain ⟨c4,rg,bz,s4,t0,op,tw,t3,k1,k2,k3,so,o1,o2,f1,f2,wr,rd,s1,p1,p2,ct,a4,vv,hv,ev,tq,pq,kk,x1⟩:=h
 constructor<;>(try dsimp only)
 all_goals (try simp only [up])<;>grind (splits:=25)
end Go.Proofs.Ytlgjbfdojbmmgaa
