/- The types of this cut, and its functions as functions of plain typed data. Printed by a program of this claim's prover; each is checked here to be what the executor makes of the code. -/
import Derived.Test.YtplfgkjjgflhkaaGreatProg
import Derived.Test.YtplfgkjjgflhkaaGreatLim
import Derived.KernelRfl
set_option linter.unusedVariables false
set_option maxRecDepth 100000
noncomputable section
namespace Go.Proofs.YtplfgkjjgflhkaaGreat
open Go.SX
def ql(i:Nat)(k:TA):TA:=.prim .len [.v i] k
def qg(i j:Nat)(k:TA):TA:=.prim .get [.v i,.v j] k
def qb(o:BinOp)(i j:Nat)(k:TA):TA:=.prim (.bin o) [.v i,.v j] k
def qk(o:BinOp)(i:Nat)(c:Int)(k:TA):TA:=.prim (.bin o) [.v i,.c (.int .i64 c)] k
def qe(i:Nat)(a b:TA):TA:=.ite (.v i) a b
def qr(l i:Nat):TA:=.jmp l true [.v i]
def qt(l:Nat)(b:Bool):TA:=.jmp l false [.c (.bool b)]
def qx(l:Nat):TA:=.jmp l false []
def qz(n:Int):At:=.c (.int .i64 n)
def qn(i:Nat)(k:TA):TA:=.prim (.un .not) [.v i] k
def qv(l:List Nat):List At:=l.map .v
def qf(j i:Nat)(k:TA):TA:=.prim (.fld j) [.v i] k
def qN:Nat→Nat→Nat→TA→TA
 |0,_,_,k=>k
 |n+1,j,i,k=>qf j i (qN n (j+1) i k)
def qc(b i:Nat)(k:TA):TA:=.prim (.clone b) [.v i] k
def qa(b i j:Nat)(k:TA):TA:=.prim (.app b) [.v i,.v j] k
def qj(l i:Nat):TA:=.jmp l false [.v i]
def qi(i j:Nat)(k:TA):TA:=.prim .idx [.v i,.v j] k
def qs(i j l:Nat)(k:TA):TA:=.prim .set [.v i,.v j,.v l] k
def qh(f i j:Nat)(k:TA):TA:=.prim (.setf f) [.v i,.v j] k
abbrev zFC:List Ty:=[.int .i64,.bool,.bool,.bool,.bool,.bool,.int .i64,.int .i64,.int .u32]
abbrev zd2:Ty:=.st zFC
abbrev Wait:Type:=Int×Bool×Bool×Bool×Bool×Bool×Int×Int×Int
def zbx (a:Int) (b c d e f:Bool) (g h i:Int):Wait:=(a,b,c,d,e,f,g,h,i)
def zaK (x:Wait):Int:=x.1
def zba (x:Wait):Bool:=x.2.1
def zbG (x:Wait):Bool:=x.2.2.1
def zcF (x:Wait):Bool:=x.2.2.2.1
def zhi (x:Wait):Bool:=x.2.2.2.2.1
def zeo (x:Wait):Bool:=x.2.2.2.2.2.1
def zbY (x:Wait):Int:=x.2.2.2.2.2.2.1
def zbf (x:Wait):Int:=x.2.2.2.2.2.2.2.1
def zcG (x:Wait):Int:=x.2.2.2.2.2.2.2.2
def zgA (x:Wait) (v:Bool):Wait:=(x.1,x.2.1,x.2.2.1,v,x.2.2.2.2.1,x.2.2.2.2.2.1,x.2.2.2.2.2.2.1,x.2.2.2.2.2.2.2.1,x.2.2.2.2.2.2.2.2)
def zhH (x:Wait) (v:Bool):Wait:=(x.1,x.2.1,x.2.2.1,x.2.2.2.1,v,x.2.2.2.2.2.1,x.2.2.2.2.2.2.1,x.2.2.2.2.2.2.2.1,x.2.2.2.2.2.2.2.2)
def zgy (x:Wait) (v:Bool):Wait:=(x.1,x.2.1,x.2.2.1,x.2.2.2.1,x.2.2.2.2.1,v,x.2.2.2.2.2.2.1,x.2.2.2.2.2.2.2.1,x.2.2.2.2.2.2.2.2)
def zgs (x:Wait) (v:Int):Wait:=(x.1,x.2.1,x.2.2.1,x.2.2.2.1,x.2.2.2.2.1,x.2.2.2.2.2.1,v,x.2.2.2.2.2.2.2.1,x.2.2.2.2.2.2.2.2)
def zkc (x:Wait) (v:Int):Wait:=(x.1,x.2.1,x.2.2.1,x.2.2.2.1,x.2.2.2.2.1,x.2.2.2.2.2.1,x.2.2.2.2.2.2.1,v,x.2.2.2.2.2.2.2.2)
def zhR (x:Wait) (v:Int):Wait:=(x.1,x.2.1,x.2.2.1,x.2.2.2.1,x.2.2.2.2.1,x.2.2.2.2.2.1,x.2.2.2.2.2.2.1,x.2.2.2.2.2.2.2.1,v)
@[simp] theorem Wait_dLine_mk a b c d e f g h i:zaK (zbx a b c d e f g h i)=a:=rfl
@[simp] theorem Wait_dWrite_mk a b c d e f g h i:zba (zbx a b c d e f g h i)=b:=rfl
@[simp] theorem Wait_dBack_mk a b c d e f g h i:zbG (zbx a b c d e f g h i)=c:=rfl
@[simp] theorem Wait_dCame_mk a b c d e f g h i:zcF (zbx a b c d e f g h i)=d:=rfl
@[simp] theorem Wait_dOwn_mk a b c d e f g h i:zhi (zbx a b c d e f g h i)=e:=rfl
@[simp] theorem Wait_dKeep_mk a b c d e f g h i:zeo (zbx a b c d e f g h i)=f:=rfl
@[simp] theorem Wait_dNeed_mk a b c d e f g h i:zbY (zbx a b c d e f g h i)=g:=rfl
@[simp] theorem Wait_dGot_mk a b c d e f g h i:zbf (zbx a b c d e f g h i)=h:=rfl
@[simp] theorem Wait_dVal_mk a b c d e f g h i:zcG (zbx a b c d e f g h i)=i:=rfl
@[simp] theorem Wait_deta (x:Wait):zbx (zaK x) (zba x) (zbG x) (zcF x) (zhi x) (zeo x) (zbY x) (zbf x) (zcG x)=x:=rfl
abbrev zs1:List Ty:=[.int .i64,.int .i64]
abbrev zdk:Ty:=.st zs1
abbrev zcl:Type:=Int×Int
def zbR (a b:Int):zcl:=(a,b)
def zk6 (x:zcl):Int:=x.1
def zmX (x:zcl):Int:=x.2
@[simp] theorem store_key_dspan_mk a b:zk6 (zbR a b)=a:=rfl
@[simp] theorem store_key_dat__mk a b:zmX (zbR a b)=b:=rfl
@[simp] theorem store_key_deta (x:zcl):zbR (zk6 x) (zmX x)=x:=rfl
abbrev zJO:List Ty:=[.bool,.bool,.int .i64]
abbrev tDid:Ty:=.st zJO
abbrev Did:Type:=Bool×Bool×Int
def zeZ (a b:Bool) (c:Int):Did:=(a,b,c)
def zc6 (x:Did):Bool:=x.1
def zeN (x:Did):Bool:=x.2.1
def zE9 (x:Did):Int:=x.2.2
def zhe (x:Did) (v:Bool):Did:=(v,x.2.1,x.2.2)
def zkp (x:Did) (v:Bool):Did:=(x.1,v,x.2.2)
def zqg (x:Did) (v:Int):Did:=(x.1,x.2.1,v)
@[simp] theorem Did_dRetired_mk a b c:zc6 (zeZ a b c)=a:=rfl
@[simp] theorem Did_dBack_mk a b c:zeN (zeZ a b c)=b:=rfl
@[simp] theorem Did_dTo_mk a b c:zE9 (zeZ a b c)=c:=rfl
@[simp] theorem Did_deta (x:Did):zeZ (zc6 x) (zeN x) (zE9 x)=x:=rfl
abbrev zIT:List Ty:=[.int .i64,.int .i64,.int .i64]
abbrev zri:Ty:=.st zIT
abbrev Event:Type:=Int×Int×Int
def zok (a b c:Int):Event:=(a,b,c)
def zaO (x:Event):Int:=x.1
def zbd (x:Event):Int:=x.2.1
def zfw (x:Event):Int:=x.2.2
@[simp] theorem Event_dKind_mk a b c:zaO (zok a b c)=a:=rfl
@[simp] theorem Event_dN_mk a b c:zbd (zok a b c)=b:=rfl
@[simp] theorem Event_dK_mk a b c:zfw (zok a b c)=c:=rfl
@[simp] theorem Event_deta (x:Event):zok (zaO x) (zbd x) (zfw x)=x:=rfl
abbrev zJS:List Ty:=[.int .i64,.int .i64,.int .i64,.int .i64,.int .u32]
abbrev tIns:Ty:=.st zJS
abbrev Ins:Type:=Int×Int×Int×Int×Int
def zqi (a b c d e:Int):Ins:=(a,b,c,d,e)
def zbk (x:Ins):Int:=x.1
def zlq (x:Ins):Int:=x.2.1
def zq0 (x:Ins):Int:=x.2.2.1
def zrj (x:Ins):Int:=x.2.2.2.1
def zmQ (x:Ins):Int:=x.2.2.2.2
@[simp] theorem Ins_dOp_mk a b c d e:zbk (zqi a b c d e)=a:=rfl
@[simp] theorem Ins_dA_mk a b c d e:zlq (zqi a b c d e)=b:=rfl
@[simp] theorem Ins_dB_mk a b c d e:zq0 (zqi a b c d e)=c:=rfl
@[simp] theorem Ins_dC_mk a b c d e:zrj (zqi a b c d e)=d:=rfl
@[simp] theorem Ins_dK_mk a b c d e:zmQ (zqi a b c d e)=e:=rfl
@[simp] theorem Ins_deta (x:Ins):zqi (zbk x) (zlq x) (zq0 x) (zrj x) (zmQ x)=x:=rfl
abbrev zId:List Ty:=[.int .i64,.int .u32]
abbrev ziI:Ty:=.st zId
abbrev Told:Type:=Int×Int
def zoE (a b:Int):Told:=(a,b)
def zwM (x:Told):Int:=x.1
def zyQ (x:Told):Int:=x.2
@[simp] theorem Told_dCore_mk a b:zwM (zoE a b)=a:=rfl
@[simp] theorem Told_dVal_mk a b:zyQ (zoE a b)=b:=rfl
@[simp] theorem Told_deta (x:Told):zoE (zwM x) (zyQ x)=x:=rfl
abbrev zmc:List Ty:=[.int .i64,.int .i64,.int .i64,.int .i64,.int .i64,.int .i64,.bool,.int .u32,.int .u32]
abbrev tMsg:Ty:=.st zmc
abbrev Msg:Type:=Int×Int×Int×Int×Int×Int×Bool×Int×Int
def zaT (a b c d e f:Int) (g:Bool) (h i:Int):Msg:=(a,b,c,d,e,f,g,h,i)
def zaL (x:Msg):Int:=x.1
def zaF (x:Msg):Int:=x.2.1
def zcw (x:Msg):Int:=x.2.2.1
def zaH (x:Msg):Int:=x.2.2.2.1
def zbS (x:Msg):Int:=x.2.2.2.2.1
def zbV (x:Msg):Int:=x.2.2.2.2.2.1
def zhN (x:Msg):Bool:=x.2.2.2.2.2.2.1
def zcS (x:Msg):Int:=x.2.2.2.2.2.2.2.1
def zcD (x:Msg):Int:=x.2.2.2.2.2.2.2.2
def zb0 (x:Msg) (v:Int):Msg:=(v,x.2.1,x.2.2.1,x.2.2.2.1,x.2.2.2.2.1,x.2.2.2.2.2.1,x.2.2.2.2.2.2.1,x.2.2.2.2.2.2.2.1,x.2.2.2.2.2.2.2.2)
def zff (x:Msg) (v:Int):Msg:=(x.1,x.2.1,x.2.2.1,x.2.2.2.1,v,x.2.2.2.2.2.1,x.2.2.2.2.2.2.1,x.2.2.2.2.2.2.2.1,x.2.2.2.2.2.2.2.2)
def zfr (x:Msg) (v:Int):Msg:=(x.1,x.2.1,x.2.2.1,x.2.2.2.1,x.2.2.2.2.1,x.2.2.2.2.2.1,x.2.2.2.2.2.2.1,x.2.2.2.2.2.2.2.1,v)
@[simp] theorem zqs a b c d e f g h i:zaL (zaT a b c d e f g h i)=a:=rfl
@[simp] theorem zqQ a b c d e f g h i:zaF (zaT a b c d e f g h i)=b:=rfl
@[simp] theorem zwe a b c d e f g h i:zcw (zaT a b c d e f g h i)=c:=rfl
@[simp] theorem zqW a b c d e f g h i:zaH (zaT a b c d e f g h i)=d:=rfl
@[simp] theorem ztU a b c d e f g h i:zbS (zaT a b c d e f g h i)=e:=rfl
@[simp] theorem zqr a b c d e f g h i:zbV (zaT a b c d e f g h i)=f:=rfl
@[simp] theorem zBI a b c d e f g h i:zhN (zaT a b c d e f g h i)=g:=rfl
@[simp] theorem Msg_dNum_mk a b c d e f g h i:zcS (zaT a b c d e f g h i)=h:=rfl
@[simp] theorem Msg_dVal_mk a b c d e f g h i:zcD (zaT a b c d e f g h i)=i:=rfl
@[simp] theorem zHx (x:Msg):zaT (zaL x) (zaF x) (zcw x) (zaH x) (zbS x) (zbV x) (zhN x) (zcS x) (zcD x)=x:=rfl
abbrev zyM:List Ty:=[.int .i64,.int .i64,.int .u32,.int .u32]
abbrev zI5:Ty:=.st zyM
abbrev Want:Type:=Int×Int×Int×Int
def zeK (a b c d:Int):Want:=(a,b,c,d)
def zcU (x:Want):Int:=x.1
def zfH (x:Want):Int:=x.2.1
def zhg (x:Want):Int:=x.2.2.1
def zvt (x:Want):Int:=x.2.2.2
@[simp] theorem Want_dKind_mk a b c d:zcU (zeK a b c d)=a:=rfl
@[simp] theorem Want_dAt_mk a b c d:zfH (zeK a b c d)=b:=rfl
@[simp] theorem Want_dVal_mk a b c d:zhg (zeK a b c d)=c:=rfl
@[simp] theorem Want_dOld_mk a b c d:zvt (zeK a b c d)=d:=rfl
@[simp] theorem Want_deta (x:Want):zeK (zcU x) (zfH x) (zhg x) (zvt x)=x:=rfl
abbrev zH5:List Ty:=[.int .i64,.int .i64,.int .u32]
abbrev zk1:Ty:=.st zH5
abbrev Undo:Type:=Int×Int×Int
def zdS (a b c:Int):Undo:=(a,b,c)
def zaJ (x:Undo):Int:=x.1
def zaZ (x:Undo):Int:=x.2.1
def ze4 (x:Undo):Int:=x.2.2
@[simp] theorem Undo_dSpan_mk a b c:zaJ (zdS a b c)=a:=rfl
@[simp] theorem Undo_dAt_mk a b c:zaZ (zdS a b c)=b:=rfl
@[simp] theorem Undo_dVal_mk a b c:ze4 (zdS a b c)=c:=rfl
@[simp] theorem Undo_deta (x:Undo):zdS (zaJ x) (zaZ x) (ze4 x)=x:=rfl
abbrev zkB:List Ty:=[.int .i64,.int .i64,.bool,.int .u8]
abbrev zgn:Ty:=.st zkB
abbrev zgL:List Ty:=[.str,.int .u64]
abbrev zdL:Ty:=.st zgL
abbrev zJG:List Ty:=[.arr 8 (.int .u32),.int .i64,.bool]
abbrev zb2:Ty:=.st zJG
abbrev Core:Type:=(List Int)×Int×Bool
def zjs (a:List Int) (b:Int) (c:Bool):Core:=(a,b,c)
def zbH (x:Core):List Int:=x.1
def zcR (x:Core):Int:=x.2.1
def zbu (x:Core):Bool:=x.2.2
def zgC (x:Core) (v:List Int):Core:=(v,x.2.1,x.2.2)
def zAE (x:Core) (v:Int):Core:=(x.1,v,x.2.2)
def zvm (x:Core) (v:Bool):Core:=(x.1,x.2.1,v)
@[simp] theorem Core_dRegs_mk a b c:zbH (zjs a b c)=a:=rfl
@[simp] theorem Core_dPC_mk a b c:zcR (zjs a b c)=b:=rfl
@[simp] theorem Core_dHalted_mk a b c:zbu (zjs a b c)=c:=rfl
@[simp] theorem Core_deta (x:Core):zjs (zbH x) (zcR x) (zbu x)=x:=rfl
abbrev zdY:List Ty:=[.int .i64,.sl .bool]
abbrev zbF:Ty:=.st zdY
abbrev Entry:Type:=Int×(List Bool)
def za6 (a:Int) (b:List Bool):Entry:=(a,b)
def zav (x:Entry):Int:=x.1
def zan (x:Entry):List Bool:=x.2
@[simp] theorem zhj a b:zav (za6 a b)=a:=rfl
@[simp] theorem zdF a b:zan (za6 a b)=b:=rfl
@[simp] theorem zpU (x:Entry):za6 (zav x) (zan x)=x:=rfl
abbrev zIa:List Ty:=[ziI,.int .i64]
abbrev zuP:Ty:=.st zIa
abbrev Held:Type:=Told×Int
def zlT (a:Told) (b:Int):Held:=(a,b)
def zbE (x:Held):Told:=x.1
def zcu (x:Held):Int:=x.2
@[simp] theorem Held_dTold_mk a b:zbE (zlT a b)=a:=rfl
@[simp] theorem Held_dSpan_mk a b:zcu (zlT a b)=b:=rfl
@[simp] theorem Held_deta (x:Held):zlT (zbE x) (zcu x)=x:=rfl
abbrev zJQ:List Ty:=[.sl (.int .u32),.int .i64,.sl zk1]
abbrev tLog:Ty:=.st zJQ
abbrev Log:Type:=(List Int)×Int×(List Undo)
abbrev zd8:List Ty:=[.sl (.sl (.int .u8))]
abbrev zb3:Ty:=.st zd8
abbrev Pool:Type:=List (List Int)
def za5 (a:List (List Int)):Pool:=a
def zaf (x:Pool):List (List Int):=x
@[simp] theorem Pool_dFrames_mk a:zaf (za5 a)=a:=rfl
@[simp] theorem Pool_deta (x:Pool):za5 (zaf x)=x:=rfl
abbrev zb7:List Ty:=[.sl (.sl (.int .u32)),.sl (.int .u32),.int .i64]
abbrev zgU:Ty:=.st zb7
abbrev zcn:Type:=(List (List Int))×(List Int)×Int
def zaY (a:List (List Int)) (b:List Int) (c:Int):zcn:=(a,b,c)
def zac (x:zcn):List (List Int):=x.1
def zat (x:zcn):List Int:=x.2.1
def zaq (x:zcn):Int:=x.2.2
@[simp] theorem zia a b c:zac (zaY a b c)=a:=rfl
@[simp] theorem zxO a b c:zat (zaY a b c)=b:=rfl
@[simp] theorem Banks_dLost_mk a b c:zaq (zaY a b c)=c:=rfl
@[simp] theorem zcs (x:zcn):zaY (zac x) (zat x) (zaq x)=x:=rfl
abbrev zqY:List Ty:=[.sl zuP,.sl ziI]
abbrev zdo:Ty:=.st zqY
abbrev Gate:Type:=(List Held)×(List Told)
def zdg (a:List Held) (b:List Told):Gate:=(a,b)
def zas (x:Gate):List Held:=x.1
def zbU (x:Gate):List Told:=x.2
@[simp] theorem Gate_dHeld_mk a b:zas (zdg a b)=a:=rfl
@[simp] theorem Gate_dOut_mk a b:zbU (zdg a b)=b:=rfl
@[simp] theorem ztX (x:Gate):zdg (zas x) (zbU x)=x:=rfl
abbrev zJK:List Ty:=[.sl (.int .u32),.sl zb2,.sl ziI]
abbrev zIw:Ty:=.st zJK
abbrev zcX:List Ty:=[.sl (.sl (.int .i64)),.sl (.sl (.int .u32)),.sl zd2,.sl (.int .u32),.sl zbF,.sl (.int .i64),zb3]
abbrev zbD:Ty:=.st zcX
abbrev zbe:Type:=(List (List Int))×(List (List Int))×(List Wait)×(List Int)×(List Entry)×(List Int)×Pool
def zaB (a b:List (List Int)) (c:List Wait) (d:List Int) (e:List Entry) (f:List Int) (g:Pool):zbe:=(a,b,c,d,e,f,g)
def zai (x:zbe):List (List Int):=x.1
def zam (x:zbe):List (List Int):=x.2.1
def zab (x:zbe):List Wait:=x.2.2.1
def zad (x:zbe):List Int:=x.2.2.2.1
def zay (x:zbe):List Entry:=x.2.2.2.2.1
def zal (x:zbe):List Int:=x.2.2.2.2.2.1
def zax (x:zbe):Pool:=x.2.2.2.2.2.2
def zib (x:zbe) (v:List Int):zbe:=(x.1,x.2.1,x.2.2.1,v,x.2.2.2.2.1,x.2.2.2.2.2.1,x.2.2.2.2.2.2)
def zh4 (x:zbe) (v:Pool):zbe:=(x.1,x.2.1,x.2.2.1,x.2.2.2.1,x.2.2.2.2.1,x.2.2.2.2.2.1,v)
@[simp] theorem Proto_dState_mk a b c d e f g:zai (zaB a b c d e f g)=a:=rfl
@[simp] theorem Proto_dVal_mk a b c d e f g:zam (zaB a b c d e f g)=b:=rfl
@[simp] theorem Proto_dWait_mk a b c d e f g:zab (zaB a b c d e f g)=c:=rfl
@[simp] theorem Proto_dHome_mk a b c d e f g:zad (zaB a b c d e f g)=d:=rfl
@[simp] theorem Proto_dDir_mk a b c d e f g:zay (zaB a b c d e f g)=e:=rfl
@[simp] theorem Proto_dBusy_mk a b c d e f g:zal (zaB a b c d e f g)=f:=rfl
@[simp] theorem Proto_dPool_mk a b c d e f g:zax (zaB a b c d e f g)=g:=rfl
@[simp] theorem zex (x:zbe):zaB (zai x) (zam x) (zab x) (zad x) (zay x) (zal x) (zax x)=x:=rfl
abbrev zkA:List Ty:=[.int .i64,.int .i64,.sl zb2]
abbrev zgc:Ty:=.st zkA
abbrev Mark:Type:=Int×Int×(List Core)
def zcb (a b:Int) (c:List Core):Mark:=(a,b,c)
def zaU (x:Mark):Int:=x.1
def zbZ (x:Mark):Int:=x.2.1
def za9 (x:Mark):List Core:=x.2.2
@[simp] theorem Mark_dSpan_mk a b c:zaU (zcb a b c)=a:=rfl
@[simp] theorem Mark_dWhen_mk a b c:zbZ (zcb a b c)=b:=rfl
@[simp] theorem Mark_dCores_mk a b c:za9 (zcb a b c)=c:=rfl
@[simp] theorem zn3 (x:Mark):zcb (zaU x) (zbZ x) (za9 x)=x:=rfl
abbrev zc8:List Ty:=[zgU,.int .i64,.int .i64,.sl zk1]
abbrev zbq:Ty:=.st zc8
abbrev za4:Type:=zcn×Int×Int×(List Undo)
def zaX (a:zcn) (b c:Int) (d:List Undo):za4:=(a,b,c,d)
def zae (x:za4):zcn:=x.1
def zaj (x:za4):Int:=x.2.1
def zaD (x:za4):Int:=x.2.2.1
def zak (x:za4):List Undo:=x.2.2.2
@[simp] theorem zhs a b c d:zae (zaX a b c d)=a:=rfl
@[simp] theorem Vault_dWords_mk a b c d:zaj (zaX a b c d)=b:=rfl
@[simp] theorem Vault_dSpan_mk a b c d:zaD (zaX a b c d)=c:=rfl
@[simp] theorem Vault_dLst_mk a b c d:zak (zaX a b c d)=d:=rfl
@[simp] theorem zdl (x:za4):zaX (zae x) (zaj x) (zaD x) (zak x)=x:=rfl
abbrev zvL:List Ty:=[zbD]
abbrev zop:Ty:=.st zvL
abbrev zgl:List Ty:=[.sl zgc,.int .i64]
abbrev zbW:Ty:=.st zgl
abbrev Clock:Type:=(List Mark)×Int
def zbQ (a:List Mark) (b:Int):Clock:=(a,b)
def zao (x:Clock):List Mark:=x.1
def zbA (x:Clock):Int:=x.2
@[simp] theorem Clock_dMarks_mk a b:zao (zbQ a b)=a:=rfl
@[simp] theorem Clock_dWait_mk a b:zbA (zbQ a b)=b:=rfl
@[simp] theorem Clock_deta (x:Clock):zbQ (zao x) (zbA x)=x:=rfl
abbrev zvs:List Ty:=[.sl zb2,zbD,zbq,zbW,zdo,.int .i64,.sl (.int .i64)]
abbrev zcq:Ty:=.st zvs
abbrev Machine:Type:=(List Core)×zbe×za4×Clock×Gate×Int×(List Int)
def zbj (a:List Core) (b:zbe) (c:za4) (d:Clock) (e:Gate) (f:Int) (g:List Int):Machine:=(a,b,c,d,e,f,g)
def zaw (x:Machine):List Core:=x.1
def zah (x:Machine):zbe:=x.2.1
def zar (x:Machine):za4:=x.2.2.1
def zaC (x:Machine):Clock:=x.2.2.2.1
def zaz (x:Machine):Gate:=x.2.2.2.2.1
def zaN (x:Machine):Int:=x.2.2.2.2.2.1
def zaI (x:Machine):List Int:=x.2.2.2.2.2.2
def zdU (x:Machine) (v:List Core):Machine:=(v,x.2.1,x.2.2.1,x.2.2.2.1,x.2.2.2.2.1,x.2.2.2.2.2.1,x.2.2.2.2.2.2)
def zbs (x:Machine) (v:zbe):Machine:=(x.1,v,x.2.2.1,x.2.2.2.1,x.2.2.2.2.1,x.2.2.2.2.2.1,x.2.2.2.2.2.2)
def zbN (x:Machine) (v:za4):Machine:=(x.1,x.2.1,v,x.2.2.2.1,x.2.2.2.2.1,x.2.2.2.2.2.1,x.2.2.2.2.2.2)
def zdQ (x:Machine) (v:Clock):Machine:=(x.1,x.2.1,x.2.2.1,v,x.2.2.2.2.1,x.2.2.2.2.2.1,x.2.2.2.2.2.2)
def zcE (x:Machine) (v:Gate):Machine:=(x.1,x.2.1,x.2.2.1,x.2.2.2.1,v,x.2.2.2.2.2.1,x.2.2.2.2.2.2)
def zkH (x:Machine) (v:Int):Machine:=(x.1,x.2.1,x.2.2.1,x.2.2.2.1,x.2.2.2.2.1,v,x.2.2.2.2.2.2)
@[simp] theorem Machine_dCores_mk a b c d e f g:zaw (zbj a b c d e f g)=a:=rfl
@[simp] theorem Machine_dProto_mk a b c d e f g:zah (zbj a b c d e f g)=b:=rfl
@[simp] theorem Machine_dStore_mk a b c d e f g:zar (zbj a b c d e f g)=c:=rfl
@[simp] theorem Machine_dClock_mk a b c d e f g:zaC (zbj a b c d e f g)=d:=rfl
@[simp] theorem Machine_dGate_mk a b c d e f g:zaz (zbj a b c d e f g)=e:=rfl
@[simp] theorem Machine_dNow_mk a b c d e f g:zaN (zbj a b c d e f g)=f:=rfl
@[simp] theorem Machine_dSince_mk a b c d e f g:zaI (zbj a b c d e f g)=g:=rfl
@[simp] theorem Machine_deta (x:Machine):zbj (zaw x) (zah x) (zar x) (zaC x) (zaz x) (zaN x) (zaI x)=x:=rfl
abbrev zmq:List Ty:=[zcq,.sl (.sl tIns),tDid]
abbrev zco:Ty:=.st zmq
abbrev zaG:Type:=Machine×(List (List Ins))×Did
def zci (a:Machine) (b:List (List Ins)) (c:Did):zaG:=(a,b,c)
def zaa (x:zaG):Machine:=x.1
def za0 (x:zaG):List (List Ins):=x.2.1
def zaE (x:zaG):Did:=x.2.2
def zau (x:zaG) (v:Machine):zaG:=(v,x.2.1,x.2.2)
def zcQ (x:zaG) (v:Did):zaG:=(x.1,x.2.1,v)
@[simp] theorem machine_work_dMachine_mk a b c:zaa (zci a b c)=a:=rfl
@[simp] theorem machine_work_dprogs_mk a b c:za0 (zci a b c)=b:=rfl
@[simp] theorem machine_work_ddid_mk a b c:zaE (zci a b c)=c:=rfl
@[simp] theorem machine_work_deta (x:zaG):zci (zaa x) (za0 x) (zaE x)=x:=rfl
def tys:List Ty:=[.no,.no,.int .i64,.int .i64,.bool,.int .u8,.int .u8,zgn,zgn,.str,.str,.str,.int .u64,zdL,zdL,.no,.no,.no,.no,.no,.no,.int .i32,.sl (.sl tIns),.sl zri,.no,.no,.no,.sl zb2,.sl (.sl (.int .i64)),.sl (.sl (.int .u32)),.sl zd2,.sl (.int .u32),.sl zbF,.sl (.int .i64),.sl (.sl (.int .u8)),zb3,zb3,zbD,zbD,zgU,zgU,.sl zk1,zbq,zbq,.sl zgc,zbW,zbW,.sl zuP,.sl ziI,zdo,zdo,zcq,zcq,.int .i64,.no,.no,tDid,tDid,.no,.no,zri,zri,.no,.no,.no,.no,.no,.no,.no,.no,.no,zIw,zIw,.no,.no,.sl zIw,.no,.no,.int .u32,tIns,tIns,.sl tIns,ziI,ziI,.no,.no,.no,.no,.no,.no,.no,.no,.no,zco,zco,.no,.no,.arr 8 (.int .u32),zb2,zb2,.no,.no,zuP,zuP,zd2,zd2,.no,.no,.no,.no,.no,.no,.no,.no,.no,.no,.no,.no,.no,.no,zgc,zgc,.no,.no,.no,.no,.sl .bool,zbF,zbF,.no,.no,.no,.no,.no,.no,.no,.no,.no,.no,.no,.no,.no,.no,.no,.no,.no,.no,.no,.no,.no,.no,.no,.no,.no,.no,tLog,tLog,.no,.no,.no,.no,zI5,zI5,.no,.no,.no,.no,.no,.no,.no,.no,.no,.no,.no,.no,.no,.no,.no,.no,.no,.no,.no,.no,.no,.no,.no,.no,.no,.no,.no,.no,.no,.no,.no,.sl (.int .u8),.no,.no,.no,.no,.no,.no,zk1,zk1,.no,.no,.no,.no,.no,.no,.no,.no,.no,.no,.int .u64,.no,.no,.no,.no,.no,.no,.no,.no,zop,zop,tMsg,tMsg,.no,.no,.no,.no,.no,.no,.no,.no,.no,.no,.no,.no,.no,.no,.no,.no,.no,.no,.no,.no,.no,.no,.no,.no,.no,.no,.no,.no,.no,.no,.no,.no,.no,.no,zdk,zdk,.no,.no,.no,.no,.no,.no,.no,.no,.no,.no,.no,.no,.no,.no,.no,.no,.no,.no,.no,.no,.no,.no,.no,.no,.no,.no,.no,.no,.no,.no,.no,.no,.no,.no,.no,.no,.no,.no,.arr 4 (.int .u8),.int .u64,.no,.no,.no,.no,.no,.no,.no,.no,.no,.no,.no,.no,.no,.no,.no,.no,.int .u8,.int .u8,.no,.no,.int .i32,.int .i32,.no,.no,.no]
def cx:Cx:={ P:=Tryz.prog,ty:=tys,own:=[],inl:=[20,32,40,54,56,85,86,90,111,123,124,125,143,149,168,172,173,174,189,190,191,192,193,194,202,215,225,227,231,234,235,237],keepL:=[],absL:=[20,40,54,123,125,143,149,168,174,187,190,191,194,220,225,233],lendL:=[176],freshL:=[187],owL:=[],bk:=[(227,41,202)],heads:=[(4,[(20,11150372474041220118367163931569792642722833,⟨22,0,ztb 145 0 [(0,.d (.sl (.sl tIns)) (.v 0)),(4,.d (.sl zri) (.v 4)),(10,.d .bool (.c (.bool false))),(11,.p zcq zcq 0 []),(13,.d (.int .i64) (.v 20))],[.box zcq (.d zcq (.v 21))]⟩)]),
 (6,[(3,4486618749202917759475777591,⟨5,0,ztb 93 0 [(0,.d .bool (.c (.bool false))),(1,.h (.sl tIns) 0 none),(2,.p zcq zcq 1 []),(4,.h zri 2 none),(5,.d (.int .i64) (.v 3))],[.fz (.sl tIns) (.c (.sl [(.sl [(.agg [(.int .i64 1),(.int .i64 1),(.int .i64 0),(.int .i64 0),(.int .u32 5)]),(.agg [(.int .i64 10),(.int .i64 1),(.int .i64 0),(.int .i64 0),(.int .u32 0)]),(.agg [(.int .i64 15),(.int .i64 1),(.int .i64 0),(.int .i64 0),(.int .u32 0)]),(.agg [(.int .i64 16),(.int .i64 0),(.int .i64 0),(.int .i64 0),(.int .u32 0)])])])),.box zcq (.d zcq (.v 4)),.row zri (.c (.sl [(.agg [(.int .i64 1),(.int .i64 0),(.int .i64 0)]),(.agg [(.int .i64 1),(.int .i64 0),(.int .i64 0)]),(.agg [(.int .i64 2),(.int .i64 0),(.int .i64 0)]),(.agg [(.int .i64 2),(.int .i64 0),(.int .i64 0)]),(.agg [(.int .i64 2),(.int .i64 0),(.int .i64 0)]),(.agg [(.int .i64 1),(.int .i64 0),(.int .i64 0)]),(.agg [(.int .i64 1),(.int .i64 0),(.int .i64 0)]),(.agg [(.int .i64 1),(.int .i64 0),(.int .i64 0)]),(.agg [(.int .i64 4),(.int .i64 0),(.int .i64 0)]),(.agg [(.int .i64 5),(.int .i64 0),(.int .i64 0)]),(.agg [(.int .i64 4),(.int .i64 0),(.int .i64 0)]),(.agg [(.int .i64 4),(.int .i64 0),(.int .i64 0)]),(.agg [(.int .i64 4),(.int .i64 0),(.int .i64 0)])]))]⟩)]),
 (217,[(2,908,⟨4,0,ztb 31 0 [(2,.d (.int .u32) (.c (.int .u32 0))),(3,.d (.int .u32) (.v 2)),(7,.d (.sl (.int .u8)) (.v 0)),(8,.d (.int .i64) (.v 1)),(9,.d (.int .i64) (.v 3))],[]⟩),
 (8,131980,⟨10,0,ztb 31 0 [(2,.d (.int .u32) (.c (.int .u32 0))),(3,.d (.int .u32) (.v 8)),(7,.d (.sl (.int .u8)) (.v 0)),(8,.d (.int .i64) (.v 1)),(9,.d (.int .i64) (.v 3)),(17,.d (.int .i64) (.v 9))],[]⟩)])] }
theorem tyOk:TysOk cx:=zER (by kernel_rfl) (List.forall_mem_cons.2 ⟨⟨_,_,_,_,_,_,_,_,_,_,_,_,_,_,⟨rfl,rfl,rfl,rfl,rfl,rfl,rfl,rfl,rfl⟩⟩,fun _ h=>nomatch h⟩)
theorem mixed:Tryz.prog.follows .mixedOrders=true:=by kernel_rfl
def noC:FuncId→List D→Option (List D):=fun _ _=>none
theorem zJi:CallsOk cx noC:=fun _ _ _ _ _ _ _ h=>by cases h
theorem rf_ {f:FuncId}{t:TA}{ps rs:List Ty}{sem:Ty.Tup ps→Option (Ty.Tup rs)}{l:List (FuncId×FnT)}(ht:zaM cx 12 f=some t.erase)(hl:AllOk cx 12 noC l)(h:t.calls=l:=by kernel_rfl)(hs:∀ x,sem x=t.den (pushT ps x []) ps.length [(0,rs)]:=by intro x;kernel_rfl):FnOk cx 12 noC f ⟨ps,rs,sem⟩:=zJU ht (fun _=>rfl) (zJs l h hl) hs
theorem rp_ {f:FuncId}{t:TA}{ps rs:List Ty}{sem:Ty.Tup ps→Ty.Tup rs}{l:List (FuncId×FnT)}(ht:zaM cx 12 f=some t.erase)(hl:AllOk cx 12 noC l)(h:t.calls=l:=by kernel_rfl)(hs:∀ x,some (sem x)=t.pden (pushT ps x []) ps.length rs:=by intro x;kernel_rfl):FnOk cx 12 noC f (PnT.fn ⟨ps,rs,sem⟩):=zJM ht (fun _=>rfl) (zJs l h hl) hs
theorem zGH {f:FuncId}{ds rs:List D}(k d:Nat) (h:zgd cx k 12 noC d f ds=some rs):zDB cx 12 noC f ds=some rs:=(zin cx 12 noC).2 ⟨k,d,h⟩
def zh3 (x0:List (List Ins)) (s:Int):Option (Int⊕Unit⊕Bool) :=
 if decide (s<(x0.length:Int)) then
 (getO x0 s).bind fun v6=>if decide ((80:Int)<(v6.length:Int)) then
 some (Sum.inr (Sum.inr (false)))
 else
 some (Sum.inl (w64 (s + (1:Int))))
 else
 some (Sum.inr (Sum.inl ()))
def zpl (p0:List (List Ins)):Option Bool :=
 if decide ((6:Int)<(p0.length:Int)) then
 some (false)
 else
 zbm (zaQ (zh3 p0) (0:Int):Option (Unit⊕Bool)) fun v3=>some (true)
def ztl:FnT:=⟨[.sl (.sl tIns)],[.bool],fun x=>zpl x⟩
def zu0:TA :=
 ql 0<|qk .gtr 1 6<|qe 2 (qt 0 false) (.sub1 [] (.loop [.int .i64] [(qz 0)] (ql 0<|qb .lss 3 4<|qe 5 (qg 0 3<|ql 6<|qk .gtr 7 80<|qe 8 (qt 2 false) (qk .add 3 1<|qr 0 9)) (qx 1))) 0<|qt 0 true)
theorem zt3:zaM cx 12 13=some zu0.erase:=by kernel_rfl
theorem zBu:FnOk cx 12 noC 13 ztl:=rf_ zt3 .nil
def zhB (x0 x1:List Core) (s:Int):Option (Int⊕Unit⊕Bool) :=
 if decide (s<(x0.length:Int)) then
 (getO x0 s).bind fun v8=>(getO x1 s).bind fun v9=>if !(@decide (v8=v9) (Ty.dec zb2 _ _)) then
 some (Sum.inr (Sum.inr (false)))
 else
 some (Sum.inl (w64 (s + (1:Int))))
 else
 some (Sum.inr (Sum.inl ()))
def zpk (p0 p1:List Core):Option Bool :=
 if !decide ((p0.length:Int)=(p1.length:Int)) then
 some (false)
 else
 zbm (zaQ (zhB p0 p1) (0:Int):Option (Unit⊕Bool)) fun v5=>some (true)
def zvl:FnT:=⟨[.sl zb2,.sl zb2],[.bool],fun x=>zpk x.1 x.2⟩
def zuH:TA :=
 ql 0<|ql 1<|qb .neq 2 3<|qe 4 (qt 0 false) (.sub1 [] (.loop [.int .i64] [(qz 0)] (ql 0<|qb .lss 5 6<|qe 7 (qg 0 5<|qg 1 5<|.prim .eqv (qv [8,9])<|qn 10<|qe 11 (qt 2 false) (qk .add 5 1<|qr 0 12)) (qx 1))) 0<|qt 0 true)
theorem zuF:zaM cx 12 14=some zuH.erase:=by kernel_rfl
theorem zAz:FnOk cx 12 noC 14 zvl:=rf_ zuF .nil
def zjq (x0 x1:List Told) (s:Int):Option (Int⊕Unit⊕Bool) :=
 if decide (s<(x0.length:Int)) then
 (getO x0 s).bind fun v8=>(getO x1 s).bind fun v9=>if !(@decide (v8=v9) (Ty.dec ziI _ _)) then
 some (Sum.inr (Sum.inr (false)))
 else
 some (Sum.inl (w64 (s + (1:Int))))
 else
 some (Sum.inr (Sum.inl ()))
def zsr (p0 p1:List Told):Option Bool :=
 if !decide ((p0.length:Int)=(p1.length:Int)) then
 some (false)
 else
 zbm (zaQ (zjq p0 p1) (0:Int):Option (Unit⊕Bool)) fun v5=>some (true)
def zwG:FnT:=⟨[.sl ziI,.sl ziI],[.bool],fun x=>zsr x.1 x.2⟩
def zwY:TA :=
 ql 0<|ql 1<|qb .neq 2 3<|qe 4 (qt 0 false) (.sub1 [] (.loop [.int .i64] [(qz 0)] (ql 0<|qb .lss 5 6<|qe 7 (qg 0 5<|qg 1 5<|.prim .eqv (qv [8,9])<|qn 10<|qe 11 (qt 2 false) (qk .add 5 1<|qr 0 12)) (qx 1))) 0<|qt 0 true)
theorem zw0:zaM cx 12 15=some zwY.erase:=by kernel_rfl
theorem zD4:FnOk cx 12 noC 15 zwG:=rf_ zw0 .nil
def zgE (x3:List Held) (x4:Int) (s:(Int×(List Told))):Option ((Int×(List Told))⊕(List Told)) :=
 if decide (s.1<x4) then
 (getO x3 s.1).bind fun v8=>(appO 16 s.2 ([zbE v8]:List Told)).bind fun v11=>some (Sum.inl (w64 (s.1 + (1:Int)),v11))
 else
 some (Sum.inr (s.2))
def ziw (p0:Gate):Option (List Told) :=
 (zaS 16 (zbU p0)).bind fun v2=>let v4:Int:=(List.length (zas p0):Int)
 (zaQ (zgE (zas p0) v4) ((0:Int),v2):Option (List Told)).bind fun v5=>some (v5)
def zlw:FnT:=⟨[zdo],[.sl ziI],fun x=>ziw x⟩
def zro:TA :=
 qf 1 0<|qc 16 1<|qf 0 0<|ql 3<|.sub0 [.sl ziI] (.loop [.int .i64,.sl ziI] [(qz 0),.v 2] (qb .lss 5 4<|qe 7 (qg 3 5<|qf 0 8<|.mkL ziI [.v 9]<|qa 16 6 10<|qk .add 5 1<|.jmp 0 true (qv [12,11])) (qj 1 6))) 1<|qj 0 5
theorem zqx:zaM cx 12 16=some zro.erase:=by kernel_rfl
theorem zra:FnOk cx 12 noC 16 zlw:=rf_ zqx .nil
def zei (x0:zbe) (s:Int):Option (Int⊕Unit⊕Bool) :=
 if decide (s<(List.length (zal x0):Int)) then
 (getO (zal x0) s).bind fun v6=>if !decide (v6=(0:Int)) then
 some (Sum.inr (Sum.inr (false)))
 else
 some (Sum.inl (w64 (s + (1:Int))))
 else
 some (Sum.inr (Sum.inl ()))
def zem (x0:zbe) (s:Int):Option (Int⊕Unit⊕Bool) :=
 if decide (s<(List.length (zab x0):Int)) then
 (getO (zab x0) s).bind fun v6=>if !decide ((zaK v6)=(0:Int)) then
 some (Sum.inr (Sum.inr (false)))
 else
 some (Sum.inl (w64 (s + (1:Int))))
 else
 some (Sum.inr (Sum.inl ()))
def zpy (p0:zbe):Option Bool :=
 zbm (zaQ (zem p0) (0:Int):Option (Unit⊕Bool)) fun v1=>zbm (zaQ (zei p0) (0:Int):Option (Unit⊕Bool)) fun v1=>some ((decide ((List.length (zaf (zax p0)):Int)=(0:Int))))
def zpI:FnT:=⟨[zbD],[.bool],fun x=>zpy x⟩
def zwQ:TA :=
 .sub1 [] (.loop [.int .i64] [(qz 0)] (qf 2 0<|ql 2<|qb .lss 1 3<|qe 4 (qf 2 0<|qg 5 1<|qf 0 6<|qk .neq 7 0<|qe 8 (qt 2 false) (qk .add 1 1<|qr 0 9)) (qx 1))) 0<|.sub1 [] (.loop [.int .i64] [(qz 0)] (qf 5 0<|ql 2<|qb .lss 1 3<|qe 4 (qf 5 0<|qg 5 1<|qk .neq 6 0<|qe 7 (qt 2 false) (qk .add 1 1<|qr 0 8)) (qx 1))) 0<|qf 6 0<|qf 0 1<|ql 2<|qk .eql 3 0<|qj 0 4
theorem zwV:zaM cx 12 17=some zwQ.erase:=by kernel_rfl
theorem zwh:FnOk cx 12 noC 17 zpI:=rf_ zwV .nil
def zh2 (x0 x1:List Int) (s:Int):Option (Int⊕Unit⊕Bool) :=
 if decide (s<(x0.length:Int)) then
 (getO x0 s).bind fun v8=>(getO x1 s).bind fun v9=>if !decide (v8=v9) then
 some (Sum.inr (Sum.inr (false)))
 else
 some (Sum.inl (w64 (s + (1:Int))))
 else
 some (Sum.inr (Sum.inl ()))
def zoi (p0 p1:List Int):Option Bool :=
 if !decide ((p0.length:Int)=(p1.length:Int)) then
 some (false)
 else
 zbm (zaQ (zh2 p0 p1) (0:Int):Option (Unit⊕Bool)) fun v5=>some (true)
def ztn:FnT:=⟨[.sl (.int .u32),.sl (.int .u32)],[.bool],fun x=>zoi x.1 x.2⟩
def ztS:TA :=
 ql 0<|ql 1<|qb .neq 2 3<|qe 4 (qt 0 false) (.sub1 [] (.loop [.int .i64] [(qz 0)] (ql 0<|qb .lss 5 6<|qe 7 (qg 0 5<|qg 1 5<|qb .neq 8 9<|qe 10 (qt 2 false) (qk .add 5 1<|qr 0 11)) (qx 1))) 0<|qt 0 true)
theorem zs2:zaM cx 12 18=some ztS.erase:=by kernel_rfl
theorem zBV:FnOk cx 12 noC 18 ztn:=rf_ zs2 .nil
def zvw (p0:Core):Bool :=
 !(zbu p0)
def zsc:PnT:=⟨[zb2],[.bool],fun x=>zvw x⟩
def zjQ:TA :=
 qf 2 0<|qn 1<|qj 0 2
theorem zsf:zaM cx 12 31=some zjQ.erase:=by kernel_rfl
def zee (x1:Int) (x2:List (List Int)) (x3 s:Int):Option (Int⊕Unit⊕Int) :=
 if decide (s<x3) then
 (getO x2 s).bind fun v6=>((getO v6 x1).bind fun v7=>some ((decide ((2:Int)≤v7))):Option Bool).bind fun v7=>if v7 then
 some (Sum.inr (Sum.inr (s)))
 else
 some (Sum.inl (w64 (s + (1:Int))))
 else
 some (Sum.inr (Sum.inl ()))
def zbw (p0:zbe) (p1:Int):Option Int :=
 (let v3:Int:=(List.length (zai p0):Int)
 zbm (zaQ (zee p1 (zai p0) v3) (0:Int):Option (Unit⊕Int)) fun v4=>some ((-1:Int)):Option Int).bind fun v3=>some (v3)
def zhf:FnT:=⟨[zbD,.int .i64],[.int .i64],fun x=>zbw x.1 x.2⟩
def zkD:TA :=
 qf 0 0<|.sub0 [.int .i64] (ql 2<|.sub1 [] (.loop [.int .i64] [(qz 0)] (qb .lss 4 3<|qe 5 (qg 2 4<|.sub0 [.bool] (qg 6 1<|qk .geq 7 2<|qj 0 8) 1<|qe 7 (qj 2 4) (qk .add 4 1<|qr 0 8)) (qx 1))) 0<|.jmp 0 false [.c (.int .i64 (-1))]) 1<|qj 0 3
theorem zka:zaM cx 12 34=some zkD.erase:=by kernel_rfl
theorem zlj:FnOk cx 12 noC 34 zhf:=rf_ zka .nil
def zfT (p0:Int):Bool :=
 (decide ((0:Int)≤p0))&&(decide (p0≤(1099511627776:Int)))
def zim:PnT:=⟨[.int .i64],[.bool],fun x=>zfT x⟩
def zmj:TA :=
 .subp [.bool] (qk .geq 0 0<|qe 1 (qk .leq 0 1099511627776<|qj 0 2) (qt 0 false)) 1<|qj 0 1
theorem zms:zaM cx 12 45=some zmj.erase:=by kernel_rfl
theorem zme:FnOk cx 12 noC 45 zim.fn:=rp_ zms .nil
def zos (p0:Int):Option (Entry×Int) :=
 if (decide (p0<(1:Int)))||(decide ((4:Int)<p0)) then
 some (((za6 (0:Int) ([]:List Bool)),(1:Int)))
 else
 (repO false 1 p0 p0).bind fun v2=>some ((za6 (0:Int) v2,(0:Int)))
def zvg:FnT:=⟨[.int .i64],[zbF,.int .i64],fun x=>zos x⟩
def zth:TA :=
 .subp [.bool] (qk .lss 0 1<|qe 1 (qt 0 true) (qk .gtr 0 4<|qj 0 2)) 1<|qe 1 (.jmp 0 false [.c (.agg [(.int .i64 0),.nil]),(qz 1)]) (.primH (.rep (.bool false) 1) (.sl .bool) (qv [0,0])<|.mkS zdY [(qz 0),.v 2]<|.jmp 0 false [.v 3,(qz 0)])
theorem zve:zaM cx 12 53=some zth.erase:=by kernel_rfl
theorem zAN:FnOk cx 12 noC 53 zvg:=rf_ zve .nil
def ziS (p0 p1:Int):Option Int :=
 (quoO .i64 (w64 ((w64 (p0 + p1)) - (1:Int))) p1).bind fun v4=>some (v4)
def zkG:FnT:=⟨[.int .i64,.int .i64],[.int .i64],fun x=>ziS x.1 x.2⟩
def zrN:TA :=
 qb .add 0 1<|qk .sub 2 1<|qb .quo 3 1<|qj 0 4
theorem zrM:zaM cx 12 55=some zrN.erase:=by kernel_rfl
theorem zq5:FnOk cx 12 noC 55 zkG:=rf_ zrM .nil
def zbo (p0 p1:Int):Bool :=
 (decide ((0:Int)≤p0))&&(decide (p0<p1))
def zcr:PnT:=⟨[.int .i64,.int .i64],[.bool],fun x=>zbo x.1 x.2⟩
def zmd:TA :=
 .subp [.bool] (qk .geq 0 0<|qe 2 (qb .lss 0 1<|qj 0 3) (qt 0 false)) 1<|qj 0 2
theorem zmR:zaM cx 12 74=some zmd.erase:=by kernel_rfl
theorem zcP:FnOk cx 12 noC 74 zcr.fn:=rp_ zmR .nil
def ziB (p0:Entry) (p1:Int):Option Bool :=
 if (decide (p1<(1:Int)))||((decide ((4:Int)<p1))||((!decide ((List.length (zan p0):Int)=p1))||((decide ((zav p0)<(0:Int)))||(decide (p1<(zav p0)))))) then
 some (false)
 else
 (if decide ((zav p0)=(0:Int)) then
 some (true)
 else
 (getO (zan p0) (w64 ((zav p0) - (1:Int)))).bind fun v8=>some ((!v8)):Option Bool).bind fun v3=>some (v3)
def ziY:FnT:=⟨[zbF,.int .i64],[.bool],fun x=>ziB x.1 x.2⟩
def zty:TA :=
 .subp [.bool] (qk .lss 1 1<|qe 2 (qt 0 true) (qk .gtr 1 4<|qe 3 (qt 0 true) (qf 1 0<|ql 4<|qb .neq 5 1<|qe 6 (qt 0 true) (qf 0 0<|qk .lss 7 0<|qe 8 (qt 0 true) (qf 0 0<|qb .gtr 9 1<|qj 0 10))))) 1<|qe 2 (qt 0 false) (.sub0 [.bool] (qf 0 0<|qk .eql 3 0<|qe 4 (qt 0 true) (qf 1 0<|qf 0 0<|qk .sub 6 1<|qg 5 7<|qn 8<|qj 0 9)) 1<|qj 0 3)
theorem zsM:zaM cx 12 76=some zty.erase:=by kernel_rfl
theorem znq:FnOk cx 12 noC 76 ziY:=rf_ zsM .nil
def zlK (p0:Int):Bool :=
 (decide ((0:Int)≤p0))&&(decide (p0≤(1099511627776:Int)))
def zhS:PnT:=⟨[.int .i64],[.bool],fun x=>zlK x⟩
def zrk:TA :=
 .subp [.bool] (qk .geq 0 0<|qe 1 (qk .leq 0 1099511627776<|qj 0 2) (qt 0 false)) 1<|qj 0 1
theorem zrw:zaM cx 12 98=some zrk.erase:=by kernel_rfl
theorem zkr:FnOk cx 12 noC 98 zhS.fn:=rp_ zrw .nil
def zc2 (x0:List (List Int)) (x2 x5 s:Int):Option (Int⊕Unit⊕Int) :=
 if decide (s<x5) then
 (getO x0 s).bind fun v8=>if !decide ((v8.length:Int)=x2) then
 some (Sum.inr (Sum.inr (s)))
 else
 some (Sum.inl (w64 (s + (1:Int))))
 else
 some (Sum.inr (Sum.inl ()))
def zft (p0:List (List Int)) (p1 p2:Int):Option Bool :=
 (if decide ((p0.length:Int)=p1) then
 ((let v5:Int:=(p0.length:Int)
 zbm (zaQ (zc2 p0 p2 v5) (0:Int):Option (Unit⊕Int)) fun v6=>some ((-1:Int)):Option Int).bind fun v5=>some ((decide ((0:Int)≤v5))):Option Bool).bind fun v5=>some ((!v5))
 else
 some (false):Option Bool).bind fun v3=>some (v3)
def zj4:FnT:=⟨[.sl (.sl (.int .i64)),.int .i64,.int .i64],[.bool],fun x=>zft x.1 x.2.1 x.2.2⟩
def zj5:TA :=
 .sub0 [.bool] (ql 0<|qb .eql 3 1<|qe 4 (.sub0 [.bool] (.sub0 [.int .i64] (ql 0<|.sub1 [] (.loop [.int .i64] [(qz 0)] (qb .lss 6 5<|qe 7 (qg 0 6<|.subp [.bool] (ql 8<|qb .neq 9 2<|qj 0 10) 1<|qe 9 (qj 2 6) (qk .add 6 1<|qr 0 10)) (qx 1))) 0<|.jmp 0 false [.c (.int .i64 (-1))]) 1<|qk .geq 5 0<|qj 0 6) 1<|qn 5<|qj 0 6) (qt 0 false)) 1<|qj 0 3
theorem zjO:zaM cx 12 128=some zj5.erase:=by kernel_rfl
theorem zr8:FnOk cx 12 noC 128 zj4:=rf_ zjO .nil
def zfe (p0:List (List Int)) (p1 p2:Int):Option Bool :=
 (if decide ((p0.length:Int)=p1) then
 ((let v5:Int:=(p0.length:Int)
 zbm (zaQ (zc2 p0 p2 v5) (0:Int):Option (Unit⊕Int)) fun v6=>some ((-1:Int)):Option Int).bind fun v5=>some ((decide ((0:Int)≤v5))):Option Bool).bind fun v5=>some ((!v5))
 else
 some (false):Option Bool).bind fun v3=>some (v3)
def zg4:FnT:=⟨[.sl (.sl (.int .u32)),.int .i64,.int .i64],[.bool],fun x=>zfe x.1 x.2.1 x.2.2⟩
def zhb:TA :=
 .sub0 [.bool] (ql 0<|qb .eql 3 1<|qe 4 (.sub0 [.bool] (.sub0 [.int .i64] (ql 0<|.sub1 [] (.loop [.int .i64] [(qz 0)] (qb .lss 6 5<|qe 7 (qg 0 6<|.subp [.bool] (ql 8<|qb .neq 9 2<|qj 0 10) 1<|qe 9 (qj 2 6) (qk .add 6 1<|qr 0 10)) (qx 1))) 0<|.jmp 0 false [.c (.int .i64 (-1))]) 1<|qk .geq 5 0<|qj 0 6) 1<|qn 5<|qj 0 6) (qt 0 false)) 1<|qj 0 3
theorem zhx:zaM cx 12 129=some zhb.erase:=by kernel_rfl
theorem zng:FnOk cx 12 noC 129 zg4:=rf_ zhx .nil
def zkI (p0:List Int):Bool :=
 !decide ((p0.length:Int)=(19:Int))
def zmK:PnT:=⟨[.sl (.int .u8)],[.bool],fun x=>zkI x⟩
def zmV:TA :=
 ql 0<|qk .neq 1 19<|qj 0 2
theorem zmJ:zaM cx 12 131=some zmV.erase:=by kernel_rfl
theorem zvM:FnOk cx 12 noC 131 zmK.fn:=rp_ zmJ .nil
def zlO (p0 p1:Int):Option Int :=
 if decide (p1<(1:Int)) then
 some ((0:Int))
 else
 (remO (wu64 p0) (wu64 p1)).bind fun v5=>some ((w64 v5))
def zqt:FnT:=⟨[.int .u32,.int .i64],[.int .i64],fun x=>zlO x.1 x.2⟩
def zrJ:TA :=
 qk .lss 1 1<|qe 2 (.jmp 0 false [(qz 0)]) (.prim (.conv .u64) [.v 0]<|.prim (.conv .u64) [.v 1]<|qb .rem 3 4<|.prim (.conv .i64) [.v 5]<|qj 0 6)
theorem zqR:zaM cx 12 132=some zrJ.erase:=by kernel_rfl
theorem zyo:FnOk cx 12 noC 132 zqt:=rf_ zqR .nil
def zus (x0:za4) (x1:List Undo) (x2:Int) (s:(Int×Int×(List (zcl×Bool)))):Option ((Int×Int×(List (zcl×Bool)))⊕Unit⊕Bool) :=
 if decide (s.2.1<x2) then
 (getO x1 s.2.1).bind fun v7=>let v10:zcl:=zbR (zaJ v7) (zaZ v7)
 if (decide ((zaJ v7)<s.1))||((decide ((zaD x0)<(zaJ v7)))||((decide ((zaZ v7)<(0:Int)))||((decide ((zaj x0)≤(zaZ v7)))||(zya (Ty.dec zdk) false s.2.2 v10)))) then
 some (Sum.inr (Sum.inr (false)))
 else
 some (Sum.inl (zaJ v7,w64 (s.2.1 + (1:Int)),zsg (Ty.dec zdk) v10 true s.2.2))
 else
 some (Sum.inr (Sum.inl ()))
def zkx (p0:za4):Option Bool :=
 let v2:Int:=(List.length (zak p0):Int)
 zbm (zaQ (zus p0 (zak p0) v2) ((0:Int),(0:Int),([]:List (zcl×Bool))):Option (Unit⊕Bool)) fun v3=>some (true)
def zmT:FnT:=⟨[zbq],[.bool],fun x=>zkx x⟩
def zm1:TA :=
 qf 3 0<|ql 1<|.sub1 [] (.loop [.int .i64,.int .i64,.sl (.st [zdk,.bool])] [(qz 0),(qz 0),.c (.sl [])] (qb .lss 4 2<|qe 6 (qg 1 4<|qN 2 0 7<|.mkS zs1 (qv [8,9])<|.subp [.bool] (qf 0 7<|qb .lss 11 3<|qe 12 (qt 0 true) (qf 0 7<|qf 2 0<|qb .gtr 13 14<|qe 15 (qt 0 true) (qf 1 7<|qk .lss 16 0<|qe 17 (qt 0 true) (qf 1 7<|qf 1 0<|qb .geq 18 19<|qe 20 (qt 0 true) (.prim (.mget (.bool false)) (qv [5,10])<|qj 0 21))))) 1<|qe 11 (qt 2 false) (qf 0 7<|.prim .mput [.v 5,.v 10,.c (.bool true)]<|qk .add 4 1<|.jmp 0 true (qv [12,14,13]))) (qx 1))) 0<|qt 0 true
theorem zmr:zaM cx 12 135=some zm1.erase:=by kernel_rfl
theorem zvK:FnOk cx 12 noC 135 zmT:=rf_ zmr .nil
def zdv (p0:Int):Bool :=
 (decide ((0:Int)≤p0))&&(decide (p0≤(1099511627776:Int)))
def zeQ:PnT:=⟨[.int .i64],[.bool],fun x=>zdv x⟩
def zpq:TA :=
 .subp [.bool] (qk .geq 0 0<|qe 1 (qk .leq 0 1099511627776<|qj 0 2) (qt 0 false)) 1<|qj 0 1
theorem zoW:zaM cx 12 137=some zpq.erase:=by kernel_rfl
theorem zgr:FnOk cx 12 noC 137 zeQ.fn:=rp_ zoW .nil
def zmf (p0 p1:Held):Int :=
 w64 ((zcu p0) - (zcu p1))
def zjT:PnT:=⟨[zuP,zuP],[.int .i64],fun x=>zmf x.1 x.2⟩
def zjP:TA :=
 qf 1 0<|qf 1 1<|qb .sub 2 3<|qj 0 4
theorem zjZ:zaM cx 12 139=some zjP.erase:=by kernel_rfl
theorem zsi:FnOk cx 12 noC 139 zjT.fn:=rp_ zjZ .nil
def zcI (p0:Int) (p1:Bool):Bool :=
 bif !p1 then decide (p0=(0:Int)) else (decide ((0:Int)≤p0))&&(decide (p0<(8:Int)))
def zfB:PnT:=⟨[.int .i64,.bool],[.bool],fun x=>zcI x.1 x.2⟩
def zmz:TA :=
 qn 1<|qe 2 (qk .eql 0 0<|qj 0 3) (.subp [.bool] (qk .geq 0 0<|qe 3 (qk .lss 0 8<|qj 0 4) (qt 0 false)) 1<|qj 0 3)
theorem zmy:zaM cx 12 142=some zmz.erase:=by kernel_rfl
theorem zh8:FnOk cx 12 noC 142 zfB.fn:=rp_ zmy .nil
def zhy (p0:zbe) (p1 p2:Int) (p3:Bool):Option Bool :=
 (getO (zai p0) p1).bind fun v5=>(getO v5 p2).bind fun v6=>(getO (zab p0) p1).bind fun v8=>if decide ((zaK v8)=(w64 (p2 + (1:Int)))) then
 some (false)
 else
 if p3 then
 some (((decide (v6=(2:Int)))||(decide (v6=(3:Int)))))
 else
 some ((!decide (v6=(0:Int))))
def zha:FnT:=⟨[zbD,.int .i64,.int .i64,.bool],[.bool],fun x=>zhy x.1 x.2.1 x.2.2.1 x.2.2.2⟩
def zuX:TA :=
 qf 0 0<|qg 4 1<|qg 5 2<|qf 2 0<|qg 7 1<|qf 0 8<|qk .add 2 1<|qb .eql 9 10<|qe 11 (qt 0 false) (qe 3 (.subp [.bool] (qk .eql 6 2<|qe 12 (qt 0 true) (qk .eql 6 3<|qj 0 13)) 1<|qj 0 12) (qk .neq 6 0<|qj 0 12))
theorem zvr:zaM cx 12 145=some zuX.erase:=by kernel_rfl
theorem ziV:FnOk cx 12 noC 145 zha:=rf_ zvr .nil
def ziv (p0:zbe) (p1:Msg):Bool :=
 let v3:Int:=(List.length (zab p0):Int)
 (decide ((zaH p1)<(List.length (zad p0):Int)))&&((decide ((zaF p1)≤v3))&&((decide ((zcw p1)≤v3))&&(decide ((zbS p1)≤v3))))
def zq4:PnT:=⟨[zbD,tMsg],[.bool],fun x=>ziv x.1 x.2⟩
def zrA:TA :=
 qf 2 0<|ql 2<|.subp [.bool] (qf 3 1<|qf 3 0<|ql 5<|qb .lss 4 6<|qe 7 (qf 1 1<|qb .leq 8 3<|qe 9 (qf 2 1<|qb .leq 10 3<|qe 11 (qf 4 1<|qb .leq 12 3<|qj 0 13) (qt 0 false)) (qt 0 false)) (qt 0 false)) 1<|qj 0 4
theorem zr1:zaM cx 12 152=some zrA.erase:=by kernel_rfl
theorem zyz:FnOk cx 12 noC 152 zq4.fn:=rp_ zr1 .nil
def zjv (x0:Clock) (x1:Int) (x2:List Mark) (x3:Int) (s:(Int×Int)):Option ((Int×Int)⊕Int) :=
 if decide (s.2<x3) then
 (getO x2 s.2).bind fun v7=>some (Sum.inl (bif decide ((zbA x0)≤(w64 (x1 - (zbZ v7)))) then s.2 else s.1,w64 (s.2 + (1:Int))))
 else
 some (Sum.inr (s.1))
def zgT (p0:Clock) (p1:Int):Option Int :=
 let v3:Int:=(List.length (zao p0):Int)
 (zaQ (zjv p0 p1 (zao p0) v3) ((0:Int),(0:Int)):Option Int).bind fun v4=>some (v4)
def zhU:FnT:=⟨[zbW,.int .i64],[.int .i64],fun x=>zgT x.1 x.2⟩
def zrt:TA :=
 qf 0 0<|ql 2<|.sub0 [.int .i64] (.loop [.int .i64,.int .i64] [(qz 0),(qz 0)] (qb .lss 5 3<|qe 6 (qg 2 5<|qf 1 7<|qb .sub 1 8<|qf 1 0<|qb .geq 9 10<|.subp [.int .i64] (qe 11 (qj 0 5) (qj 0 4)) 1<|qk .add 5 1<|.jmp 0 true (qv [12,13])) (qj 1 4))) 1<|qj 0 4
theorem zqC:zaM cx 12 163=some zrt.erase:=by kernel_rfl
theorem zlo:FnOk cx 12 noC 163 zhU:=rf_ zqC .nil
def zeA (x1:Int) (x2:List Held) (x3 s:Int):Option (Int⊕Unit⊕Int) :=
 if decide (s<x3) then
 (getO x2 s).bind fun v6=>if decide (x1≤(zcu v6)) then
 some (Sum.inr (Sum.inr (s)))
 else
 some (Sum.inl (w64 (s + (1:Int))))
 else
 some (Sum.inr (Sum.inl ()))
def zfQ (p0:Gate) (p1:Int):Option Int :=
 (let v3:Int:=(List.length (zas p0):Int)
 zbm (zaQ (zeA p1 (zas p0) v3) (0:Int):Option (Unit⊕Int)) fun v4=>some ((-1:Int)):Option Int).bind fun v3=>if decide (v3<(0:Int)) then
 some ((List.length (zas p0):Int))
 else
 some (v3)
def zik:FnT:=⟨[zdo,.int .i64],[.int .i64],fun x=>zfQ x.1 x.2⟩
def zmM:TA :=
 qf 0 0<|.sub0 [.int .i64] (ql 2<|.sub1 [] (.loop [.int .i64] [(qz 0)] (qb .lss 4 3<|qe 5 (qg 2 4<|.subp [.bool] (qf 1 6<|qb .geq 7 1<|qj 0 8) 1<|qe 7 (qj 2 4) (qk .add 4 1<|qr 0 8)) (qx 1))) 0<|.jmp 0 false [.c (.int .i64 (-1))]) 1<|qk .lss 3 0<|qe 4 (qf 0 0<|ql 5<|qj 0 6) (qj 0 3)
theorem zmO:zaM cx 12 164=some zmM.erase:=by kernel_rfl
theorem zm3:FnOk cx 12 noC 164 zik:=rf_ zmO .nil
def zfM (p0:Wait):Bool :=
 decide ((0:Int)<(zaK p0))
def zjK:PnT:=⟨[zd2],[.bool],fun x=>zfM x⟩
def zjF:TA :=
 qf 0 0<|qk .gtr 1 0<|qj 0 2
theorem zjS:zaM cx 12 166=some zjF.erase:=by kernel_rfl
theorem zr9:FnOk cx 12 noC 166 zjK.fn:=rp_ zjS .nil
def zfy (p0:Int):Bool :=
 decide ((0:Int)<p0)
def zjX:PnT:=⟨[.int .i64],[.bool],fun x=>zfy x⟩
def zjN:TA :=
 qk .gtr 0 0<|qj 0 1
theorem zjL:zaM cx 12 167=some zjN.erase:=by kernel_rfl
theorem zr7:FnOk cx 12 noC 167 zjX.fn:=rp_ zjL .nil
def zlD (p0:Bool):Int :=
 bif p0 then (1:Int) else (0:Int)
def zki:PnT:=⟨[.bool],[.int .u32],fun x=>zlD x⟩
def zrx:TA :=
 qe 0 (.jmp 0 false [.c (.int .u32 1)]) (.jmp 0 false [.c (.int .u32 0)])
theorem zrD:zaM cx 12 182=some zrx.erase:=by kernel_rfl
theorem zqX:FnOk cx 12 noC 182 zki.fn:=rp_ zrD .nil
def zef (x2:Int) (x4:List (List Int)) (x5 s:Int):Option (Int⊕Unit⊕Int) :=
 if decide (s<x5) then
 (getO x4 s).bind fun v8=>if !decide ((v8.length:Int)=x2) then
 some (Sum.inr (Sum.inr (s)))
 else
 some (Sum.inl (w64 (s + (1:Int))))
 else
 some (Sum.inr (Sum.inl ()))
def zgw (p0:zcn):Option Bool :=
 let v2:Int:=(List.length (zat p0):Int)
 if (decide ((List.length (zac p0):Int)<(1:Int)))||((decide ((8:Int)<(List.length (zac p0):Int)))||((decide (v2<(1:Int)))||((decide ((64:Int)<v2))||((decide ((zaq p0)<(0:Int)))||(decide ((List.length (zac p0):Int)<(zaq p0))))))) then
 some (false)
 else
 ((let v5:Int:=(List.length (zac p0):Int)
 zbm (zaQ (zef v2 (zac p0) v5) (0:Int):Option (Unit⊕Int)) fun v6=>some ((-1:Int)):Option Int).bind fun v5=>some ((decide ((0:Int)≤v5))):Option Bool).bind fun v5=>some ((!v5))
def zkg:FnT:=⟨[zgU],[.bool],fun x=>zgw x⟩
def zky:TA :=
 qf 1 0<|ql 1<|.subp [.bool] (qf 0 0<|ql 3<|qk .lss 4 1<|qe 5 (qt 0 true) (qf 0 0<|ql 6<|qk .gtr 7 8<|qe 8 (qt 0 true) (qk .lss 2 1<|qe 9 (qt 0 true) (qk .gtr 2 64<|qe 10 (qt 0 true) (qf 2 0<|qk .lss 11 0<|qe 12 (qt 0 true) (qf 2 0<|qf 0 0<|ql 14<|qb .gtr 13 15<|qj 0 16)))))) 1<|qe 3 (qt 0 false) (qf 0 0<|.sub0 [.bool] (.sub0 [.int .i64] (ql 4<|.sub1 [] (.loop [.int .i64] [(qz 0)] (qb .lss 6 5<|qe 7 (qg 4 6<|.subp [.bool] (ql 8<|qb .neq 9 2<|qj 0 10) 1<|qe 9 (qj 2 6) (qk .add 6 1<|qr 0 10)) (qx 1))) 0<|.jmp 0 false [.c (.int .i64 (-1))]) 1<|qk .geq 5 0<|qj 0 6) 1<|qn 5<|qj 0 6)
theorem zkO:zaM cx 12 183=some zky.erase:=by kernel_rfl
theorem zvf:FnOk cx 12 noC 183 zkg:=rf_ zkO .nil
def zij (p0:Int):Bool :=
 !decide (p0=(0:Int))
def zjI:PnT:=⟨[.int .u32],[.bool],fun x=>zij x⟩
def zjM:TA :=
 .prim (.bin .neq) [.v 0,.c (.int .u32 0)]<|qj 0 1
theorem zjV:zaM cx 12 185=some zjM.erase:=by kernel_rfl
theorem zsb:FnOk cx 12 noC 185 zjI.fn:=rp_ zjV .nil
def zbK (x0 x1:List Int) (x5 s:Int):Option (Int⊕Unit⊕Bool) :=
 if decide (s<x5) then
 (getO x0 s).bind fun v8=>(getO x1 s).bind fun v9=>if !decide (v8=v9) then
 some (Sum.inr (Sum.inr (false)))
 else
 some (Sum.inl (w64 (s + (1:Int))))
 else
 some (Sum.inr (Sum.inl ()))
def zb4 (p0 p1:List Int):Option Bool :=
 if !decide ((p0.length:Int)=(p1.length:Int)) then
 some (false)
 else
 let v5:Int:=(p0.length:Int)
 zbm (zaQ (zbK p0 p1 v5) (0:Int):Option (Unit⊕Bool)) fun v6=>some (true)
def zdt:FnT:=⟨[.sl (.int .u32),.sl (.int .u32)],[.bool],fun x=>zb4 x.1 x.2⟩
def zdr:TA :=
 ql 0<|ql 1<|qb .neq 2 3<|qe 4 (qt 0 false) (ql 0<|.sub1 [] (.loop [.int .i64] [(qz 0)] (qb .lss 6 5<|qe 7 (qg 0 6<|qg 1 6<|qb .neq 8 9<|qe 10 (qt 2 false) (qk .add 6 1<|qr 0 11)) (qx 1))) 0<|qt 0 true)
theorem zdp:zaM cx 12 186=some zdr.erase:=by kernel_rfl
theorem zgv:FnOk cx 12 noC 186 zdt:=rf_ zdp .nil
def zCQ (p0:Int):Int :=
 let v1:Bool:=decide (p0=(1:Int))
 let v3e:Bool:=decide (p0=(2:Int))
 let v4e_e:Bool:=decide (p0=(3:Int))
 let v5e_e_e:Bool:=decide (p0=(4:Int))
 let v6e_e_e_e:Bool:=decide (p0=(5:Int))
 let v7e_e_e_e_e:Bool:=decide (p0=(6:Int))
 let v8e_e_e_e_e_e:Bool:=decide (p0=(7:Int))
 let v9e_e_e_e_e_e_e:Bool:=decide (p0=(8:Int))
 let v5ee:Bool:=decide (p0=(9:Int))
 bif bif v1 then v1 else decide (p0=(14:Int)) then (9:Int) else bif bif v3e then v3e else bif v4e_e then v4e_e else bif v5e_e_e then v5e_e_e else bif v6e_e_e_e then v6e_e_e_e else bif v7e_e_e_e_e then v7e_e_e_e_e else bif v8e_e_e_e_e_e then v8e_e_e_e_e_e else bif v9e_e_e_e_e_e_e then v9e_e_e_e_e_e_e else decide (p0=(11:Int)) then (7:Int) else bif bif v5ee then v5ee else decide (p0=(10:Int)) then (3:Int) else bif decide (p0=(13:Int)) then (8:Int) else bif decide (p0=(15:Int)) then (1:Int) else (0:Int)
def zwZ:PnT:=⟨[.int .i64],[.int .i64],fun x=>zCQ x⟩
def zws:TA :=
 qk .eql 0 1<|.subp [.bool] (qe 1 (qj 0 1) (qk .eql 0 14<|qj 0 2)) 1<|qe 2 (.jmp 0 false [(qz 9)]) (qk .eql 0 2<|.subp [.bool] (qe 3 (qj 0 3) (qk .eql 0 3<|.subp [.bool] (qe 4 (qj 0 4) (qk .eql 0 4<|.subp [.bool] (qe 5 (qj 0 5) (qk .eql 0 5<|.subp [.bool] (qe 6 (qj 0 6) (qk .eql 0 6<|.subp [.bool] (qe 7 (qj 0 7) (qk .eql 0 7<|.subp [.bool] (qe 8 (qj 0 8) (qk .eql 0 8<|.subp [.bool] (qe 9 (qj 0 9) (qk .eql 0 11<|qj 0 10)) 1<|qj 0 10)) 1<|qj 0 9)) 1<|qj 0 8)) 1<|qj 0 7)) 1<|qj 0 6)) 1<|qj 0 5)) 1<|qe 4 (.jmp 0 false [(qz 7)]) (qk .eql 0 9<|.subp [.bool] (qe 5 (qj 0 5) (qk .eql 0 10<|qj 0 6)) 1<|qe 6 (.jmp 0 false [(qz 3)]) (qk .eql 0 13<|qe 7 (.jmp 0 false [(qz 8)]) (qk .eql 0 15<|qe 8 (.jmp 0 false [(qz 1)]) (.jmp 0 false [(qz 0)])))))
theorem zwj:zaM cx 12 188=some zws.erase:=by kernel_rfl
theorem zEe:FnOk cx 12 noC 188 zwZ.fn:=rp_ zwj .nil
def zfl (p0:Int):Bool :=
 decide ((2:Int)≤p0)
def zkk:PnT:=⟨[.int .i64],[.bool],fun x=>zfl x⟩
def zrG:TA :=
 qk .geq 0 2<|qj 0 1
theorem zrb:zaM cx 12 199=some zrG.erase:=by kernel_rfl
theorem zqD:FnOk cx 12 noC 199 zkk.fn:=rp_ zrb .nil
def zda (p0:za4) (p1:Int):Option (Int×Int) :=
 let v4:Int:=(List.length (zac (zae p0)):Int)
 (remO p1 v4).bind fun v5=>(quoO .i64 p1 v4).bind fun v6=>some ((v5,v6))
def ze0:FnT:=⟨[zbq,.int .i64],[.int .i64,.int .i64],fun x=>zda x.1 x.2⟩
def zn6:TA :=
 qf 0 0<|qf 0 2<|ql 3<|qb .rem 1 4<|qb .quo 1 4<|.jmp 0 false (qv [5,6])
theorem zoA:zaM cx 12 204=some zn6.erase:=by kernel_rfl
theorem zgG:FnOk cx 12 noC 204 ze0:=rf_ zoA .nil
def zgN (x1:List Int) (s:(Int×Int)):Option ((Int×Int)⊕Int) :=
 if decide (s.2<(4:Int)) then
 (getO x1 s.2).bind fun v5=>(shlO .u32 s.1 (8:Int)).bind fun v6=>some (Sum.inl (bOr .u32 v6 (wu32 v5),w64 (s.2 + (1:Int))))
 else
 some (Sum.inr (s.1))
def zjy (p0:List Int):Option Int :=
 let v1:List Int:=cpyT ([(0:Int),(0:Int),(0:Int),(0:Int)]:List Int) p0
 (zaQ (zgN v1) ((0:Int),(0:Int)):Option Int).bind fun v2=>some (v2)
def zpE:FnT:=⟨[.sl (.int .u8)],[.int .u32],fun x=>zjy x⟩
def zyU:TA :=
 .primH .cpy (.arr 4 (.int .u8)) [.c (.agg [(.int .u8 0),(.int .u8 0),(.int .u8 0),(.int .u8 0)]),.v 0]<|.sub0 [.int .u32] (.loop [.int .u32,.int .i64] [.c (.int .u32 0),(qz 0)] (qk .lss 3 4<|qe 4 (qg 1 3<|.prim (.bin .shl) [.v 2,.c (.int .u64 8)]<|.prim (.conv .u32) [.v 5]<|qb .or 6 7<|qk .add 3 1<|.jmp 0 true (qv [8,9])) (qj 1 2))) 1<|qj 0 2
theorem zyJ:zaM cx 12 216=some zyU.erase:=by kernel_rfl
theorem ztR:FnOk cx 12 noC 216 zpE:=rf_ zyJ .nil
def zfP (s:(Int×Int)):Option ((Int×Int)⊕Int) :=
 if decide (s.2<(8:Int)) then
 (shrO .u32 s.1 (1:Int)).bind fun v13=>some (Sum.inl (bif decide ((bAnd .u32 s.1 (1:Int))=(1:Int)) then bXor .u32 v13 (3988292384:Int) else v13,w64 (s.2 + (1:Int))))
 else
 some (Sum.inr (s.1))
def zhX (x0:List Int) (x1:Int) (s:(Int×Int)):Option ((Int×Int)⊕Int) :=
 if decide (s.2<x1) then
 (getO x0 s.2).bind fun v5=>(zaQ zfP (bXor .u32 s.1 (wu32 v5),(0:Int)):Option Int).bind fun v8=>some (Sum.inl (v8,w64 (s.2 + (1:Int))))
 else
 some (Sum.inr (s.1))
def zhp (p0:List Int):Option Int :=
 let v1:Int:=(p0.length:Int)
 (zaQ (zhX p0 v1) ((4294967295:Int),(0:Int)):Option Int).bind fun v2=>some ((bNot .u32 v2))
def zny:FnT:=⟨[.sl (.int .u8)],[.int .u32],fun x=>zhp x⟩
def ztx:TA :=
 ql 0<|.sub0 [.int .u32] (.loop [.int .u32,.int .i64] [.c (.int .u32 4294967295),(qz 0)] (qb .lss 3 1<|qe 4 (qg 0 3<|.prim (.conv .u32) [.v 5]<|qb .xor 2 6<|.sub0 [.int .u32] (.loop [.int .u32,.int .i64] [.v 7,(qz 0)] (qk .lss 9 8<|qe 10 (.prim (.bin .and) [.v 8,.c (.int .u32 1)]<|.prim (.bin .eql) [.v 11,.c (.int .u32 1)]<|.prim (.bin .shr) [.v 8,.c (.int .u64 1)]<|.subp [.int .u32] (qe 12 (.prim (.bin .xor) [.v 13,.c (.int .u32 3988292384)]<|qj 0 14) (qj 0 13)) 1<|qk .add 9 1<|.jmp 0 true (qv [14,15])) (qj 1 8))) 1<|qk .add 3 1<|.jmp 0 true (qv [8,9])) (qj 1 2))) 1<|.prim (.un .xor) [.v 2]<|qj 0 3
theorem zu9:zaM cx 12 217=some ztx.erase:=by kernel_rfl
theorem zuo:FnOk cx 12 noC 217 zny:=rf_ zu9 .nil
def bytes_Equal (p0 p1:List Int):Option Bool :=
 (b2sO p0).bind fun v2 =>
 (b2sO p1).bind fun v3 =>
 some ((decide (v2=v3)))
def zoY:FnT:=⟨[.sl (.int .u8),.sl (.int .u8)],[.bool],fun x=>bytes_Equal x.1 x.2⟩
def zpt:TA :=
 .prim .b2s [.v 0]<|.prim .b2s [.v 1]<|qb .eql 2 3<|qj 0 4
theorem zoG:zaM cx 12 219=some zpt.erase:=by kernel_rfl
theorem zxa:FnOk cx 12 noC 219 zoY:=rf_ zoG .nil
def zaV (p0:Int):Bool :=
 (decide ((0:Int)≤p0))&&(decide (p0≤(255:Int)))
def zmU:PnT:=⟨[.int .i64],[.bool],fun x=>zaV x⟩
def zmH:TA :=
 .subp [.bool] (qk .geq 0 0<|qe 1 (qk .leq 0 255<|qj 0 2) (qt 0 false)) 1<|qj 0 1
theorem zmI:zaM cx 12 230=some zmH.erase:=by kernel_rfl
theorem zvv:FnOk cx 12 noC 230 zmU.fn:=rp_ zmI .nil
def zgR (p0:Int):Option (List Int) :=
 (shrO .u32 p0 (24:Int)).bind fun v1=>(shrO .u32 p0 (16:Int)).bind fun v3=>(shrO .u32 p0 (8:Int)).bind fun v5=>some (([wu8 v1,wu8 v3,wu8 v5,wu8 p0]:List Int))
def zhG:FnT:=⟨[.int .u32],[.sl (.int .u8)],fun x=>zgR x⟩
def zqA:TA :=
 .prim (.bin .shr) [.v 0,.c (.int .u64 24)]<|.prim (.conv .u8) [.v 1]<|.prim (.bin .shr) [.v 0,.c (.int .u64 16)]<|.prim (.conv .u8) [.v 3]<|.prim (.bin .shr) [.v 0,.c (.int .u64 8)]<|.prim (.conv .u8) [.v 5]<|.prim (.conv .u8) [.v 0]<|.mkL (.int .u8) (qv [2,4,6,7])<|qj 0 8
theorem zqH:zaM cx 12 232=some zqA.erase:=by kernel_rfl
theorem zkU:FnOk cx 12 noC 232 zhG:=rf_ zqH .nil
def za2 (x0:List Bool) (x1:Bool) (x2 s:Int):Option (Int⊕Unit⊕Int) :=
 if decide (s<x2) then
 (getO x0 s).bind fun v5=>if decide (x1=v5) then
 some (Sum.inr (Sum.inr (s)))
 else
 some (Sum.inl (w64 (s + (1:Int))))
 else
 some (Sum.inr (Sum.inl ()))
def zb5 (p0:List Bool) (p1:Bool):Option Int :=
 let v2:Int:=(p0.length:Int)
 zbm (zaQ (za2 p0 p1 v2) (0:Int):Option (Unit⊕Int)) fun v3=>some ((-1:Int))
def zer:FnT:=⟨[.sl .bool,.bool],[.int .i64],fun x=>zb5 x.1 x.2⟩
def zey:TA :=
 ql 0<|.sub1 [] (.loop [.int .i64] [(qz 0)] (qb .lss 3 2<|qe 4 (qg 0 3<|qb .eql 1 5<|qe 6 (qj 2 3) (qk .add 3 1<|qr 0 7)) (qx 1))) 0<|.jmp 0 false [.c (.int .i64 (-1))]
theorem zeq:zaM cx 12 238=some zey.erase:=by kernel_rfl
theorem zir:FnOk cx 12 noC 238 zer:=rf_ zeq .nil
def zmv:TA :=
 qf 0 0<|.sub0 [.bool] (.sub0 [.int .i64] (ql 1<|.sub1 [] (.loop [.int .i64] [(qz 0)] (qb .lss 3 2<|qe 4 (qg 1 3<|.callp 31 zsc [.v 5] 1<|qe 6 (qj 2 3) (qk .add 3 1<|qr 0 7)) (qx 1))) 0<|.jmp 0 false [.c (.int .i64 (-1))]) 1<|qk .geq 2 0<|qj 0 3) 1<|qn 2<|qj 0 3
theorem zvQ:zaM cx 12 12=some zmv.erase:=by kernel_rfl
def zfW (x0 x1:Int) (s:(Int×(List Entry))):Option ((Int×(List Entry))⊕(List Entry)) :=
 if decide (s.1<x1) then
 (zos x0).bind fun v11=>(appO 32 s.2 ([v11.1]:List Entry)).bind fun v14=>some (Sum.inl (w64 (s.1 + (1:Int)),v14))
 else
 some (Sum.inr (s.2))
def zf2 (x0 x1:Int) (s:(Int×(List (List Int))×(List (List Int)))):Option ((Int×(List (List Int))×(List (List Int)))⊕((List (List Int))×(List (List Int)))) :=
 if decide (s.1<x0) then
 (repO (0:Int) 8 x1 x1).bind fun v10=>(appO 24 s.2.1 ([v10]:List (List Int))).bind fun v12=>(repO (0:Int) 4 x1 x1).bind fun v13=>(appO 24 s.2.2 ([v13]:List (List Int))).bind fun v15=>some (Sum.inl (w64 (s.1 + (1:Int)),v12,v15))
 else
 some (Sum.inr ((s.2.1,s.2.2)))
def zdZ (p0 p1:Int):Option (zbe×Int) :=
 if (decide (p0<(1:Int)))||((decide ((4:Int)<p0))||((decide (p1<(1:Int)))||(decide ((16:Int)<p1)))) then
 some (((zaB ([]:List (List Int)) ([]:List (List Int)) ([]:List Wait) ([]:List Int) ([]:List Entry) ([]:List Int) (za5 ([]:List (List Int)))),(1:Int)))
 else
 (repO (zbx (0:Int) false false false false false (0:Int) (0:Int) (0:Int)) 40 p0 p0).bind fun v3=>(repO (0:Int) 4 p1 p1).bind fun v4=>(repO (0:Int) 8 p1 p1).bind fun v5=>(zaQ (zf2 p0 p1) ((0:Int),([]:List (List Int)),([]:List (List Int))):Option ((List (List Int))×(List (List Int)))).bind fun v6=>(zaQ (zfW p0 p1) ((0:Int),([]:List Entry)):Option (List Entry)).bind fun v8=>some ((zaB v6.1 v6.2 v3 v4 v8 v5 (za5 ([]:List (List Int))),(0:Int)))
def zhm:FnT:=⟨[.int .i64,.int .i64],[zbD,.int .i64],fun x=>zdZ x.1 x.2⟩
def zt8:TA :=
 .subp [.bool] (qk .lss 0 1<|qe 2 (qt 0 true) (qk .gtr 0 4<|qe 3 (qt 0 true) (qk .lss 1 1<|qe 4 (qt 0 true) (qk .gtr 1 16<|qj 0 5)))) 1<|qe 2 (.jmp 0 false [.c (.agg [.nil,.nil,.nil,.nil,.nil,.nil,(.agg [.nil])]),(qz 1)]) (.primH (.rep (.agg [(.int .i64 0),(.bool false),(.bool false),(.bool false),(.bool false),(.bool false),(.int .i64 0),(.int .i64 0),(.int .u32 0)]) 40) (.sl zd2) (qv [0,0])<|.primH (.rep (.int .u32 0) 4) (.sl (.int .u32)) (qv [1,1])<|.primH (.rep (.int .i64 0) 8) (.sl (.int .i64)) (qv [1,1])<|.sub0 [.sl (.sl (.int .i64)),.sl (.sl (.int .u32))] (.loop [.int .i64,.sl (.sl (.int .i64)),.sl (.sl (.int .u32))] [(qz 0),.c .nil,.c .nil] (qb .lss 6 0<|qe 9 (.primH (.rep (.int .i64 0) 8) (.sl (.int .i64)) (qv [1,1])<|.mkL (.sl (.int .i64)) [.v 10]<|qa 24 7 11<|.primH (.rep (.int .u32 0) 4) (.sl (.int .u32)) (qv [1,1])<|.mkL (.sl (.int .u32)) [.v 13]<|qa 24 8 14<|qk .add 6 1<|.jmp 0 true (qv [16,12,15])) (.jmp 1 false (qv [7,8])))) 2<|.sub0 [.sl zbF] (.loop [.int .i64,.sl zbF] [(qz 0),.c .nil] (qb .lss 8 1<|qe 10 (.call 53 zvg [.v 0] 2<|.mkL zbF [.v 11]<|qa 32 9 13<|qk .add 8 1<|.jmp 0 true (qv [15,14])) (qj 1 9))) 1<|.mkS zcX [.v 6,.v 7,.v 3,.v 4,.v 8,.v 5,.c (.agg [.nil])]<|.jmp 0 false [.v 9,(qz 0)])
theorem zsS:zaM cx 12 25=some zt8.erase:=by kernel_rfl
theorem zja:FnOk cx 12 noC 25 zhm:=rf_ zsS (.cons zAN .nil)
def zf7 (x1 x3:Int) (s:(Int×(List (List Int)))):Option ((Int×(List (List Int)))⊕(List (List Int))) :=
 if decide (s.1<x1) then
 (repO (0:Int) 4 x3 x3).bind fun v9=>(appO 24 s.2 ([v9]:List (List Int))).bind fun v11=>some (Sum.inl (w64 (s.1 + (1:Int)),v11))
 else
 some (Sum.inr (s.2))
def zoz (p0 p1:Int):Option (za4×Int) :=
 if (decide (p0<(1:Int)))||((decide ((64:Int)<p0))||((decide (p1<(1:Int)))||(decide ((8:Int)<p1)))) then
 some (((zaX (zaY ([]:List (List Int)) ([]:List Int) (0:Int)) (0:Int) (0:Int) ([]:List Undo)),(1:Int)))
 else
 (ziS p0 p1).bind fun v3=>(if (decide (p1<(1:Int)))||((decide ((8:Int)<p1))||((decide (v3<(1:Int)))||(decide ((64:Int)<v3)))) then
 some ((([]:List (List Int)),([]:List Int)))
 else
 (repO (0:Int) 4 v3 v3).bind fun v5=>(zaQ (zf7 p1 v3) ((0:Int),([]:List (List Int))):Option (List (List Int))).bind fun v6=>some ((v6,v5)):Option ((List (List Int))×(List Int))).bind fun v4=>some ((zaX (zaY v4.1 v4.2 (0:Int)) p0 (0:Int) ([]:List Undo),(0:Int)))
def zuQ:FnT:=⟨[.int .i64,.int .i64],[zbq,.int .i64],fun x=>zoz x.1 x.2⟩
def zsG:TA :=
 .subp [.bool] (qk .lss 0 1<|qe 2 (qt 0 true) (qk .gtr 0 64<|qe 3 (qt 0 true) (qk .lss 1 1<|qe 4 (qt 0 true) (qk .gtr 1 8<|qj 0 5)))) 1<|qe 2 (.jmp 0 false [.c (.agg [(.agg [.nil,.nil,(.int .i64 0)]),(.int .i64 0),(.int .i64 0),.nil]),(qz 1)]) (.call 55 zkG (qv [0,1]) 1<|.sub0 [.no,.sl (.sl (.int .u32)),.sl (.int .u32)] (.subp [.bool] (qk .lss 1 1<|qe 4 (qt 0 true) (qk .gtr 1 8<|qe 5 (qt 0 true) (qk .lss 3 1<|qe 6 (qt 0 true) (qk .gtr 3 64<|qj 0 7)))) 1<|qe 4 (.jmp 0 false [(qz 1),.c .nil,.c .nil]) (.primH (.rep (.int .u32 0) 4) (.sl (.int .u32)) (qv [3,3])<|.sub0 [.sl (.sl (.int .u32))] (.loop [.int .i64,.sl (.sl (.int .u32))] [(qz 0),.c .nil] (qb .lss 6 1<|qe 8 (.primH (.rep (.int .u32 0) 4) (.sl (.int .u32)) (qv [3,3])<|.mkL (.sl (.int .u32)) [.v 9]<|qa 24 7 10<|qk .add 6 1<|.jmp 0 true (qv [12,11])) (qj 1 7))) 1<|.jmp 0 false [(qz 0),.v 6,.v 5])) 3<|.mkS zb7 [.v 5,.v 6,(qz 0)]<|.mkS zc8 [.v 7,.v 0,(qz 0),.c .nil]<|.jmp 0 false [.v 8,(qz 0)])
theorem zuO:zaM cx 12 26=some zsG.erase:=by kernel_rfl
theorem zBz:FnOk cx 12 noC 26 zuQ:=rf_ zuO (.cons zq5 .nil)
def zeY (p0:Int):Bool :=
 !(zfT p0)
def ziH:PnT:=⟨[.int .i64],[.bool],fun x=>zeY x⟩
def ziJ:TA :=
 .callp 45 zim [.v 0] 1<|qn 1<|qj 0 2
theorem ziA:zaM cx 12 47=some ziJ.erase:=by kernel_rfl
theorem zqd:FnOk cx 12 noC 47 ziH.fn:=rp_ ziA (.cons zme .nil)
def zh9 (x2:List Mark) (x3:Int) (s:(Int×Int×Int)):Option ((Int×Int×Int)⊕Unit⊕Bool) :=
 if decide (s.2.2<x3) then
 (getO x2 s.2.2).bind fun v8=>if (!(zlK (zaU v8)))||((!(zlK (zbZ v8)))||((decide ((zaU v8)≤s.1))||((decide ((zbZ v8)≤s.2.1))||(decide ((4:Int)<(List.length (za9 v8):Int)))))) then
 some (Sum.inr (Sum.inr (false)))
 else
 some (Sum.inl (zaU v8,zbZ v8,w64 (s.2.2 + (1:Int))))
 else
 some (Sum.inr (Sum.inl ()))
def zeg (p0:Clock):Option Bool :=
 if (decide ((List.length (zao p0):Int)<(1:Int)))||((decide ((8:Int)<(List.length (zao p0):Int)))||((decide ((zbA p0)<(1:Int)))||(decide ((1048576:Int)<(zbA p0))))) then
 some (false)
 else
 let v3:Int:=(List.length (zao p0):Int)
 zbm (zaQ (zh9 (zao p0) v3) ((-1:Int),(-1:Int),(0:Int)):Option (Unit⊕Bool)) fun v4=>some (true)
def zeV:FnT:=⟨[zbW],[.bool],fun x=>zeg x⟩
def zo2:TA :=
 .subp [.bool] (qf 0 0<|ql 1<|qk .lss 2 1<|qe 3 (qt 0 true) (qf 0 0<|ql 4<|qk .gtr 5 8<|qe 6 (qt 0 true) (qf 1 0<|qk .lss 7 1<|qe 8 (qt 0 true) (qf 1 0<|qk .gtr 9 1048576<|qj 0 10)))) 1<|qe 1 (qt 0 false) (qf 0 0<|ql 2<|.sub1 [] (.loop [.int .i64,.int .i64,.int .i64] [.c (.int .i64 (-1)),.c (.int .i64 (-1)),(qz 0)] (qb .lss 6 3<|qe 7 (qg 2 6<|.subp [.bool] (qf 0 8<|.callp 98 zhS [.v 9] 1<|qn 10<|qe 11 (qt 0 true) (qf 1 8<|.callp 98 zhS [.v 12] 1<|qn 13<|qe 14 (qt 0 true) (qf 0 8<|qb .leq 15 4<|qe 16 (qt 0 true) (qf 1 8<|qb .leq 17 5<|qe 18 (qt 0 true) (qf 2 8<|ql 19<|qk .gtr 20 4<|qj 0 21))))) 1<|qe 9 (qt 2 false) (qN 2 0 8<|qk .add 6 1<|.jmp 0 true (qv [10,11,12]))) (qx 1))) 0<|qt 0 true)
theorem znP:zaM cx 12 57=some zo2.erase:=by kernel_rfl
theorem zgt:FnOk cx 12 noC 57 zeV:=rf_ znP (.cons zkr (.cons zkr .nil))
def zhO (p0:zbe):Option Bool :=
 let v2:Int:=(List.length (zab p0):Int)
 let v4:Int:=(List.length (zad p0):Int)
 if (decide (v2<(1:Int)))||((decide ((4:Int)<v2))||((decide (v4<(1:Int)))||(decide ((16:Int)<v4)))) then
 some (false)
 else
 ((zft (zai p0) v2 v4).bind fun v7=>if v7 then
 (zfe (zam p0) v2 v4).bind fun v9=>if v9 then
 if decide ((List.length (zay p0):Int)=v4) then
 some ((decide ((List.length (zal p0):Int)=v4)))
 else
 some (false)
 else
 some (false)
 else
 some (false):Option Bool).bind fun v6=>some (v6)
def zmo:FnT:=⟨[zbD],[.bool],fun x=>zhO x⟩
def zmx:TA :=
 qf 2 0<|ql 1<|qf 3 0<|ql 3<|.subp [.bool] (qk .lss 2 1<|qe 5 (qt 0 true) (qk .gtr 2 4<|qe 6 (qt 0 true) (qk .lss 4 1<|qe 7 (qt 0 true) (qk .gtr 4 16<|qj 0 8)))) 1<|qe 5 (qt 0 false) (.sub0 [.bool] (qf 0 0<|.call 128 zj4 (qv [6,2,4]) 1<|qe 7 (qf 1 0<|.call 129 zg4 (qv [8,2,4]) 1<|qe 9 (qf 4 0<|ql 10<|qb .eql 11 4<|qe 12 (qf 5 0<|ql 13<|qb .eql 14 4<|qj 0 15) (qt 0 false)) (qt 0 false)) (qt 0 false)) 1<|qj 0 6)
theorem zmi:zaM cx 12 72=some zmx.erase:=by kernel_rfl
theorem zvJ:FnOk cx 12 noC 72 zmo:=rf_ zmi (.cons zr8 (.cons zng .nil))
def zgB (x4:List (List Int)) (x5 s:Int):Option (Int⊕Unit⊕Int) :=
 if decide (s<x5) then
 (getO x4 s).bind fun v8=>if zkI v8 then
 some (Sum.inr (Sum.inr (s)))
 else
 some (Sum.inl (w64 (s + (1:Int))))
 else
 some (Sum.inr (Sum.inl ()))
def zfg (p0:Pool):Option Bool :=
 (if decide ((List.length (zaf p0):Int)≤(64:Int)) then
 ((let v5:Int:=(List.length (zaf p0):Int)
 zbm (zaQ (zgB (zaf p0) v5) (0:Int):Option (Unit⊕Int)) fun v6=>some ((-1:Int)):Option Int).bind fun v5=>some ((decide ((0:Int)≤v5))):Option Bool).bind fun v5=>some ((!v5))
 else
 some (false):Option Bool).bind fun v1=>some (v1)
def zga:FnT:=⟨[zb3],[.bool],fun x=>zfg x⟩
def zrS:TA :=
 .sub0 [.bool] (qf 0 0<|ql 1<|qk .leq 2 64<|qe 3 (qf 0 0<|.sub0 [.bool] (.sub0 [.int .i64] (ql 4<|.sub1 [] (.loop [.int .i64] [(qz 0)] (qb .lss 6 5<|qe 7 (qg 4 6<|.callp 131 zmK [.v 8] 1<|qe 9 (qj 2 6) (qk .add 6 1<|qr 0 10)) (qx 1))) 0<|.jmp 0 false [.c (.int .i64 (-1))]) 1<|qk .geq 5 0<|qj 0 6) 1<|qn 5<|qj 0 6) (qt 0 false)) 1<|qj 0 1
theorem zrm:zaM cx 12 73=some zrS.erase:=by kernel_rfl
theorem zh0:FnOk cx 12 noC 73 zga:=rf_ zrm (.cons zvM .nil)
def zgz (p0:Int):Bool :=
 !(zbo p0 (5:Int))
def zlg:PnT:=⟨[.int .i64],[.bool],fun x=>zgz x⟩
def zkt:TA :=
 .callp 74 zcr [.v 0,(qz 5)] 1<|qn 1<|qj 0 2
theorem zko:zaM cx 12 75=some zkt.erase:=by kernel_rfl
theorem zsO:FnOk cx 12 noC 75 zlg.fn:=rp_ zko (.cons zcP .nil)
def ze5 (x8:List Int) (x9 s:Int):Option (Int⊕Unit⊕Int) :=
 if decide (s<x9) then
 (getO x8 s).bind fun v12=>if zfy v12 then
 some (Sum.inr (Sum.inr (s)))
 else
 some (Sum.inl (w64 (s + (1:Int))))
 else
 some (Sum.inr (Sum.inl ()))
def zeF (x1:List Wait) (x2 s:Int):Option (Int⊕Unit⊕Int) :=
 if decide (s<x2) then
 (getO x1 s).bind fun v5=>if zfM v5 then
 some (Sum.inr (Sum.inr (s)))
 else
 some (Sum.inl (w64 (s + (1:Int))))
 else
 some (Sum.inr (Sum.inl ()))
def zfX (p0:zbe):Option Bool :=
 ((let v2:Int:=(List.length (zab p0):Int)
 zbm (zaQ (zeF (zab p0) v2) (0:Int):Option (Unit⊕Int)) fun v3=>some ((-1:Int)):Option Int).bind fun v2=>some ((decide ((0:Int)≤v2))):Option Bool).bind fun v2=>(if decide ((List.length (zaf (zax p0)):Int)=(0:Int)) then
 if !v2 then
 ((let v9:Int:=(List.length (zal p0):Int)
 zbm (zaQ (ze5 (zal p0) v9) (0:Int):Option (Unit⊕Int)) fun v10=>some ((-1:Int)):Option Int).bind fun v9=>some ((decide ((0:Int)≤v9))):Option Bool).bind fun v9=>some ((!v9))
 else
 some (false)
 else
 some (false):Option Bool).bind fun v3=>some (v3)
def zic:FnT:=⟨[zbD],[.bool],fun x=>zfX x⟩
def zmG:TA :=
 qf 2 0<|.sub0 [.bool] (.sub0 [.int .i64] (ql 1<|.sub1 [] (.loop [.int .i64] [(qz 0)] (qb .lss 3 2<|qe 4 (qg 1 3<|.callp 166 zjK [.v 5] 1<|qe 6 (qj 2 3) (qk .add 3 1<|qr 0 7)) (qx 1))) 0<|.jmp 0 false [.c (.int .i64 (-1))]) 1<|qk .geq 2 0<|qj 0 3) 1<|.sub0 [.bool] (qf 6 0<|qf 0 3<|ql 4<|qk .eql 5 0<|qe 6 (qn 2<|qe 7 (qf 5 0<|.sub0 [.bool] (.sub0 [.int .i64] (ql 8<|.sub1 [] (.loop [.int .i64] [(qz 0)] (qb .lss 10 9<|qe 11 (qg 8 10<|.callp 167 zjX [.v 12] 1<|qe 13 (qj 2 10) (qk .add 10 1<|qr 0 14)) (qx 1))) 0<|.jmp 0 false [.c (.int .i64 (-1))]) 1<|qk .geq 9 0<|qj 0 10) 1<|qn 9<|qj 0 10) (qt 0 false)) (qt 0 false)) 1<|qj 0 3
theorem zmk:zaM cx 12 117=some zmG.erase:=by kernel_rfl
theorem zmL:FnOk cx 12 noC 117 zic:=rf_ zmk (.cons zr9 (.cons zr7 .nil))
def zvp (p0 p1 p2:Int):(Int×Bool) :=
 (bif decide (p0=(2:Int)) then wu32 (p1 + p2) else bif decide (p0=(3:Int)) then wu32 (p1 - p2) else bif decide (p0=(4:Int)) then wu32 (p1 * p2) else bif decide (p0=(5:Int)) then bAnd .u32 p1 p2 else bif decide (p0=(6:Int)) then bXor .u32 p1 p2 else bif decide (p0=(7:Int)) then zlD (decide (p1=p2)) else bif decide (p0=(8:Int)) then zlD (decide (p1<p2)) else (0:Int),(decide (p0=(2:Int)))||((decide (p0=(3:Int)))||((decide (p0=(4:Int)))||((decide (p0=(5:Int)))||((decide (p0=(6:Int)))||((decide (p0=(7:Int)))||((decide (p0=(8:Int)))&&true)))))))
def zzF:PnT:=⟨[.int .i64,.int .u32,.int .u32],[.int .u32,.bool],fun x=>zvp x.1 x.2.1 x.2.2⟩
def zyK:TA :=
 qk .eql 0 2<|qe 3 (qb .add 1 2<|.jmp 0 false [.v 4,.c (.bool true)]) (qk .eql 0 3<|qe 4 (qb .sub 1 2<|.jmp 0 false [.v 5,.c (.bool true)]) (qk .eql 0 4<|qe 5 (qb .mul 1 2<|.jmp 0 false [.v 6,.c (.bool true)]) (qk .eql 0 5<|qe 6 (qb .and 1 2<|.jmp 0 false [.v 7,.c (.bool true)]) (qk .eql 0 6<|qe 7 (qb .xor 1 2<|.jmp 0 false [.v 8,.c (.bool true)]) (qk .eql 0 7<|qe 8 (qb .eql 1 2<|.callp 182 zki [.v 9] 1<|.jmp 0 false [.v 10,.c (.bool true)]) (qk .eql 0 8<|qe 9 (qb .lss 1 2<|.callp 182 zki [.v 10] 1<|.jmp 0 false [.v 11,.c (.bool true)]) (.jmp 0 false [.c (.int .u32 0),.c (.bool false)])))))))
theorem zyY:zaM cx 12 133=some zyK.erase:=by kernel_rfl
theorem zEo:FnOk cx 12 noC 133 zzF.fn:=rp_ zyY (.cons zqX (.cons zqX .nil))
def zeD (x8:List Int) (x9 s:Int):Option (Int⊕Unit⊕Int) :=
 if decide (s<x9) then
 (getO x8 s).bind fun v12=>if zij v12 then
 some (Sum.inr (Sum.inr (s)))
 else
 some (Sum.inl (w64 (s + (1:Int))))
 else
 some (Sum.inr (Sum.inl ()))
def zdG (x13:List Int) (x14:Int) (s:(Int×(List Int))):Option ((Int×(List Int))⊕(List Int)) :=
 if decide (s.1<x14) then
 (getO x13 s.1).bind fun v18=>(idxO (List.length s.2:Int) s.1).bind fun v19=>(getO s.2 v19).bind fun v20=>(idxO (List.length s.2:Int) s.1).bind fun v22=>(setO s.2 v22 (bXor .u32 v20 v18)).bind fun v23=>some (Sum.inl (w64 (s.1 + (1:Int)),v23))
 else
 some (Sum.inr (s.2))
def zcZ (x5:List (List Int)) (x9:Int) (s:(Int×(List Int))):Option ((Int×(List Int))⊕(List Int)) :=
 if decide (s.1<x9) then
 (getO x5 s.1).bind fun v13=>let v14:Int:=(v13.length:Int)
 (zaQ (zdG v13 v14) ((0:Int),s.2):Option (List Int)).bind fun v15=>some (Sum.inl (w64 (s.1 + (1:Int)),v15))
 else
 some (Sum.inr (s.2))
def zew (p0:zcn):Option Bool :=
 (zgw p0).bind fun v1=>if !v1 then
 some (false)
 else
 if decide ((0:Int)<(zaq p0)) then
 (getO (zac p0) (w64 ((zaq p0) - (1:Int)))).bind fun v8=>((let v9:Int:=(v8.length:Int)
 zbm (zaQ (zeD v8 v9) (0:Int):Option (Unit⊕Int)) fun v10=>some ((-1:Int)):Option Int).bind fun v9=>some ((decide ((0:Int)≤v9))):Option Bool).bind fun v9=>some ((!v9))
 else
 let v7:Int:=(List.length (zat p0):Int)
 ((repO (0:Int) 4 v7 v7).bind fun v8=>let v9:Int:=(List.length (zac p0):Int)
 (zaQ (zcZ (zac p0) v9) ((0:Int),v8):Option (List Int)).bind fun v10=>some (v10):Option (List Int)).bind fun v8=>(zb4 v8 (zat p0)).bind fun v10=>some (v10)
def zfL:FnT:=⟨[zgU],[.bool],fun x=>zew x⟩
def zmY:TA :=
 .call 183 zkg [.v 0] 1<|qn 1<|qe 2 (qt 0 false) (qf 2 0<|qk .gtr 3 0<|qe 4 (qf 0 0<|qf 2 0<|qk .sub 6 1<|qg 5 7<|.sub0 [.bool] (.sub0 [.int .i64] (ql 8<|.sub1 [] (.loop [.int .i64] [(qz 0)] (qb .lss 10 9<|qe 11 (qg 8 10<|.callp 185 zjI [.v 12] 1<|qe 13 (qj 2 10) (qk .add 10 1<|qr 0 14)) (qx 1))) 0<|.jmp 0 false [.c (.int .i64 (-1))]) 1<|qk .geq 9 0<|qj 0 10) 1<|qn 9<|qj 0 10) (qN 2 0 0<|ql 6<|.sub0 [.sl (.int .u32)] (.primH (.rep (.int .u32 0) 4) (.sl (.int .u32)) (qv [7,7])<|ql 5<|.sub0 [.sl (.int .u32)] (.loop [.int .i64,.sl (.int .u32)] [(qz 0),.v 8] (qb .lss 10 9<|qe 12 (qg 5 10<|ql 13<|.sub0 [.sl (.int .u32)] (.loop [.int .i64,.sl (.int .u32)] [(qz 0),.v 11] (qb .lss 15 14<|qe 17 (qg 13 15<|qi 16 15<|qg 16 19<|qb .xor 20 18<|qi 16 15<|qs 16 22 21<|qk .add 15 1<|.jmp 0 true (qv [24,23])) (qj 1 16))) 1<|qk .add 10 1<|.jmp 0 true (qv [16,15])) (qj 1 11))) 1<|qj 0 10) 1<|qf 1 0<|.call 186 zdt (qv [8,9]) 1<|qj 0 10))
theorem zml:zaM cx 12 134=some zmY.erase:=by kernel_rfl
theorem zii:FnOk cx 12 noC 134 zfL:=rf_ zml (.cons zvf (.cons zsb (.cons zgv .nil)))
end Go.Proofs.YtplfgkjjgflhkaaGreat
