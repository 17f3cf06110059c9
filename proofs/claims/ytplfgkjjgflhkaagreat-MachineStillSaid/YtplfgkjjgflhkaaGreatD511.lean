/- The types of this cut, and its functions as functions of plain typed data. Printed by a program of this claim's prover; each is checked here to be what the executor makes of the code. -/
import Derived.Test.YtplfgkjjgflhkaaGreatProg
import Derived.Test.YtplfgkjjgflhkaaGreatLim
import Derived.KernelRfl
set_option linter.unusedVariables false
set_option maxRecDepth 100000
noncomputable section
namespace Go.Proofs.YtplfgkjjgflhkaaGreat
open Go.SX
def ql(i:Nat)(k:TA):TA:=.prim .len [.v i] k
def qg(i j:Nat)(k:TA):TA:=.prim .get [.v i,.v j] k
def qb(o:BinOp)(i j:Nat)(k:TA):TA:=.prim (.bin o) [.v i,.v j] k
def qk(o:BinOp)(i:Nat)(c:Int)(k:TA):TA:=.prim (.bin o) [.v i,.c (.int .i64 c)] k
def qe(i:Nat)(a b:TA):TA:=.ite (.v i) a b
def qr(l i:Nat):TA:=.jmp l true [.v i]
def qt(l:Nat)(b:Bool):TA:=.jmp l false [.c (.bool b)]
def qx(l:Nat):TA:=.jmp l false []
def qz(n:Int):At:=.c (.int .i64 n)
def qn(i:Nat)(k:TA):TA:=.prim (.un .not) [.v i] k
def qv(l:List Nat):List At:=l.map .v
def qf(j i:Nat)(k:TA):TA:=.prim (.fld j) [.v i] k
def qN:Nat→Nat→Nat→TA→TA
 |0,_,_,k=>k
 |n+1,j,i,k=>qf j i (qN n (j+1) i k)
def qc(b i:Nat)(k:TA):TA:=.prim (.clone b) [.v i] k
def qa(b i j:Nat)(k:TA):TA:=.prim (.app b) [.v i,.v j] k
def qj(l i:Nat):TA:=.jmp l false [.v i]
def qi(i j:Nat)(k:TA):TA:=.prim .idx [.v i,.v j] k
def qs(i j l:Nat)(k:TA):TA:=.prim .set [.v i,.v j,.v l] k
def qh(f i j:Nat)(k:TA):TA:=.prim (.setf f) [.v i,.v j] k
abbrev zFe:List Ty:=[.int .i64,.bool,.bool,.bool,.bool,.bool,.int .i64,.int .i64,.int .u32]
abbrev zd1:Ty:=.st zFe
abbrev Wait:Type:=Int×Bool×Bool×Bool×Bool×Bool×Int×Int×Int
def zbx (a:Int) (b c d e f:Bool) (g h i:Int):Wait:=(a,b,c,d,e,f,g,h,i)
def zaJ (x:Wait):Int:=x.1
def zba (x:Wait):Bool:=x.2.1
def zbH (x:Wait):Bool:=x.2.2.1
def zcE (x:Wait):Bool:=x.2.2.2.1
def zhv (x:Wait):Bool:=x.2.2.2.2.1
def zeq (x:Wait):Bool:=x.2.2.2.2.2.1
def zbZ (x:Wait):Int:=x.2.2.2.2.2.2.1
def zbf (x:Wait):Int:=x.2.2.2.2.2.2.2.1
def zcK (x:Wait):Int:=x.2.2.2.2.2.2.2.2
def zgt (x:Wait) (v:Bool):Wait:=(x.1,x.2.1,x.2.2.1,v,x.2.2.2.2.1,x.2.2.2.2.2.1,x.2.2.2.2.2.2.1,x.2.2.2.2.2.2.2.1,x.2.2.2.2.2.2.2.2)
def zhQ (x:Wait) (v:Bool):Wait:=(x.1,x.2.1,x.2.2.1,x.2.2.2.1,v,x.2.2.2.2.2.1,x.2.2.2.2.2.2.1,x.2.2.2.2.2.2.2.1,x.2.2.2.2.2.2.2.2)
def zgJ (x:Wait) (v:Bool):Wait:=(x.1,x.2.1,x.2.2.1,x.2.2.2.1,x.2.2.2.2.1,v,x.2.2.2.2.2.2.1,x.2.2.2.2.2.2.2.1,x.2.2.2.2.2.2.2.2)
def zgL (x:Wait) (v:Int):Wait:=(x.1,x.2.1,x.2.2.1,x.2.2.2.1,x.2.2.2.2.1,x.2.2.2.2.2.1,v,x.2.2.2.2.2.2.2.1,x.2.2.2.2.2.2.2.2)
def zkE (x:Wait) (v:Int):Wait:=(x.1,x.2.1,x.2.2.1,x.2.2.2.1,x.2.2.2.2.1,x.2.2.2.2.2.1,x.2.2.2.2.2.2.1,v,x.2.2.2.2.2.2.2.2)
def zhH (x:Wait) (v:Int):Wait:=(x.1,x.2.1,x.2.2.1,x.2.2.2.1,x.2.2.2.2.1,x.2.2.2.2.2.1,x.2.2.2.2.2.2.1,x.2.2.2.2.2.2.2.1,v)
@[simp] theorem Wait_dLine_mk a b c d e f g h i:zaJ (zbx a b c d e f g h i)=a:=rfl
@[simp] theorem Wait_dWrite_mk a b c d e f g h i:zba (zbx a b c d e f g h i)=b:=rfl
@[simp] theorem Wait_dBack_mk a b c d e f g h i:zbH (zbx a b c d e f g h i)=c:=rfl
@[simp] theorem Wait_dCame_mk a b c d e f g h i:zcE (zbx a b c d e f g h i)=d:=rfl
@[simp] theorem Wait_dOwn_mk a b c d e f g h i:zhv (zbx a b c d e f g h i)=e:=rfl
@[simp] theorem Wait_dKeep_mk a b c d e f g h i:zeq (zbx a b c d e f g h i)=f:=rfl
@[simp] theorem Wait_dNeed_mk a b c d e f g h i:zbZ (zbx a b c d e f g h i)=g:=rfl
@[simp] theorem Wait_dGot_mk a b c d e f g h i:zbf (zbx a b c d e f g h i)=h:=rfl
@[simp] theorem Wait_dVal_mk a b c d e f g h i:zcK (zbx a b c d e f g h i)=i:=rfl
@[simp] theorem Wait_deta (x:Wait):zbx (zaJ x) (zba x) (zbH x) (zcE x) (zhv x) (zeq x) (zbZ x) (zbf x) (zcK x)=x:=rfl
abbrev zuO:List Ty:=[.int .i64,.int .i64]
abbrev zdl:Ty:=.st zuO
abbrev zcm:Type:=Int×Int
def zbQ (a b:Int):zcm:=(a,b)
def zkl (x:zcm):Int:=x.1
def zmB (x:zcm):Int:=x.2
@[simp] theorem store_key_dspan_mk a b:zkl (zbQ a b)=a:=rfl
@[simp] theorem store_key_dat__mk a b:zmB (zbQ a b)=b:=rfl
@[simp] theorem store_key_deta (x:zcm):zbQ (zkl x) (zmB x)=x:=rfl
abbrev zJX:List Ty:=[.bool,.bool,.int .i64]
abbrev tDid:Ty:=.st zJX
abbrev Did:Type:=Bool×Bool×Int
def zeT (a b:Bool) (c:Int):Did:=(a,b,c)
def zc5 (x:Did):Bool:=x.1
def zeS (x:Did):Bool:=x.2.1
def zED (x:Did):Int:=x.2.2
def zhe (x:Did) (v:Bool):Did:=(v,x.2.1,x.2.2)
def zkP (x:Did) (v:Bool):Did:=(x.1,v,x.2.2)
def zqj (x:Did) (v:Int):Did:=(x.1,x.2.1,v)
@[simp] theorem Did_dRetired_mk a b c:zc5 (zeT a b c)=a:=rfl
@[simp] theorem Did_dBack_mk a b c:zeS (zeT a b c)=b:=rfl
@[simp] theorem Did_dTo_mk a b c:zED (zeT a b c)=c:=rfl
@[simp] theorem Did_deta (x:Did):zeT (zc5 x) (zeS x) (zED x)=x:=rfl
abbrev zIK:List Ty:=[.int .i64,.int .i64,.int .i64]
abbrev zr1:Ty:=.st zIK
abbrev Event:Type:=Int×Int×Int
def zor (a b c:Int):Event:=(a,b,c)
def zaO (x:Event):Int:=x.1
def zbd (x:Event):Int:=x.2.1
def zfG (x:Event):Int:=x.2.2
@[simp] theorem Event_dKind_mk a b c:zaO (zor a b c)=a:=rfl
@[simp] theorem Event_dN_mk a b c:zbd (zor a b c)=b:=rfl
@[simp] theorem Event_dK_mk a b c:zfG (zor a b c)=c:=rfl
@[simp] theorem Event_deta (x:Event):zor (zaO x) (zbd x) (zfG x)=x:=rfl
abbrev zJQ:List Ty:=[.int .i64,.int .i64,.int .i64,.int .i64,.int .u32]
abbrev tIns:Ty:=.st zJQ
abbrev Ins:Type:=Int×Int×Int×Int×Int
def zp7 (a b c d e:Int):Ins:=(a,b,c,d,e)
def zbk (x:Ins):Int:=x.1
def zkY (x:Ins):Int:=x.2.1
def zqQ (x:Ins):Int:=x.2.2.1
def zqD (x:Ins):Int:=x.2.2.2.1
def zmX (x:Ins):Int:=x.2.2.2.2
@[simp] theorem Ins_dOp_mk a b c d e:zbk (zp7 a b c d e)=a:=rfl
@[simp] theorem Ins_dA_mk a b c d e:zkY (zp7 a b c d e)=b:=rfl
@[simp] theorem Ins_dB_mk a b c d e:zqQ (zp7 a b c d e)=c:=rfl
@[simp] theorem Ins_dC_mk a b c d e:zqD (zp7 a b c d e)=d:=rfl
@[simp] theorem Ins_dK_mk a b c d e:zmX (zp7 a b c d e)=e:=rfl
@[simp] theorem Ins_deta (x:Ins):zp7 (zbk x) (zkY x) (zqQ x) (zqD x) (zmX x)=x:=rfl
abbrev zHV:List Ty:=[.int .i64,.int .u32]
abbrev ziM:Ty:=.st zHV
abbrev Told:Type:=Int×Int
def zoC (a b:Int):Told:=(a,b)
def zwM (x:Told):Int:=x.1
def zAr (x:Told):Int:=x.2
@[simp] theorem Told_dCore_mk a b:zwM (zoC a b)=a:=rfl
@[simp] theorem Told_dVal_mk a b:zAr (zoC a b)=b:=rfl
@[simp] theorem Told_deta (x:Told):zoC (zwM x) (zAr x)=x:=rfl
abbrev zmb:List Ty:=[.int .i64,.int .i64,.int .i64,.int .i64,.int .i64,.int .i64,.bool,.int .u32,.int .u32]
abbrev tMsg:Ty:=.st zmb
abbrev Msg:Type:=Int×Int×Int×Int×Int×Int×Bool×Int×Int
def zaT (a b c d e f:Int) (g:Bool) (h i:Int):Msg:=(a,b,c,d,e,f,g,h,i)
def zaL (x:Msg):Int:=x.1
def zaF (x:Msg):Int:=x.2.1
def zcx (x:Msg):Int:=x.2.2.1
def zaH (x:Msg):Int:=x.2.2.2.1
def zbW (x:Msg):Int:=x.2.2.2.2.1
def zbT (x:Msg):Int:=x.2.2.2.2.2.1
def zhN (x:Msg):Bool:=x.2.2.2.2.2.2.1
def zcS (x:Msg):Int:=x.2.2.2.2.2.2.2.1
def zcC (x:Msg):Int:=x.2.2.2.2.2.2.2.2
def zb1 (x:Msg) (v:Int):Msg:=(v,x.2.1,x.2.2.1,x.2.2.2.1,x.2.2.2.2.1,x.2.2.2.2.2.1,x.2.2.2.2.2.2.1,x.2.2.2.2.2.2.2.1,x.2.2.2.2.2.2.2.2)
def zfi (x:Msg) (v:Int):Msg:=(x.1,x.2.1,x.2.2.1,x.2.2.2.1,v,x.2.2.2.2.2.1,x.2.2.2.2.2.2.1,x.2.2.2.2.2.2.2.1,x.2.2.2.2.2.2.2.2)
def zfm (x:Msg) (v:Int):Msg:=(x.1,x.2.1,x.2.2.1,x.2.2.2.1,x.2.2.2.2.1,x.2.2.2.2.2.1,x.2.2.2.2.2.2.1,x.2.2.2.2.2.2.2.1,v)
@[simp] theorem zqN a b c d e f g h i:zaL (zaT a b c d e f g h i)=a:=rfl
@[simp] theorem zrB a b c d e f g h i:zaF (zaT a b c d e f g h i)=b:=rfl
@[simp] theorem zwv a b c d e f g h i:zcx (zaT a b c d e f g h i)=c:=rfl
@[simp] theorem zqV a b c d e f g h i:zaH (zaT a b c d e f g h i)=d:=rfl
@[simp] theorem zvq a b c d e f g h i:zbW (zaT a b c d e f g h i)=e:=rfl
@[simp] theorem zqI a b c d e f g h i:zbT (zaT a b c d e f g h i)=f:=rfl
@[simp] theorem zBw a b c d e f g h i:zhN (zaT a b c d e f g h i)=g:=rfl
@[simp] theorem Msg_dNum_mk a b c d e f g h i:zcS (zaT a b c d e f g h i)=h:=rfl
@[simp] theorem Msg_dVal_mk a b c d e f g h i:zcC (zaT a b c d e f g h i)=i:=rfl
@[simp] theorem zHv (x:Msg):zaT (zaL x) (zaF x) (zcx x) (zaH x) (zbW x) (zbT x) (zhN x) (zcS x) (zcC x)=x:=rfl
abbrev zzg:List Ty:=[.int .i64,.int .i64,.int .u32,.int .u32]
abbrev zJa:Ty:=.st zzg
abbrev Want:Type:=Int×Int×Int×Int
def zeL (a b c d:Int):Want:=(a,b,c,d)
def zc0 (x:Want):Int:=x.1
def zfE (x:Want):Int:=x.2.1
def zhi (x:Want):Int:=x.2.2.1
def ztA (x:Want):Int:=x.2.2.2
@[simp] theorem Want_dKind_mk a b c d:zc0 (zeL a b c d)=a:=rfl
@[simp] theorem Want_dAt_mk a b c d:zfE (zeL a b c d)=b:=rfl
@[simp] theorem Want_dVal_mk a b c d:zhi (zeL a b c d)=c:=rfl
@[simp] theorem Want_dOld_mk a b c d:ztA (zeL a b c d)=d:=rfl
@[simp] theorem Want_deta (x:Want):zeL (zc0 x) (zfE x) (zhi x) (ztA x)=x:=rfl
abbrev zIi:List Ty:=[.int .i64,.int .i64,.int .u32]
abbrev zkg:Ty:=.st zIi
abbrev Undo:Type:=Int×Int×Int
def zdT (a b c:Int):Undo:=(a,b,c)
def zaK (x:Undo):Int:=x.1
def zaZ (x:Undo):Int:=x.2.1
def zeH (x:Undo):Int:=x.2.2
@[simp] theorem Undo_dSpan_mk a b c:zaK (zdT a b c)=a:=rfl
@[simp] theorem Undo_dAt_mk a b c:zaZ (zdT a b c)=b:=rfl
@[simp] theorem Undo_dVal_mk a b c:zeH (zdT a b c)=c:=rfl
@[simp] theorem Undo_deta (x:Undo):zdT (zaK x) (zaZ x) (zeH x)=x:=rfl
abbrev zkq:List Ty:=[.int .i64,.int .i64,.bool,.int .u8]
abbrev zgn:Ty:=.st zkq
abbrev zgz:List Ty:=[.str,.int .u64]
abbrev zdx:Ty:=.st zgz
abbrev zJm:List Ty:=[.arr 8 (.int .u32),.int .i64,.bool]
abbrev zb3:Ty:=.st zJm
abbrev Core:Type:=(List Int)×Int×Bool
def zjd (a:List Int) (b:Int) (c:Bool):Core:=(a,b,c)
def zbG (x:Core):List Int:=x.1
def zcR (x:Core):Int:=x.2.1
def zbu (x:Core):Bool:=x.2.2
def zgA (x:Core) (v:List Int):Core:=(v,x.2.1,x.2.2)
def zBm (x:Core) (v:Int):Core:=(x.1,v,x.2.2)
def zuf (x:Core) (v:Bool):Core:=(x.1,x.2.1,v)
@[simp] theorem Core_dRegs_mk a b c:zbG (zjd a b c)=a:=rfl
@[simp] theorem Core_dPC_mk a b c:zcR (zjd a b c)=b:=rfl
@[simp] theorem Core_dHalted_mk a b c:zbu (zjd a b c)=c:=rfl
@[simp] theorem Core_deta (x:Core):zjd (zbG x) (zcR x) (zbu x)=x:=rfl
abbrev zdX:List Ty:=[.int .i64,.sl .bool]
abbrev zbF:Ty:=.st zdX
abbrev Entry:Type:=Int×(List Bool)
def za6 (a:Int) (b:List Bool):Entry:=(a,b)
def zau (x:Entry):Int:=x.1
def zan (x:Entry):List Bool:=x.2
@[simp] theorem zgX a b:zau (za6 a b)=a:=rfl
@[simp] theorem zdy a b:zan (za6 a b)=b:=rfl
@[simp] theorem zpN (x:Entry):za6 (zau x) (zan x)=x:=rfl
abbrev zIr:List Ty:=[ziM,.int .i64]
abbrev zuE:Ty:=.st zIr
abbrev Held:Type:=Told×Int
def zlO (a:Told) (b:Int):Held:=(a,b)
def zbE (x:Held):Told:=x.1
def zcu (x:Held):Int:=x.2
@[simp] theorem Held_dTold_mk a b:zbE (zlO a b)=a:=rfl
@[simp] theorem Held_dSpan_mk a b:zcu (zlO a b)=b:=rfl
@[simp] theorem Held_deta (x:Held):zlO (zbE x) (zcu x)=x:=rfl
abbrev zJM:List Ty:=[.sl (.int .u32),.int .i64,.sl zkg]
abbrev tLog:Ty:=.st zJM
abbrev Log:Type:=(List Int)×Int×(List Undo)
abbrev zdZ:List Ty:=[.sl (.sl (.int .u8))]
abbrev zb2:Ty:=.st zdZ
abbrev Pool:Type:=List (List Int)
def za5 (a:List (List Int)):Pool:=a
def zaf (x:Pool):List (List Int):=x
@[simp] theorem Pool_dFrames_mk a:zaf (za5 a)=a:=rfl
@[simp] theorem Pool_deta (x:Pool):za5 (zaf x)=x:=rfl
abbrev zb8:List Ty:=[.sl (.sl (.int .u32)),.sl (.int .u32),.int .i64]
abbrev zgU:Ty:=.st zb8
abbrev zco:Type:=(List (List Int))×(List Int)×Int
def zaY (a:List (List Int)) (b:List Int) (c:Int):zco:=(a,b,c)
def zac (x:zco):List (List Int):=x.1
def zat (x:zco):List Int:=x.2.1
def zaq (x:zco):Int:=x.2.2
@[simp] theorem zim a b c:zac (zaY a b c)=a:=rfl
@[simp] theorem zxj a b c:zat (zaY a b c)=b:=rfl
@[simp] theorem Banks_dLost_mk a b c:zaq (zaY a b c)=c:=rfl
@[simp] theorem zcs (x:zco):zaY (zac x) (zat x) (zaq x)=x:=rfl
abbrev zrV:List Ty:=[.sl zuE,.sl ziM]
abbrev zdo:Ty:=.st zrV
abbrev Gate:Type:=(List Held)×(List Told)
def zc8 (a:List Held) (b:List Told):Gate:=(a,b)
def zas (x:Gate):List Held:=x.1
def zbR (x:Gate):List Told:=x.2
@[simp] theorem Gate_dHeld_mk a b:zas (zc8 a b)=a:=rfl
@[simp] theorem Gate_dOut_mk a b:zbR (zc8 a b)=b:=rfl
@[simp] theorem zuB (x:Gate):zc8 (zas x) (zbR x)=x:=rfl
abbrev zJH:List Ty:=[.sl (.int .u32),.sl zb3,.sl ziM]
abbrev zII:Ty:=.st zJH
abbrev zcV:List Ty:=[.sl (.sl (.int .i64)),.sl (.sl (.int .u32)),.sl zd1,.sl (.int .u32),.sl zbF,.sl (.int .i64),zb2]
abbrev zbD:Ty:=.st zcV
abbrev zbe:Type:=(List (List Int))×(List (List Int))×(List Wait)×(List Int)×(List Entry)×(List Int)×Pool
def zaB (a b:List (List Int)) (c:List Wait) (d:List Int) (e:List Entry) (f:List Int) (g:Pool):zbe:=(a,b,c,d,e,f,g)
def zai (x:zbe):List (List Int):=x.1
def zam (x:zbe):List (List Int):=x.2.1
def zab (x:zbe):List Wait:=x.2.2.1
def zad (x:zbe):List Int:=x.2.2.2.1
def zay (x:zbe):List Entry:=x.2.2.2.2.1
def zal (x:zbe):List Int:=x.2.2.2.2.2.1
def zax (x:zbe):Pool:=x.2.2.2.2.2.2
def zh7 (x:zbe) (v:List Int):zbe:=(x.1,x.2.1,x.2.2.1,v,x.2.2.2.2.1,x.2.2.2.2.2.1,x.2.2.2.2.2.2)
def zik (x:zbe) (v:Pool):zbe:=(x.1,x.2.1,x.2.2.1,x.2.2.2.1,x.2.2.2.2.1,x.2.2.2.2.2.1,v)
@[simp] theorem Proto_dState_mk a b c d e f g:zai (zaB a b c d e f g)=a:=rfl
@[simp] theorem Proto_dVal_mk a b c d e f g:zam (zaB a b c d e f g)=b:=rfl
@[simp] theorem Proto_dWait_mk a b c d e f g:zab (zaB a b c d e f g)=c:=rfl
@[simp] theorem Proto_dHome_mk a b c d e f g:zad (zaB a b c d e f g)=d:=rfl
@[simp] theorem Proto_dDir_mk a b c d e f g:zay (zaB a b c d e f g)=e:=rfl
@[simp] theorem Proto_dBusy_mk a b c d e f g:zal (zaB a b c d e f g)=f:=rfl
@[simp] theorem Proto_dPool_mk a b c d e f g:zax (zaB a b c d e f g)=g:=rfl
@[simp] theorem zep (x:zbe):zaB (zai x) (zam x) (zab x) (zad x) (zay x) (zal x) (zax x)=x:=rfl
abbrev zlg:List Ty:=[.int .i64,.int .i64,.sl zb3]
abbrev zgl:Ty:=.st zlg
abbrev Mark:Type:=Int×Int×(List Core)
def zcd (a b:Int) (c:List Core):Mark:=(a,b,c)
def zaU (x:Mark):Int:=x.1
def zbY (x:Mark):Int:=x.2.1
def za8 (x:Mark):List Core:=x.2.2
@[simp] theorem Mark_dSpan_mk a b c:zaU (zcd a b c)=a:=rfl
@[simp] theorem Mark_dWhen_mk a b c:zbY (zcd a b c)=b:=rfl
@[simp] theorem Mark_dCores_mk a b c:za8 (zcd a b c)=c:=rfl
@[simp] theorem zpk (x:Mark):zcd (zaU x) (zbY x) (za8 x)=x:=rfl
abbrev zdb:List Ty:=[zgU,.int .i64,.int .i64,.sl zkg]
abbrev zbq:Ty:=.st zdb
abbrev za4:Type:=zco×Int×Int×(List Undo)
def zaX (a:zco) (b c:Int) (d:List Undo):za4:=(a,b,c,d)
def zae (x:za4):zco:=x.1
def zaj (x:za4):Int:=x.2.1
def zaD (x:za4):Int:=x.2.2.1
def zak (x:za4):List Undo:=x.2.2.2
@[simp] theorem zg3 a b c d:zae (zaX a b c d)=a:=rfl
@[simp] theorem Vault_dWords_mk a b c d:zaj (zaX a b c d)=b:=rfl
@[simp] theorem Vault_dSpan_mk a b c d:zaD (zaX a b c d)=c:=rfl
@[simp] theorem Vault_dLst_mk a b c d:zak (zaX a b c d)=d:=rfl
@[simp] theorem zdk (x:za4):zaX (zae x) (zaj x) (zaD x) (zak x)=x:=rfl
abbrev zvH:List Ty:=[zbD]
abbrev zol:Ty:=.st zvH
abbrev zgd:List Ty:=[.sl zgl,.int .i64]
abbrev zbU:Ty:=.st zgd
abbrev Clock:Type:=(List Mark)×Int
def zbV (a:List Mark) (b:Int):Clock:=(a,b)
def zao (x:Clock):List Mark:=x.1
def zbB (x:Clock):Int:=x.2
@[simp] theorem Clock_dMarks_mk a b:zao (zbV a b)=a:=rfl
@[simp] theorem Clock_dWait_mk a b:zbB (zbV a b)=b:=rfl
@[simp] theorem Clock_deta (x:Clock):zbV (zao x) (zbB x)=x:=rfl
abbrev zsQ:List Ty:=[.sl zb3,zbD,zbq,zbU,zdo,.int .i64,.sl (.int .i64)]
abbrev zcq:Ty:=.st zsQ
abbrev Machine:Type:=(List Core)×zbe×za4×Clock×Gate×Int×(List Int)
def zbl (a:List Core) (b:zbe) (c:za4) (d:Clock) (e:Gate) (f:Int) (g:List Int):Machine:=(a,b,c,d,e,f,g)
def zaw (x:Machine):List Core:=x.1
def zah (x:Machine):zbe:=x.2.1
def zar (x:Machine):za4:=x.2.2.1
def zaC (x:Machine):Clock:=x.2.2.2.1
def zaz (x:Machine):Gate:=x.2.2.2.2.1
def zaN (x:Machine):Int:=x.2.2.2.2.2.1
def zaI (x:Machine):List Int:=x.2.2.2.2.2.2
def zdP (x:Machine) (v:List Core):Machine:=(v,x.2.1,x.2.2.1,x.2.2.2.1,x.2.2.2.2.1,x.2.2.2.2.2.1,x.2.2.2.2.2.2)
def zbt (x:Machine) (v:zbe):Machine:=(x.1,v,x.2.2.1,x.2.2.2.1,x.2.2.2.2.1,x.2.2.2.2.2.1,x.2.2.2.2.2.2)
def zbO (x:Machine) (v:za4):Machine:=(x.1,x.2.1,v,x.2.2.2.1,x.2.2.2.2.1,x.2.2.2.2.2.1,x.2.2.2.2.2.2)
def zdS (x:Machine) (v:Clock):Machine:=(x.1,x.2.1,x.2.2.1,v,x.2.2.2.2.1,x.2.2.2.2.2.1,x.2.2.2.2.2.2)
def zcF (x:Machine) (v:Gate):Machine:=(x.1,x.2.1,x.2.2.1,x.2.2.2.1,v,x.2.2.2.2.2.1,x.2.2.2.2.2.2)
def zkn (x:Machine) (v:Int):Machine:=(x.1,x.2.1,x.2.2.1,x.2.2.2.1,x.2.2.2.2.1,v,x.2.2.2.2.2.2)
@[simp] theorem Machine_dCores_mk a b c d e f g:zaw (zbl a b c d e f g)=a:=rfl
@[simp] theorem Machine_dProto_mk a b c d e f g:zah (zbl a b c d e f g)=b:=rfl
@[simp] theorem Machine_dStore_mk a b c d e f g:zar (zbl a b c d e f g)=c:=rfl
@[simp] theorem Machine_dClock_mk a b c d e f g:zaC (zbl a b c d e f g)=d:=rfl
@[simp] theorem Machine_dGate_mk a b c d e f g:zaz (zbl a b c d e f g)=e:=rfl
@[simp] theorem Machine_dNow_mk a b c d e f g:zaN (zbl a b c d e f g)=f:=rfl
@[simp] theorem Machine_dSince_mk a b c d e f g:zaI (zbl a b c d e f g)=g:=rfl
@[simp] theorem Machine_deta (x:Machine):zbl (zaw x) (zah x) (zar x) (zaC x) (zaz x) (zaN x) (zaI x)=x:=rfl
abbrev zmZ:List Ty:=[zcq,.sl (.sl tIns),tDid]
abbrev zcn:Ty:=.st zmZ
abbrev zaG:Type:=Machine×(List (List Ins))×Did
def zck (a:Machine) (b:List (List Ins)) (c:Did):zaG:=(a,b,c)
def zaa (x:zaG):Machine:=x.1
def za0 (x:zaG):List (List Ins):=x.2.1
def zaE (x:zaG):Did:=x.2.2
def zav (x:zaG) (v:Machine):zaG:=(v,x.2.1,x.2.2)
def zcT (x:zaG) (v:Did):zaG:=(x.1,x.2.1,v)
@[simp] theorem machine_work_dMachine_mk a b c:zaa (zck a b c)=a:=rfl
@[simp] theorem machine_work_dprogs_mk a b c:za0 (zck a b c)=b:=rfl
@[simp] theorem machine_work_ddid_mk a b c:zaE (zck a b c)=c:=rfl
@[simp] theorem machine_work_deta (x:zaG):zck (zaa x) (za0 x) (zaE x)=x:=rfl
def tys:List Ty:=[.no,.no,.int .i64,.int .i64,.bool,.int .u8,.int .u8,zgn,zgn,.str,.str,.str,.int .u64,zdx,zdx,.no,.no,.no,.no,.no,.no,.int .i32,.sl (.sl tIns),.sl zr1,.no,.no,.no,.sl zb3,.sl (.sl (.int .i64)),.sl (.sl (.int .u32)),.sl zd1,.sl (.int .u32),.sl zbF,.sl (.int .i64),.sl (.sl (.int .u8)),zb2,zb2,zbD,zbD,zgU,zgU,.sl zkg,zbq,zbq,.sl zgl,zbU,zbU,.sl zuE,.sl ziM,zdo,zdo,zcq,zcq,.int .i64,.no,.no,tDid,tDid,.no,.no,zr1,zr1,.no,.no,.no,.no,.no,.no,.no,.no,.no,zII,zII,.no,.no,.sl zII,.no,.no,.int .u32,tIns,tIns,.sl tIns,ziM,ziM,.no,.no,.no,.no,.no,.no,.no,.no,.no,zcn,zcn,.no,.no,.arr 8 (.int .u32),zb3,zb3,.no,.no,zuE,zuE,zd1,zd1,.no,.no,.no,.no,.no,.no,.no,.no,.no,.no,.no,.no,.no,.no,zgl,zgl,.no,.no,.no,.no,.sl .bool,zbF,zbF,.no,.no,.no,.no,.no,.no,.no,.no,.no,.no,.no,.no,.no,.no,.no,.no,.no,.no,.no,.no,.no,.no,.no,.no,.no,.no,tLog,tLog,.no,.no,.no,.no,zJa,zJa,.no,.no,.no,.no,.no,.no,.no,.no,.no,.no,.no,.no,.no,.no,.no,.no,.no,.no,.no,.no,.no,.no,.no,.no,.no,.no,.no,.no,.no,.no,.no,.sl (.int .u8),.no,.no,.no,.no,.no,.no,zkg,zkg,.no,.no,.no,.no,.no,.no,.no,.no,.no,.no,.int .u64,.no,.no,.no,.no,.no,.no,.no,.no,zol,zol,tMsg,tMsg,.no,.no,.no,.no,.no,.no,.no,.no,.no,.no,.no,.no,.no,.no,.no,.no,.no,.no,.no,.no,.no,.no,.no,.no,.no,.no,.no,.no,.no,.no,.no,.no,.no,.no,zdl,zdl,.no,.no,.no,.no,.no,.no,.no,.no,.no,.no,.no,.no,.no,.no,.no,.no,.no,.no,.no,.no,.no,.no,.no,.no,.no,.no,.no,.no,.no,.no,.no,.no,.no,.no,.no,.no,.no,.no,.arr 4 (.int .u8),.int .u64,.no,.no,.no,.no,.no,.no,.no,.no,.no,.no,.no,.no,.no,.no,.no,.no,.int .u8,.int .u8,.no,.no,.int .i32,.int .i32,.no,.no,.no]
def cx:Cx:={ P:=Tryz.prog,ty:=tys,own:=[],inl:=[20,32,40,54,56,85,86,90,111,123,124,125,143,149,168,172,173,174,189,190,191,192,193,194,202,215,225,227,231,234,235,237],keepL:=[],absL:=[20,40,54,123,125,143,149,168,174,187,190,191,194,220,225,233],lendL:=[176],freshL:=[187],owL:=[],bk:=[(227,41,202)],heads:=[(4,[(20,11150372474041220118367163931569792642722833,⟨22,0,zul 145 0 [(0,.d (.sl (.sl tIns)) (.v 0)),(4,.d (.sl zr1) (.v 4)),(10,.d .bool (.c (.bool false))),(11,.p zcq zcq 0 []),(13,.d (.int .i64) (.v 20))],[.box zcq (.d zcq (.v 21))]⟩)]),
 (6,[(3,4486618749202917759475777591,⟨5,0,zul 93 0 [(0,.d .bool (.c (.bool false))),(1,.h (.sl tIns) 0 none),(2,.p zcq zcq 1 []),(4,.h zr1 2 none),(5,.d (.int .i64) (.v 3))],[.fz (.sl tIns) (.c (.sl [(.sl [(.agg [(.int .i64 1),(.int .i64 1),(.int .i64 0),(.int .i64 0),(.int .u32 5)]),(.agg [(.int .i64 10),(.int .i64 1),(.int .i64 0),(.int .i64 0),(.int .u32 0)]),(.agg [(.int .i64 15),(.int .i64 1),(.int .i64 0),(.int .i64 0),(.int .u32 0)]),(.agg [(.int .i64 16),(.int .i64 0),(.int .i64 0),(.int .i64 0),(.int .u32 0)])])])),.box zcq (.d zcq (.v 4)),.row zr1 (.c (.sl [(.agg [(.int .i64 1),(.int .i64 0),(.int .i64 0)]),(.agg [(.int .i64 1),(.int .i64 0),(.int .i64 0)]),(.agg [(.int .i64 2),(.int .i64 0),(.int .i64 0)]),(.agg [(.int .i64 2),(.int .i64 0),(.int .i64 0)]),(.agg [(.int .i64 2),(.int .i64 0),(.int .i64 0)]),(.agg [(.int .i64 1),(.int .i64 0),(.int .i64 0)]),(.agg [(.int .i64 1),(.int .i64 0),(.int .i64 0)]),(.agg [(.int .i64 1),(.int .i64 0),(.int .i64 0)]),(.agg [(.int .i64 4),(.int .i64 0),(.int .i64 0)]),(.agg [(.int .i64 5),(.int .i64 0),(.int .i64 0)]),(.agg [(.int .i64 4),(.int .i64 0),(.int .i64 0)]),(.agg [(.int .i64 4),(.int .i64 0),(.int .i64 0)]),(.agg [(.int .i64 4),(.int .i64 0),(.int .i64 0)])]))]⟩)]),
 (217,[(2,908,⟨4,0,zul 31 0 [(2,.d (.int .u32) (.c (.int .u32 0))),(3,.d (.int .u32) (.v 2)),(7,.d (.sl (.int .u8)) (.v 0)),(8,.d (.int .i64) (.v 1)),(9,.d (.int .i64) (.v 3))],[]⟩),
 (8,131980,⟨10,0,zul 31 0 [(2,.d (.int .u32) (.c (.int .u32 0))),(3,.d (.int .u32) (.v 8)),(7,.d (.sl (.int .u8)) (.v 0)),(8,.d (.int .i64) (.v 1)),(9,.d (.int .i64) (.v 3)),(17,.d (.int .i64) (.v 9))],[]⟩)])] }
theorem tyOk:TysOk cx:=zFi (by kernel_rfl) (List.forall_mem_cons.2 ⟨⟨_,_,_,_,_,_,_,_,_,_,_,_,_,_,⟨rfl,rfl,rfl,rfl,rfl,rfl,rfl,rfl,rfl⟩⟩,fun _ h=>nomatch h⟩)
theorem mixed:Tryz.prog.follows .mixedOrders=true:=by kernel_rfl
def noC:FuncId→List D→Option (List D):=fun _ _=>none
theorem zJw:CallsOk cx noC:=fun _ _ _ _ _ _ _ h=>by cases h
theorem rf_ {f:FuncId}{t:TA}{ps rs:List Ty}{sem:Ty.Tup ps→Option (Ty.Tup rs)}{l:List (FuncId×FnT)}(ht:zaM cx 12 f=some t.erase)(hl:AllOk cx 12 noC l)(h:t.calls=l:=by kernel_rfl)(hs:∀ x,sem x=t.den (pushT ps x []) ps.length [(0,rs)]:=by intro x;kernel_rfl):FnOk cx 12 noC f ⟨ps,rs,sem⟩:=zJY ht (fun _=>rfl) (zJr l h hl) hs
theorem rp_ {f:FuncId}{t:TA}{ps rs:List Ty}{sem:Ty.Tup ps→Ty.Tup rs}{l:List (FuncId×FnT)}(ht:zaM cx 12 f=some t.erase)(hl:AllOk cx 12 noC l)(h:t.calls=l:=by kernel_rfl)(hs:∀ x,some (sem x)=t.pden (pushT ps x []) ps.length rs:=by intro x;kernel_rfl):FnOk cx 12 noC f (PnT.fn ⟨ps,rs,sem⟩):=zJR ht (fun _=>rfl) (zJr l h hl) hs
theorem zHN {f:FuncId}{ds rs:List D}(k d:Nat) (h:zgg cx k 12 noC d f ds=some rs):zD0 cx 12 noC f ds=some rs:=(ziz cx 12 noC).2 ⟨k,d,h⟩
def zhS (x0:List (List Ins)) (s:Int):Option (Int⊕Unit⊕Bool) :=
 if decide (s<(x0.length:Int)) then
 (getO x0 s).bind fun v6=>if decide ((80:Int)<(v6.length:Int)) then
 some (Sum.inr (Sum.inr (false)))
 else
 some (Sum.inl (w64 (s + (1:Int))))
 else
 some (Sum.inr (Sum.inl ()))
def zpE (p0:List (List Ins)):Option Bool :=
 if decide ((6:Int)<(p0.length:Int)) then
 some (false)
 else
 zbm (zaQ (zhS p0) (0:Int):Option (Unit⊕Bool)) fun v3=>some (true)
def zs2:FnT:=⟨[.sl (.sl tIns)],[.bool],fun x=>zpE x⟩
def zvp:TA :=
 ql 0<|qk .gtr 1 6<|qe 2 (qt 0 false) (.sub1 [] (.loop [.int .i64] [(qz 0)] (ql 0<|qb .lss 3 4<|qe 5 (qg 0 3<|ql 6<|qk .gtr 7 80<|qe 8 (qt 2 false) (qk .add 3 1<|qr 0 9)) (qx 1))) 0<|qt 0 true)
theorem zt0:zaM cx 12 13=some zvp.erase:=by kernel_rfl
theorem zBL:FnOk cx 12 noC 13 zs2:=rf_ zt0 .nil
def zhY (x0 x1:List Core) (s:Int):Option (Int⊕Unit⊕Bool) :=
 if decide (s<(x0.length:Int)) then
 (getO x0 s).bind fun v8=>(getO x1 s).bind fun v9=>if !(@decide (v8=v9) (Ty.dec zb3 _ _)) then
 some (Sum.inr (Sum.inr (false)))
 else
 some (Sum.inl (w64 (s + (1:Int))))
 else
 some (Sum.inr (Sum.inl ()))
def zoV (p0 p1:List Core):Option Bool :=
 if !decide ((p0.length:Int)=(p1.length:Int)) then
 some (false)
 else
 zbm (zaQ (zhY p0 p1) (0:Int):Option (Unit⊕Bool)) fun v5=>some (true)
def ztv:FnT:=⟨[.sl zb3,.sl zb3],[.bool],fun x=>zoV x.1 x.2⟩
def ztY:TA :=
 ql 0<|ql 1<|qb .neq 2 3<|qe 4 (qt 0 false) (.sub1 [] (.loop [.int .i64] [(qz 0)] (ql 0<|qb .lss 5 6<|qe 7 (qg 0 5<|qg 1 5<|.prim .eqv (qv [8,9])<|qn 10<|qe 11 (qt 2 false) (qk .add 5 1<|qr 0 12)) (qx 1))) 0<|qt 0 true)
theorem ztb:zaM cx 12 14=some ztY.erase:=by kernel_rfl
theorem zAQ:FnOk cx 12 noC 14 ztv:=rf_ ztb .nil
def zjD (x0 x1:List Told) (s:Int):Option (Int⊕Unit⊕Bool) :=
 if decide (s<(x0.length:Int)) then
 (getO x0 s).bind fun v8=>(getO x1 s).bind fun v9=>if !(@decide (v8=v9) (Ty.dec ziM _ _)) then
 some (Sum.inr (Sum.inr (false)))
 else
 some (Sum.inl (w64 (s + (1:Int))))
 else
 some (Sum.inr (Sum.inl ()))
def zsl (p0 p1:List Told):Option Bool :=
 if !decide ((p0.length:Int)=(p1.length:Int)) then
 some (false)
 else
 zbm (zaQ (zjD p0 p1) (0:Int):Option (Unit⊕Bool)) fun v5=>some (true)
def zw0:FnT:=⟨[.sl ziM,.sl ziM],[.bool],fun x=>zsl x.1 x.2⟩
def zv9:TA :=
 ql 0<|ql 1<|qb .neq 2 3<|qe 4 (qt 0 false) (.sub1 [] (.loop [.int .i64] [(qz 0)] (ql 0<|qb .lss 5 6<|qe 7 (qg 0 5<|qg 1 5<|.prim .eqv (qv [8,9])<|qn 10<|qe 11 (qt 2 false) (qk .add 5 1<|qr 0 12)) (qx 1))) 0<|qt 0 true)
theorem zwh:zaM cx 12 15=some zv9.erase:=by kernel_rfl
theorem zDG:FnOk cx 12 noC 15 zw0:=rf_ zwh .nil
def zgB (x3:List Held) (x4:Int) (s:(Int×(List Told))):Option ((Int×(List Told))⊕(List Told)) :=
 if decide (s.1<x4) then
 (getO x3 s.1).bind fun v8=>(appO 16 s.2 ([zbE v8]:List Told)).bind fun v11=>some (Sum.inl (w64 (s.1 + (1:Int)),v11))
 else
 some (Sum.inr (s.2))
def ziw (p0:Gate):Option (List Told) :=
 (zaS 16 (zbR p0)).bind fun v2=>let v4:Int:=(List.length (zas p0):Int)
 (zaQ (zgB (zas p0) v4) ((0:Int),v2):Option (List Told)).bind fun v5=>some (v5)
def zkf:FnT:=⟨[zdo],[.sl ziM],fun x=>ziw x⟩
def zrK:TA :=
 qf 1 0<|qc 16 1<|qf 0 0<|ql 3<|.sub0 [.sl ziM] (.loop [.int .i64,.sl ziM] [(qz 0),.v 2] (qb .lss 5 4<|qe 7 (qg 3 5<|qf 0 8<|.mkL ziM [.v 9]<|qa 16 6 10<|qk .add 5 1<|.jmp 0 true (qv [12,11])) (qj 1 6))) 1<|qj 0 5
theorem zqS:zaM cx 12 16=some zrK.erase:=by kernel_rfl
theorem zqB:FnOk cx 12 noC 16 zkf:=rf_ zqS .nil
def zeh (x0:zbe) (s:Int):Option (Int⊕Unit⊕Bool) :=
 if decide (s<(List.length (zal x0):Int)) then
 (getO (zal x0) s).bind fun v6=>if !decide (v6=(0:Int)) then
 some (Sum.inr (Sum.inr (false)))
 else
 some (Sum.inl (w64 (s + (1:Int))))
 else
 some (Sum.inr (Sum.inl ()))
def zen (x0:zbe) (s:Int):Option (Int⊕Unit⊕Bool) :=
 if decide (s<(List.length (zab x0):Int)) then
 (getO (zab x0) s).bind fun v6=>if !decide ((zaJ v6)=(0:Int)) then
 some (Sum.inr (Sum.inr (false)))
 else
 some (Sum.inl (w64 (s + (1:Int))))
 else
 some (Sum.inr (Sum.inl ()))
def zof (p0:zbe):Option Bool :=
 zbm (zaQ (zen p0) (0:Int):Option (Unit⊕Bool)) fun v1=>zbm (zaQ (zeh p0) (0:Int):Option (Unit⊕Bool)) fun v1=>some ((decide ((List.length (zaf (zax p0)):Int)=(0:Int))))
def zp0:FnT:=⟨[zbD],[.bool],fun x=>zof x⟩
def zws:TA :=
 .sub1 [] (.loop [.int .i64] [(qz 0)] (qf 2 0<|ql 2<|qb .lss 1 3<|qe 4 (qf 2 0<|qg 5 1<|qf 0 6<|qk .neq 7 0<|qe 8 (qt 2 false) (qk .add 1 1<|qr 0 9)) (qx 1))) 0<|.sub1 [] (.loop [.int .i64] [(qz 0)] (qf 5 0<|ql 2<|qb .lss 1 3<|qe 4 (qf 5 0<|qg 5 1<|qk .neq 6 0<|qe 7 (qt 2 false) (qk .add 1 1<|qr 0 8)) (qx 1))) 0<|qf 6 0<|qf 0 1<|ql 2<|qk .eql 3 0<|qj 0 4
theorem zwf:zaM cx 12 17=some zws.erase:=by kernel_rfl
theorem zwB:FnOk cx 12 noC 17 zp0:=rf_ zwf .nil
def zhD (x0 x1:List Int) (s:Int):Option (Int⊕Unit⊕Bool) :=
 if decide (s<(x0.length:Int)) then
 (getO x0 s).bind fun v8=>(getO x1 s).bind fun v9=>if !decide (v8=v9) then
 some (Sum.inr (Sum.inr (false)))
 else
 some (Sum.inl (w64 (s + (1:Int))))
 else
 some (Sum.inr (Sum.inl ()))
def zoi (p0 p1:List Int):Option Bool :=
 if !decide ((p0.length:Int)=(p1.length:Int)) then
 some (false)
 else
 zbm (zaQ (zhD p0 p1) (0:Int):Option (Unit⊕Bool)) fun v5=>some (true)
def zvm:FnT:=⟨[.sl (.int .u32),.sl (.int .u32)],[.bool],fun x=>zoi x.1 x.2⟩
def zt2:TA :=
 ql 0<|ql 1<|qb .neq 2 3<|qe 4 (qt 0 false) (.sub1 [] (.loop [.int .i64] [(qz 0)] (ql 0<|qb .lss 5 6<|qe 7 (qg 0 5<|qg 1 5<|qb .neq 8 9<|qe 10 (qt 2 false) (qk .add 5 1<|qr 0 11)) (qx 1))) 0<|qt 0 true)
theorem zup:zaM cx 12 18=some zt2.erase:=by kernel_rfl
theorem zBg:FnOk cx 12 noC 18 zvm:=rf_ zup .nil
def zvG (p0:Core):Bool :=
 !(zbu p0)
def zse:PnT:=⟨[zb3],[.bool],fun x=>zvG x⟩
def zjR:TA :=
 qf 2 0<|qn 1<|qj 0 2
theorem zr7:zaM cx 12 31=some zjR.erase:=by kernel_rfl
def zef (x1:Int) (x2:List (List Int)) (x3 s:Int):Option (Int⊕Unit⊕Int) :=
 if decide (s<x3) then
 (getO x2 s).bind fun v6=>((getO v6 x1).bind fun v7=>some ((decide ((2:Int)≤v7))):Option Bool).bind fun v7=>if v7 then
 some (Sum.inr (Sum.inr (s)))
 else
 some (Sum.inl (w64 (s + (1:Int))))
 else
 some (Sum.inr (Sum.inl ()))
def zbw (p0:zbe) (p1:Int):Option Int :=
 (let v3:Int:=(List.length (zai p0):Int)
 zbm (zaQ (zef p1 (zai p0) v3) (0:Int):Option (Unit⊕Int)) fun v4=>some ((-1:Int)):Option Int).bind fun v3=>some (v3)
def zgW:FnT:=⟨[zbD,.int .i64],[.int .i64],fun x=>zbw x.1 x.2⟩
def zkm:TA :=
 qf 0 0<|.sub0 [.int .i64] (ql 2<|.sub1 [] (.loop [.int .i64] [(qz 0)] (qb .lss 4 3<|qe 5 (qg 2 4<|.sub0 [.bool] (qg 6 1<|qk .geq 7 2<|qj 0 8) 1<|qe 7 (qj 2 4) (qk .add 4 1<|qr 0 8)) (qx 1))) 0<|.jmp 0 false [.c (.int .i64 (-1))]) 1<|qj 0 3
theorem zkU:zaM cx 12 34=some zkm.erase:=by kernel_rfl
theorem zkG:FnOk cx 12 noC 34 zgW:=rf_ zkU .nil
def zf2 (p0:Int):Bool :=
 (decide ((0:Int)≤p0))&&(decide (p0≤(1099511627776:Int)))
def zij:PnT:=⟨[.int .i64],[.bool],fun x=>zf2 x⟩
def zmd:TA :=
 .subp [.bool] (qk .geq 0 0<|qe 1 (qk .leq 0 1099511627776<|qj 0 2) (qt 0 false)) 1<|qj 0 1
theorem zmG:zaM cx 12 45=some zmd.erase:=by kernel_rfl
theorem zmE:FnOk cx 12 noC 45 zij.fn:=rp_ zmG .nil
def zoE (p0:Int):Option (Entry×Int) :=
 if (decide (p0<(1:Int)))||(decide ((4:Int)<p0)) then
 some (((za6 (0:Int) ([]:List Bool)),(1:Int)))
 else
 (repO false 1 p0 p0).bind fun v2=>some ((za6 (0:Int) v2,(0:Int)))
def ztX:FnT:=⟨[.int .i64],[zbF,.int .i64],fun x=>zoE x⟩
def ztG:TA :=
 .subp [.bool] (qk .lss 0 1<|qe 1 (qt 0 true) (qk .gtr 0 4<|qj 0 2)) 1<|qe 1 (.jmp 0 false [.c (.agg [(.int .i64 0),.nil]),(qz 1)]) (.primH (.rep (.bool false) 1) (.sl .bool) (qv [0,0])<|.mkS zdX [(qz 0),.v 2]<|.jmp 0 false [.v 3,(qz 0)])
theorem zuG:zaM cx 12 53=some ztG.erase:=by kernel_rfl
theorem zAE:FnOk cx 12 noC 53 ztX:=rf_ zuG .nil
def ziA (p0 p1:Int):Option Int :=
 (quoO .i64 (w64 ((w64 (p0 + p1)) - (1:Int))) p1).bind fun v4=>some (v4)
def zlk:FnT:=⟨[.int .i64,.int .i64],[.int .i64],fun x=>ziA x.1 x.2⟩
def zrn:TA :=
 qb .add 0 1<|qk .sub 2 1<|qb .quo 3 1<|qj 0 4
theorem zrp:zaM cx 12 55=some zrn.erase:=by kernel_rfl
theorem zro:FnOk cx 12 noC 55 zlk:=rf_ zrp .nil
def zbn (p0 p1:Int):Bool :=
 (decide ((0:Int)≤p0))&&(decide (p0<p1))
def zcr:PnT:=⟨[.int .i64,.int .i64],[.bool],fun x=>zbn x.1 x.2⟩
def zmD:TA :=
 .subp [.bool] (qk .geq 0 0<|qe 2 (qb .lss 0 1<|qj 0 3) (qt 0 false)) 1<|qj 0 2
theorem zmF:zaM cx 12 74=some zmD.erase:=by kernel_rfl
theorem zcN:FnOk cx 12 noC 74 zcr.fn:=rp_ zmF .nil
def ziQ (p0:Entry) (p1:Int):Option Bool :=
 if (decide (p1<(1:Int)))||((decide ((4:Int)<p1))||((!decide ((List.length (zan p0):Int)=p1))||((decide ((zau p0)<(0:Int)))||(decide (p1<(zau p0)))))) then
 some (false)
 else
 (if decide ((zau p0)=(0:Int)) then
 some (true)
 else
 (getO (zan p0) (w64 ((zau p0) - (1:Int)))).bind fun v8=>some ((!v8)):Option Bool).bind fun v3=>some (v3)
def zi2:FnT:=⟨[zbF,.int .i64],[.bool],fun x=>ziQ x.1 x.2⟩
def zvc:TA :=
 .subp [.bool] (qk .lss 1 1<|qe 2 (qt 0 true) (qk .gtr 1 4<|qe 3 (qt 0 true) (qf 1 0<|ql 4<|qb .neq 5 1<|qe 6 (qt 0 true) (qf 0 0<|qk .lss 7 0<|qe 8 (qt 0 true) (qf 0 0<|qb .gtr 9 1<|qj 0 10))))) 1<|qe 2 (qt 0 false) (.sub0 [.bool] (qf 0 0<|qk .eql 3 0<|qe 4 (qt 0 true) (qf 1 0<|qf 0 0<|qk .sub 6 1<|qg 5 7<|qn 8<|qj 0 9)) 1<|qj 0 3)
theorem zsW:zaM cx 12 76=some zvc.erase:=by kernel_rfl
theorem znw:FnOk cx 12 noC 76 zi2:=rf_ zsW .nil
def zl8 (p0:Int):Bool :=
 (decide ((0:Int)≤p0))&&(decide (p0≤(1099511627776:Int)))
def zhR:PnT:=⟨[.int .i64],[.bool],fun x=>zl8 x⟩
def zrr:TA :=
 .subp [.bool] (qk .geq 0 0<|qe 1 (qk .leq 0 1099511627776<|qj 0 2) (qt 0 false)) 1<|qj 0 1
theorem zrg:zaM cx 12 98=some zrr.erase:=by kernel_rfl
theorem zkh:FnOk cx 12 noC 98 zhR.fn:=rp_ zrg .nil
def zc2 (x0:List (List Int)) (x2 x5 s:Int):Option (Int⊕Unit⊕Int) :=
 if decide (s<x5) then
 (getO x0 s).bind fun v8=>if !decide ((v8.length:Int)=x2) then
 some (Sum.inr (Sum.inr (s)))
 else
 some (Sum.inl (w64 (s + (1:Int))))
 else
 some (Sum.inr (Sum.inl ()))
def zfH (p0:List (List Int)) (p1 p2:Int):Option Bool :=
 (if decide ((p0.length:Int)=p1) then
 ((let v5:Int:=(p0.length:Int)
 zbm (zaQ (zc2 p0 p2 v5) (0:Int):Option (Unit⊕Int)) fun v6=>some ((-1:Int)):Option Int).bind fun v5=>some ((decide ((0:Int)≤v5))):Option Bool).bind fun v5=>some ((!v5))
 else
 some (false):Option Bool).bind fun v3=>some (v3)
def zj2:FnT:=⟨[.sl (.sl (.int .i64)),.int .i64,.int .i64],[.bool],fun x=>zfH x.1 x.2.1 x.2.2⟩
def zj0:TA :=
 .sub0 [.bool] (ql 0<|qb .eql 3 1<|qe 4 (.sub0 [.bool] (.sub0 [.int .i64] (ql 0<|.sub1 [] (.loop [.int .i64] [(qz 0)] (qb .lss 6 5<|qe 7 (qg 0 6<|.subp [.bool] (ql 8<|qb .neq 9 2<|qj 0 10) 1<|qe 9 (qj 2 6) (qk .add 6 1<|qr 0 10)) (qx 1))) 0<|.jmp 0 false [.c (.int .i64 (-1))]) 1<|qk .geq 5 0<|qj 0 6) 1<|qn 5<|qj 0 6) (qt 0 false)) 1<|qj 0 3
theorem zjN:zaM cx 12 128=some zj0.erase:=by kernel_rfl
theorem zsb:FnOk cx 12 noC 128 zj2:=rf_ zjN .nil
def ze9 (p0:List (List Int)) (p1 p2:Int):Option Bool :=
 (if decide ((p0.length:Int)=p1) then
 ((let v5:Int:=(p0.length:Int)
 zbm (zaQ (zc2 p0 p2 v5) (0:Int):Option (Unit⊕Int)) fun v6=>some ((-1:Int)):Option Int).bind fun v5=>some ((decide ((0:Int)≤v5))):Option Bool).bind fun v5=>some ((!v5))
 else
 some (false):Option Bool).bind fun v3=>some (v3)
def zg6:FnT:=⟨[.sl (.sl (.int .u32)),.int .i64,.int .i64],[.bool],fun x=>ze9 x.1 x.2.1 x.2.2⟩
def zgZ:TA :=
 .sub0 [.bool] (ql 0<|qb .eql 3 1<|qe 4 (.sub0 [.bool] (.sub0 [.int .i64] (ql 0<|.sub1 [] (.loop [.int .i64] [(qz 0)] (qb .lss 6 5<|qe 7 (qg 0 6<|.subp [.bool] (ql 8<|qb .neq 9 2<|qj 0 10) 1<|qe 9 (qj 2 6) (qk .add 6 1<|qr 0 10)) (qx 1))) 0<|.jmp 0 false [.c (.int .i64 (-1))]) 1<|qk .geq 5 0<|qj 0 6) 1<|qn 5<|qj 0 6) (qt 0 false)) 1<|qj 0 3
theorem zhp:zaM cx 12 129=some zgZ.erase:=by kernel_rfl
theorem znj:FnOk cx 12 noC 129 zg6:=rf_ zhp .nil
def zk1 (p0:List Int):Bool :=
 !decide ((p0.length:Int)=(19:Int))
def zms:PnT:=⟨[.sl (.int .u8)],[.bool],fun x=>zk1 x⟩
def zm3:TA :=
 ql 0<|qk .neq 1 19<|qj 0 2
theorem zmy:zaM cx 12 131=some zm3.erase:=by kernel_rfl
theorem zvV:FnOk cx 12 noC 131 zms.fn:=rp_ zmy .nil
def zlE (p0 p1:Int):Option Int :=
 if decide (p1<(1:Int)) then
 some ((0:Int))
 else
 (remO (wu64 p0) (wu64 p1)).bind fun v5=>some ((w64 v5))
def zrm:FnT:=⟨[.int .u32,.int .i64],[.int .i64],fun x=>zlE x.1 x.2⟩
def zrc:TA :=
 qk .lss 1 1<|qe 2 (.jmp 0 false [(qz 0)]) (.prim (.conv .u64) [.v 0]<|.prim (.conv .u64) [.v 1]<|qb .rem 3 4<|.prim (.conv .i64) [.v 5]<|qj 0 6)
theorem zrG:zaM cx 12 132=some zrc.erase:=by kernel_rfl
theorem zz0:FnOk cx 12 noC 132 zrm:=rf_ zrG .nil
def ztk (x0:za4) (x1:List Undo) (x2:Int) (s:(Int×Int×(List (zcm×Bool)))):Option ((Int×Int×(List (zcm×Bool)))⊕Unit⊕Bool) :=
 if decide (s.2.1<x2) then
 (getO x1 s.2.1).bind fun v7=>let v10:zcm:=zbQ (zaK v7) (zaZ v7)
 if (decide ((zaK v7)<s.1))||((decide ((zaD x0)<(zaK v7)))||((decide ((zaZ v7)<(0:Int)))||((decide ((zaj x0)≤(zaZ v7)))||(zw6 (Ty.dec zdl) false s.2.2 v10)))) then
 some (Sum.inr (Sum.inr (false)))
 else
 some (Sum.inl (zaK v7,w64 (s.2.1 + (1:Int)),zsa (Ty.dec zdl) v10 true s.2.2))
 else
 some (Sum.inr (Sum.inl ()))
def zk3 (p0:za4):Option Bool :=
 let v2:Int:=(List.length (zak p0):Int)
 zbm (zaQ (ztk p0 (zak p0) v2) ((0:Int),(0:Int),([]:List (zcm×Bool))):Option (Unit⊕Bool)) fun v3=>some (true)
def zm5:FnT:=⟨[zbq],[.bool],fun x=>zk3 x⟩
def zmf:TA :=
 qf 3 0<|ql 1<|.sub1 [] (.loop [.int .i64,.int .i64,.sl (.st [zdl,.bool])] [(qz 0),(qz 0),.c (.sl [])] (qb .lss 4 2<|qe 6 (qg 1 4<|qN 2 0 7<|.mkS zuO (qv [8,9])<|.subp [.bool] (qf 0 7<|qb .lss 11 3<|qe 12 (qt 0 true) (qf 0 7<|qf 2 0<|qb .gtr 13 14<|qe 15 (qt 0 true) (qf 1 7<|qk .lss 16 0<|qe 17 (qt 0 true) (qf 1 7<|qf 1 0<|qb .geq 18 19<|qe 20 (qt 0 true) (.prim (.mget (.bool false)) (qv [5,10])<|qj 0 21))))) 1<|qe 11 (qt 2 false) (qf 0 7<|.prim .mput [.v 5,.v 10,.c (.bool true)]<|qk .add 4 1<|.jmp 0 true (qv [12,14,13]))) (qx 1))) 0<|qt 0 true
theorem zmv:zaM cx 12 135=some zmf.erase:=by kernel_rfl
theorem zvv:FnOk cx 12 noC 135 zm5:=rf_ zmv .nil
def zdv (p0:Int):Bool :=
 (decide ((0:Int)≤p0))&&(decide (p0≤(1099511627776:Int)))
def zeG:PnT:=⟨[.int .i64],[.bool],fun x=>zdv x⟩
def zoq:TA :=
 .subp [.bool] (qk .geq 0 0<|qe 1 (qk .leq 0 1099511627776<|qj 0 2) (qt 0 false)) 1<|qj 0 1
theorem zoP:zaM cx 12 137=some zoq.erase:=by kernel_rfl
theorem zgu:FnOk cx 12 noC 137 zeG.fn:=rp_ zoP .nil
def zmV (p0 p1:Held):Int :=
 w64 ((zcu p0) - (zcu p1))
def zjY:PnT:=⟨[zuE,zuE],[.int .i64],fun x=>zmV x.1 x.2⟩
def zjG:TA :=
 qf 1 0<|qf 1 1<|qb .sub 2 3<|qj 0 4
theorem zjU:zaM cx 12 139=some zjG.erase:=by kernel_rfl
theorem zsh:FnOk cx 12 noC 139 zjY.fn:=rp_ zjU .nil
def zcI (p0:Int) (p1:Bool):Bool :=
 bif !p1 then decide (p0=(0:Int)) else (decide ((0:Int)≤p0))&&(decide (p0<(8:Int)))
def zfF:PnT:=⟨[.int .i64,.bool],[.bool],fun x=>zcI x.1 x.2⟩
def zmo:TA :=
 qn 1<|qe 2 (qk .eql 0 0<|qj 0 3) (.subp [.bool] (qk .geq 0 0<|qe 3 (qk .lss 0 8<|qj 0 4) (qt 0 false)) 1<|qj 0 3)
theorem zmA:zaM cx 12 142=some zmo.erase:=by kernel_rfl
theorem zii:FnOk cx 12 noC 142 zfF.fn:=rp_ zmA .nil
def zhq (p0:zbe) (p1 p2:Int) (p3:Bool):Option Bool :=
 (getO (zai p0) p1).bind fun v5=>(getO v5 p2).bind fun v6=>(getO (zab p0) p1).bind fun v8=>if decide ((zaJ v8)=(w64 (p2 + (1:Int)))) then
 some (false)
 else
 if p3 then
 some (((decide (v6=(2:Int)))||(decide (v6=(3:Int)))))
 else
 some ((!decide (v6=(0:Int))))
def zhb:FnT:=⟨[zbD,.int .i64,.int .i64,.bool],[.bool],fun x=>zhq x.1 x.2.1 x.2.2.1 x.2.2.2⟩
def zuz:TA :=
 qf 0 0<|qg 4 1<|qg 5 2<|qf 2 0<|qg 7 1<|qf 0 8<|qk .add 2 1<|qb .eql 9 10<|qe 11 (qt 0 false) (qe 3 (.subp [.bool] (qk .eql 6 2<|qe 12 (qt 0 true) (qk .eql 6 3<|qj 0 13)) 1<|qj 0 12) (qk .neq 6 0<|qj 0 12))
theorem zs4:zaM cx 12 145=some zuz.erase:=by kernel_rfl
theorem zjm:FnOk cx 12 noC 145 zhb:=rf_ zs4 .nil
def ziD (p0:zbe) (p1:Msg):Bool :=
 let v3:Int:=(List.length (zab p0):Int)
 (decide ((zaH p1)<(List.length (zad p0):Int)))&&((decide ((zaF p1)≤v3))&&((decide ((zcx p1)≤v3))&&(decide ((zbW p1)≤v3))))
def zq1:PnT:=⟨[zbD,tMsg],[.bool],fun x=>ziD x.1 x.2⟩
def zq7:TA :=
 qf 2 0<|ql 2<|.subp [.bool] (qf 3 1<|qf 3 0<|ql 5<|qb .lss 4 6<|qe 7 (qf 1 1<|qb .leq 8 3<|qe 9 (qf 2 1<|qb .leq 10 3<|qe 11 (qf 4 1<|qb .leq 12 3<|qj 0 13) (qt 0 false)) (qt 0 false)) (qt 0 false)) 1<|qj 0 4
theorem zrq:zaM cx 12 152=some zq7.erase:=by kernel_rfl
theorem zyH:FnOk cx 12 noC 152 zq1.fn:=rp_ zrq .nil
def zjv (x0:Clock) (x1:Int) (x2:List Mark) (x3:Int) (s:(Int×Int)):Option ((Int×Int)⊕Int) :=
 if decide (s.2<x3) then
 (getO x2 s.2).bind fun v7=>some (Sum.inl (bif decide ((zbB x0)≤(w64 (x1 - (zbY v7)))) then s.2 else s.1,w64 (s.2 + (1:Int))))
 else
 some (Sum.inr (s.1))
def zgP (p0:Clock) (p1:Int):Option Int :=
 let v3:Int:=(List.length (zao p0):Int)
 (zaQ (zjv p0 p1 (zao p0) v3) ((0:Int),(0:Int)):Option Int).bind fun v4=>some (v4)
def zhK:FnT:=⟨[zbU,.int .i64],[.int .i64],fun x=>zgP x.1 x.2⟩
def zqL:TA :=
 qf 0 0<|ql 2<|.sub0 [.int .i64] (.loop [.int .i64,.int .i64] [(qz 0),(qz 0)] (qb .lss 5 3<|qe 6 (qg 2 5<|qf 1 7<|qb .sub 1 8<|qf 1 0<|qb .geq 9 10<|.subp [.int .i64] (qe 11 (qj 0 5) (qj 0 4)) 1<|qk .add 5 1<|.jmp 0 true (qv [12,13])) (qj 1 4))) 1<|qj 0 4
theorem zq9:zaM cx 12 163=some zqL.erase:=by kernel_rfl
theorem zkp:FnOk cx 12 noC 163 zhK:=rf_ zq9 .nil
def zeQ (x1:Int) (x2:List Held) (x3 s:Int):Option (Int⊕Unit⊕Int) :=
 if decide (s<x3) then
 (getO x2 s).bind fun v6=>if decide (x1≤(zcu v6)) then
 some (Sum.inr (Sum.inr (s)))
 else
 some (Sum.inl (w64 (s + (1:Int))))
 else
 some (Sum.inr (Sum.inl ()))
def zga (p0:Gate) (p1:Int):Option Int :=
 (let v3:Int:=(List.length (zas p0):Int)
 zbm (zaQ (zeQ p1 (zas p0) v3) (0:Int):Option (Unit⊕Int)) fun v4=>some ((-1:Int)):Option Int).bind fun v3=>if decide (v3<(0:Int)) then
 some ((List.length (zas p0):Int))
 else
 some (v3)
def zh9:FnT:=⟨[zdo,.int .i64],[.int .i64],fun x=>zga x.1 x.2⟩
def zmC:TA :=
 qf 0 0<|.sub0 [.int .i64] (ql 2<|.sub1 [] (.loop [.int .i64] [(qz 0)] (qb .lss 4 3<|qe 5 (qg 2 4<|.subp [.bool] (qf 1 6<|qb .geq 7 1<|qj 0 8) 1<|qe 7 (qj 2 4) (qk .add 4 1<|qr 0 8)) (qx 1))) 0<|.jmp 0 false [.c (.int .i64 (-1))]) 1<|qk .lss 3 0<|qe 4 (qf 0 0<|ql 5<|qj 0 6) (qj 0 3)
theorem zmI:zaM cx 12 164=some zmC.erase:=by kernel_rfl
theorem zmw:FnOk cx 12 noC 164 zh9:=rf_ zmI .nil
def zft (p0:Wait):Bool :=
 decide ((0:Int)<(zaJ p0))
def zjW:PnT:=⟨[zd1],[.bool],fun x=>zft x⟩
def zjI:TA :=
 qf 0 0<|qk .gtr 1 0<|qj 0 2
theorem zj7:zaM cx 12 166=some zjI.erase:=by kernel_rfl
theorem zsc:FnOk cx 12 noC 166 zjW.fn:=rp_ zj7 .nil
def zfI (p0:Int):Bool :=
 decide ((0:Int)<p0)
def zjK:PnT:=⟨[.int .i64],[.bool],fun x=>zfI x⟩
def zj5:TA :=
 qk .gtr 0 0<|qj 0 1
theorem zjP:zaM cx 12 167=some zj5.erase:=by kernel_rfl
theorem zsf:FnOk cx 12 noC 167 zjK.fn:=rp_ zjP .nil
def zlV (p0:Bool):Int :=
 bif p0 then (1:Int) else (0:Int)
def zkQ:PnT:=⟨[.bool],[.int .u32],fun x=>zlV x⟩
def zq5:TA :=
 qe 0 (.jmp 0 false [.c (.int .u32 1)]) (.jmp 0 false [.c (.int .u32 0)])
theorem zrt:zaM cx 12 182=some zq5.erase:=by kernel_rfl
theorem zre:FnOk cx 12 noC 182 zkQ.fn:=rp_ zrt .nil
def zea (x2:Int) (x4:List (List Int)) (x5 s:Int):Option (Int⊕Unit⊕Int) :=
 if decide (s<x5) then
 (getO x4 s).bind fun v8=>if !decide ((v8.length:Int)=x2) then
 some (Sum.inr (Sum.inr (s)))
 else
 some (Sum.inl (w64 (s + (1:Int))))
 else
 some (Sum.inr (Sum.inl ()))
def zgI (p0:zco):Option Bool :=
 let v2:Int:=(List.length (zat p0):Int)
 if (decide ((List.length (zac p0):Int)<(1:Int)))||((decide ((8:Int)<(List.length (zac p0):Int)))||((decide (v2<(1:Int)))||((decide ((64:Int)<v2))||((decide ((zaq p0)<(0:Int)))||(decide ((List.length (zac p0):Int)<(zaq p0))))))) then
 some (false)
 else
 ((let v5:Int:=(List.length (zac p0):Int)
 zbm (zaQ (zea v2 (zac p0) v5) (0:Int):Option (Unit⊕Int)) fun v6=>some ((-1:Int)):Option Int).bind fun v5=>some ((decide ((0:Int)≤v5))):Option Bool).bind fun v5=>some ((!v5))
def zk0:FnT:=⟨[zgU],[.bool],fun x=>zgI x⟩
def zlu:TA :=
 qf 1 0<|ql 1<|.subp [.bool] (qf 0 0<|ql 3<|qk .lss 4 1<|qe 5 (qt 0 true) (qf 0 0<|ql 6<|qk .gtr 7 8<|qe 8 (qt 0 true) (qk .lss 2 1<|qe 9 (qt 0 true) (qk .gtr 2 64<|qe 10 (qt 0 true) (qf 2 0<|qk .lss 11 0<|qe 12 (qt 0 true) (qf 2 0<|qf 0 0<|ql 14<|qb .gtr 13 15<|qj 0 16)))))) 1<|qe 3 (qt 0 false) (qf 0 0<|.sub0 [.bool] (.sub0 [.int .i64] (ql 4<|.sub1 [] (.loop [.int .i64] [(qz 0)] (qb .lss 6 5<|qe 7 (qg 4 6<|.subp [.bool] (ql 8<|qb .neq 9 2<|qj 0 10) 1<|qe 9 (qj 2 6) (qk .add 6 1<|qr 0 10)) (qx 1))) 0<|.jmp 0 false [.c (.int .i64 (-1))]) 1<|qk .geq 5 0<|qj 0 6) 1<|qn 5<|qj 0 6)
theorem zkb:zaM cx 12 183=some zlu.erase:=by kernel_rfl
theorem zvt:FnOk cx 12 noC 183 zk0:=rf_ zkb .nil
def zid (p0:Int):Bool :=
 !decide (p0=(0:Int))
def zj6:PnT:=⟨[.int .u32],[.bool],fun x=>zid x⟩
def zjL:TA :=
 .prim (.bin .neq) [.v 0,.c (.int .u32 0)]<|qj 0 1
theorem zjV:zaM cx 12 185=some zjL.erase:=by kernel_rfl
theorem zsk:FnOk cx 12 noC 185 zj6.fn:=rp_ zjV .nil
def zbK (x0 x1:List Int) (x5 s:Int):Option (Int⊕Unit⊕Bool) :=
 if decide (s<x5) then
 (getO x0 s).bind fun v8=>(getO x1 s).bind fun v9=>if !decide (v8=v9) then
 some (Sum.inr (Sum.inr (false)))
 else
 some (Sum.inl (w64 (s + (1:Int))))
 else
 some (Sum.inr (Sum.inl ()))
def zb4 (p0 p1:List Int):Option Bool :=
 if !decide ((p0.length:Int)=(p1.length:Int)) then
 some (false)
 else
 let v5:Int:=(p0.length:Int)
 zbm (zaQ (zbK p0 p1 v5) (0:Int):Option (Unit⊕Bool)) fun v6=>some (true)
def zdr:FnT:=⟨[.sl (.int .u32),.sl (.int .u32)],[.bool],fun x=>zb4 x.1 x.2⟩
def zdq:TA :=
 ql 0<|ql 1<|qb .neq 2 3<|qe 4 (qt 0 false) (ql 0<|.sub1 [] (.loop [.int .i64] [(qz 0)] (qb .lss 6 5<|qe 7 (qg 0 6<|qg 1 6<|qb .neq 8 9<|qe 10 (qt 2 false) (qk .add 6 1<|qr 0 11)) (qx 1))) 0<|qt 0 true)
theorem zds:zaM cx 12 186=some zdq.erase:=by kernel_rfl
theorem zgD:FnOk cx 12 noC 186 zdr:=rf_ zds .nil
def zDf (p0:Int):Int :=
 let v1:Bool:=decide (p0=(1:Int))
 let v3e:Bool:=decide (p0=(2:Int))
 let v4e_e:Bool:=decide (p0=(3:Int))
 let v5e_e_e:Bool:=decide (p0=(4:Int))
 let v6e_e_e_e:Bool:=decide (p0=(5:Int))
 let v7e_e_e_e_e:Bool:=decide (p0=(6:Int))
 let v8e_e_e_e_e_e:Bool:=decide (p0=(7:Int))
 let v9e_e_e_e_e_e_e:Bool:=decide (p0=(8:Int))
 let v5ee:Bool:=decide (p0=(9:Int))
 bif bif v1 then v1 else decide (p0=(14:Int)) then (9:Int) else bif bif v3e then v3e else bif v4e_e then v4e_e else bif v5e_e_e then v5e_e_e else bif v6e_e_e_e then v6e_e_e_e else bif v7e_e_e_e_e then v7e_e_e_e_e else bif v8e_e_e_e_e_e then v8e_e_e_e_e_e else bif v9e_e_e_e_e_e_e then v9e_e_e_e_e_e_e else decide (p0=(11:Int)) then (7:Int) else bif bif v5ee then v5ee else decide (p0=(10:Int)) then (3:Int) else bif decide (p0=(13:Int)) then (8:Int) else bif decide (p0=(15:Int)) then (1:Int) else (0:Int)
def zwg:PnT:=⟨[.int .i64],[.int .i64],fun x=>zDf x⟩
def zwx:TA :=
 qk .eql 0 1<|.subp [.bool] (qe 1 (qj 0 1) (qk .eql 0 14<|qj 0 2)) 1<|qe 2 (.jmp 0 false [(qz 9)]) (qk .eql 0 2<|.subp [.bool] (qe 3 (qj 0 3) (qk .eql 0 3<|.subp [.bool] (qe 4 (qj 0 4) (qk .eql 0 4<|.subp [.bool] (qe 5 (qj 0 5) (qk .eql 0 5<|.subp [.bool] (qe 6 (qj 0 6) (qk .eql 0 6<|.subp [.bool] (qe 7 (qj 0 7) (qk .eql 0 7<|.subp [.bool] (qe 8 (qj 0 8) (qk .eql 0 8<|.subp [.bool] (qe 9 (qj 0 9) (qk .eql 0 11<|qj 0 10)) 1<|qj 0 10)) 1<|qj 0 9)) 1<|qj 0 8)) 1<|qj 0 7)) 1<|qj 0 6)) 1<|qj 0 5)) 1<|qe 4 (.jmp 0 false [(qz 7)]) (qk .eql 0 9<|.subp [.bool] (qe 5 (qj 0 5) (qk .eql 0 10<|qj 0 6)) 1<|qe 6 (.jmp 0 false [(qz 3)]) (qk .eql 0 13<|qe 7 (.jmp 0 false [(qz 8)]) (qk .eql 0 15<|qe 8 (.jmp 0 false [(qz 1)]) (.jmp 0 false [(qz 0)])))))
theorem zwt:zaM cx 12 188=some zwx.erase:=by kernel_rfl
theorem zDn:FnOk cx 12 noC 188 zwg.fn:=rp_ zwt .nil
def ze8 (p0:Int):Bool :=
 decide ((2:Int)≤p0)
def zlr:PnT:=⟨[.int .i64],[.bool],fun x=>ze8 x⟩
def zrE:TA :=
 qk .geq 0 2<|qj 0 1
theorem zrT:zaM cx 12 199=some zrE.erase:=by kernel_rfl
theorem zqs:FnOk cx 12 noC 199 zlr.fn:=rp_ zrT .nil
def zdg (p0:za4) (p1:Int):Option (Int×Int) :=
 let v4:Int:=(List.length (zac (zae p0)):Int)
 (remO p1 v4).bind fun v5=>(quoO .i64 p1 v4).bind fun v6=>some ((v5,v6))
def zeM:FnT:=⟨[zbq,.int .i64],[.int .i64,.int .i64],fun x=>zdg x.1 x.2⟩
def zoZ:TA :=
 qf 0 0<|qf 0 2<|ql 3<|qb .rem 1 4<|qb .quo 1 4<|.jmp 0 false (qv [5,6])
theorem zpt:zaM cx 12 204=some zoZ.erase:=by kernel_rfl
theorem zgH:FnOk cx 12 noC 204 zeM:=rf_ zpt .nil
def zgR (x1:List Int) (s:(Int×Int)):Option ((Int×Int)⊕Int) :=
 if decide (s.2<(4:Int)) then
 (getO x1 s.2).bind fun v5=>(shlO .u32 s.1 (8:Int)).bind fun v6=>some (Sum.inl (bOr .u32 v6 (wu32 v5),w64 (s.2 + (1:Int))))
 else
 some (Sum.inr (s.1))
def zjk (p0:List Int):Option Int :=
 let v1:List Int:=cpyT ([(0:Int),(0:Int),(0:Int),(0:Int)]:List Int) p0
 (zaQ (zgR v1) ((0:Int),(0:Int)):Option Int).bind fun v2=>some (v2)
def zoR:FnT:=⟨[.sl (.int .u8)],[.int .u32],fun x=>zjk x⟩
def zyW:TA :=
 .primH .cpy (.arr 4 (.int .u8)) [.c (.agg [(.int .u8 0),(.int .u8 0),(.int .u8 0),(.int .u8 0)]),.v 0]<|.sub0 [.int .u32] (.loop [.int .u32,.int .i64] [.c (.int .u32 0),(qz 0)] (qk .lss 3 4<|qe 4 (qg 1 3<|.prim (.bin .shl) [.v 2,.c (.int .u64 8)]<|.prim (.conv .u32) [.v 5]<|qb .or 6 7<|qk .add 3 1<|.jmp 0 true (qv [8,9])) (qj 1 2))) 1<|qj 0 2
theorem zAu:zaM cx 12 216=some zyW.erase:=by kernel_rfl
theorem zu6:FnOk cx 12 noC 216 zoR:=rf_ zAu .nil
def zfO (s:(Int×Int)):Option ((Int×Int)⊕Int) :=
 if decide (s.2<(8:Int)) then
 (shrO .u32 s.1 (1:Int)).bind fun v13=>some (Sum.inl (bif decide ((bAnd .u32 s.1 (1:Int))=(1:Int)) then bXor .u32 v13 (3988292384:Int) else v13,w64 (s.2 + (1:Int))))
 else
 some (Sum.inr (s.1))
def zhB (x0:List Int) (x1:Int) (s:(Int×Int)):Option ((Int×Int)⊕Int) :=
 if decide (s.2<x1) then
 (getO x0 s.2).bind fun v5=>(zaQ zfO (bXor .u32 s.1 (wu32 v5),(0:Int)):Option Int).bind fun v8=>some (Sum.inl (v8,w64 (s.2 + (1:Int))))
 else
 some (Sum.inr (s.1))
def zg7 (p0:List Int):Option Int :=
 let v1:Int:=(p0.length:Int)
 (zaQ (zhB p0 v1) ((4294967295:Int),(0:Int)):Option Int).bind fun v2=>some ((bNot .u32 v2))
def znz:FnT:=⟨[.sl (.int .u8)],[.int .u32],fun x=>zg7 x⟩
def ztM:TA :=
 ql 0<|.sub0 [.int .u32] (.loop [.int .u32,.int .i64] [.c (.int .u32 4294967295),(qz 0)] (qb .lss 3 1<|qe 4 (qg 0 3<|.prim (.conv .u32) [.v 5]<|qb .xor 2 6<|.sub0 [.int .u32] (.loop [.int .u32,.int .i64] [.v 7,(qz 0)] (qk .lss 9 8<|qe 10 (.prim (.bin .and) [.v 8,.c (.int .u32 1)]<|.prim (.bin .eql) [.v 11,.c (.int .u32 1)]<|.prim (.bin .shr) [.v 8,.c (.int .u64 1)]<|.subp [.int .u32] (qe 12 (.prim (.bin .xor) [.v 13,.c (.int .u32 3988292384)]<|qj 0 14) (qj 0 13)) 1<|qk .add 9 1<|.jmp 0 true (qv [14,15])) (qj 1 8))) 1<|qk .add 3 1<|.jmp 0 true (qv [8,9])) (qj 1 2))) 1<|.prim (.un .xor) [.v 2]<|qj 0 3
theorem zvo:zaM cx 12 217=some ztM.erase:=by kernel_rfl
theorem zuH:FnOk cx 12 noC 217 znz:=rf_ zvo .nil
def bytes_Equal (p0 p1:List Int):Option Bool :=
 (b2sO p0).bind fun v2 =>
 (b2sO p1).bind fun v3 =>
 some ((decide (v2=v3)))
def zou:FnT:=⟨[.sl (.int .u8),.sl (.int .u8)],[.bool],fun x=>bytes_Equal x.1 x.2⟩
def znQ:TA :=
 .prim .b2s [.v 0]<|.prim .b2s [.v 1]<|qb .eql 2 3<|qj 0 4
theorem zot:zaM cx 12 219=some znQ.erase:=by kernel_rfl
theorem zxy:FnOk cx 12 noC 219 zou:=rf_ zot .nil
def zaV (p0:Int):Bool :=
 (decide ((0:Int)≤p0))&&(decide (p0≤(255:Int)))
def zmR:PnT:=⟨[.int .i64],[.bool],fun x=>zaV x⟩
def zmW:TA :=
 .subp [.bool] (qk .geq 0 0<|qe 1 (qk .leq 0 255<|qj 0 2) (qt 0 false)) 1<|qj 0 1
theorem zme:zaM cx 12 230=some zmW.erase:=by kernel_rfl
theorem zvJ:FnOk cx 12 noC 230 zmR.fn:=rp_ zme .nil
def zgS (p0:Int):Option (List Int) :=
 (shrO .u32 p0 (24:Int)).bind fun v1=>(shrO .u32 p0 (16:Int)).bind fun v3=>(shrO .u32 p0 (8:Int)).bind fun v5=>some (([wu8 v1,wu8 v3,wu8 v5,wu8 p0]:List Int))
def zhZ:FnT:=⟨[.int .u32],[.sl (.int .u8)],fun x=>zgS x⟩
def zr0:TA :=
 .prim (.bin .shr) [.v 0,.c (.int .u64 24)]<|.prim (.conv .u8) [.v 1]<|.prim (.bin .shr) [.v 0,.c (.int .u64 16)]<|.prim (.conv .u8) [.v 3]<|.prim (.bin .shr) [.v 0,.c (.int .u64 8)]<|.prim (.conv .u8) [.v 5]<|.prim (.conv .u8) [.v 0]<|.mkL (.int .u8) (qv [2,4,6,7])<|qj 0 8
theorem zqx:zaM cx 12 232=some zr0.erase:=by kernel_rfl
theorem zkT:FnOk cx 12 noC 232 zhZ:=rf_ zqx .nil
def za2 (x0:List Bool) (x1:Bool) (x2 s:Int):Option (Int⊕Unit⊕Int) :=
 if decide (s<x2) then
 (getO x0 s).bind fun v5=>if decide (x1=v5) then
 some (Sum.inr (Sum.inr (s)))
 else
 some (Sum.inl (w64 (s + (1:Int))))
 else
 some (Sum.inr (Sum.inl ()))
def zb5 (p0:List Bool) (p1:Bool):Option Int :=
 let v2:Int:=(p0.length:Int)
 zbm (zaQ (za2 p0 p1 v2) (0:Int):Option (Unit⊕Int)) fun v3=>some ((-1:Int))
def zer:FnT:=⟨[.sl .bool,.bool],[.int .i64],fun x=>zb5 x.1 x.2⟩
def zet:TA :=
 ql 0<|.sub1 [] (.loop [.int .i64] [(qz 0)] (qb .lss 3 2<|qe 4 (qg 0 3<|qb .eql 1 5<|qe 6 (qj 2 3) (qk .add 3 1<|qr 0 7)) (qx 1))) 0<|.jmp 0 false [.c (.int .i64 (-1))]
theorem zex:zaM cx 12 238=some zet.erase:=by kernel_rfl
theorem ziG:FnOk cx 12 noC 238 zer:=rf_ zex .nil
def zmh:TA :=
 qf 0 0<|.sub0 [.bool] (.sub0 [.int .i64] (ql 1<|.sub1 [] (.loop [.int .i64] [(qz 0)] (qb .lss 3 2<|qe 4 (qg 1 3<|.callp 31 zse [.v 5] 1<|qe 6 (qj 2 3) (qk .add 3 1<|qr 0 7)) (qx 1))) 0<|.jmp 0 false [.c (.int .i64 (-1))]) 1<|qk .geq 2 0<|qj 0 3) 1<|qn 2<|qj 0 3
theorem zvF:zaM cx 12 12=some zmh.erase:=by kernel_rfl
def zfZ (x0 x1:Int) (s:(Int×(List Entry))):Option ((Int×(List Entry))⊕(List Entry)) :=
 if decide (s.1<x1) then
 (zoE x0).bind fun v11=>(appO 32 s.2 ([v11.1]:List Entry)).bind fun v14=>some (Sum.inl (w64 (s.1 + (1:Int)),v14))
 else
 some (Sum.inr (s.2))
def zfQ (x0 x1:Int) (s:(Int×(List (List Int))×(List (List Int)))):Option ((Int×(List (List Int))×(List (List Int)))⊕((List (List Int))×(List (List Int)))) :=
 if decide (s.1<x0) then
 (repO (0:Int) 8 x1 x1).bind fun v10=>(appO 24 s.2.1 ([v10]:List (List Int))).bind fun v12=>(repO (0:Int) 4 x1 x1).bind fun v13=>(appO 24 s.2.2 ([v13]:List (List Int))).bind fun v15=>some (Sum.inl (w64 (s.1 + (1:Int)),v12,v15))
 else
 some (Sum.inr ((s.2.1,s.2.2)))
def zd8 (p0 p1:Int):Option (zbe×Int) :=
 if (decide (p0<(1:Int)))||((decide ((4:Int)<p0))||((decide (p1<(1:Int)))||(decide ((16:Int)<p1)))) then
 some (((zaB ([]:List (List Int)) ([]:List (List Int)) ([]:List Wait) ([]:List Int) ([]:List Entry) ([]:List Int) (za5 ([]:List (List Int)))),(1:Int)))
 else
 (repO (zbx (0:Int) false false false false false (0 0 0:Int)) 40 p0 p0).bind fun v3=>(repO (0:Int) 4 p1 p1).bind fun v4=>(repO (0:Int) 8 p1 p1).bind fun v5=>(zaQ (zfQ p0 p1) ((0:Int),([]:List (List Int)),([]:List (List Int))):Option ((List (List Int))×(List (List Int)))).bind fun v6=>(zaQ (zfZ p0 p1) ((0:Int),([]:List Entry)):Option (List Entry)).bind fun v8=>some ((zaB v6.1 v6.2 v3 v4 v8 v5 (za5 ([]:List (List Int))),(0:Int)))
def zhw:FnT:=⟨[.int .i64,.int .i64],[zbD,.int .i64],fun x=>zd8 x.1 x.2⟩
def zuh:TA :=
 .subp [.bool] (qk .lss 0 1<|qe 2 (qt 0 true) (qk .gtr 0 4<|qe 3 (qt 0 true) (qk .lss 1 1<|qe 4 (qt 0 true) (qk .gtr 1 16<|qj 0 5)))) 1<|qe 2 (.jmp 0 false [.c (.agg [.nil,.nil,.nil,.nil,.nil,.nil,(.agg [.nil])]),(qz 1)]) (.primH (.rep (.agg [(.int .i64 0),(.bool false),(.bool false),(.bool false),(.bool false),(.bool false),(.int .i64 0),(.int .i64 0),(.int .u32 0)]) 40) (.sl zd1) (qv [0,0])<|.primH (.rep (.int .u32 0) 4) (.sl (.int .u32)) (qv [1,1])<|.primH (.rep (.int .i64 0) 8) (.sl (.int .i64)) (qv [1,1])<|.sub0 [.sl (.sl (.int .i64)),.sl (.sl (.int .u32))] (.loop [.int .i64,.sl (.sl (.int .i64)),.sl (.sl (.int .u32))] [(qz 0),.c .nil,.c .nil] (qb .lss 6 0<|qe 9 (.primH (.rep (.int .i64 0) 8) (.sl (.int .i64)) (qv [1,1])<|.mkL (.sl (.int .i64)) [.v 10]<|qa 24 7 11<|.primH (.rep (.int .u32 0) 4) (.sl (.int .u32)) (qv [1,1])<|.mkL (.sl (.int .u32)) [.v 13]<|qa 24 8 14<|qk .add 6 1<|.jmp 0 true (qv [16,12,15])) (.jmp 1 false (qv [7,8])))) 2<|.sub0 [.sl zbF] (.loop [.int .i64,.sl zbF] [(qz 0),.c .nil] (qb .lss 8 1<|qe 10 (.call 53 ztX [.v 0] 2<|.mkL zbF [.v 11]<|qa 32 9 13<|qk .add 8 1<|.jmp 0 true (qv [15,14])) (qj 1 9))) 1<|.mkS zcV [.v 6,.v 7,.v 3,.v 4,.v 8,.v 5,.c (.agg [.nil])]<|.jmp 0 false [.v 9,(qz 0)])
theorem ztZ:zaM cx 12 25=some zuh.erase:=by kernel_rfl
theorem zjC:FnOk cx 12 noC 25 zhw:=rf_ ztZ (.cons zAE .nil)
def zf4 (x1 x3:Int) (s:(Int×(List (List Int)))):Option ((Int×(List (List Int)))⊕(List (List Int))) :=
 if decide (s.1<x1) then
 (repO (0:Int) 4 x3 x3).bind fun v9=>(appO 24 s.2 ([v9]:List (List Int))).bind fun v11=>some (Sum.inl (w64 (s.1 + (1:Int)),v11))
 else
 some (Sum.inr (s.2))
def zos (p0 p1:Int):Option (za4×Int) :=
 if (decide (p0<(1:Int)))||((decide ((64:Int)<p0))||((decide (p1<(1:Int)))||(decide ((8:Int)<p1)))) then
 some (((zaX (zaY ([]:List (List Int)) ([]:List Int) (0:Int)) (0 0:Int) ([]:List Undo)),(1:Int)))
 else
 (ziA p0 p1).bind fun v3=>(if (decide (p1<(1:Int)))||((decide ((8:Int)<p1))||((decide (v3<(1:Int)))||(decide ((64:Int)<v3)))) then
 some ((([]:List (List Int)),([]:List Int)))
 else
 (repO (0:Int) 4 v3 v3).bind fun v5=>(zaQ (zf4 p1 v3) ((0:Int),([]:List (List Int))):Option (List (List Int))).bind fun v6=>some ((v6,v5)):Option ((List (List Int))×(List Int))).bind fun v4=>some ((zaX (zaY v4.1 v4.2 (0:Int)) p0 (0:Int) ([]:List Undo),(0:Int)))
def zvg:FnT:=⟨[.int .i64,.int .i64],[zbq,.int .i64],fun x=>zos x.1 x.2⟩
def zus:TA :=
 .subp [.bool] (qk .lss 0 1<|qe 2 (qt 0 true) (qk .gtr 0 64<|qe 3 (qt 0 true) (qk .lss 1 1<|qe 4 (qt 0 true) (qk .gtr 1 8<|qj 0 5)))) 1<|qe 2 (.jmp 0 false [.c (.agg [(.agg [.nil,.nil,(.int .i64 0)]),(.int .i64 0),(.int .i64 0),.nil]),(qz 1)]) (.call 55 zlk (qv [0,1]) 1<|.sub0 [.no,.sl (.sl (.int .u32)),.sl (.int .u32)] (.subp [.bool] (qk .lss 1 1<|qe 4 (qt 0 true) (qk .gtr 1 8<|qe 5 (qt 0 true) (qk .lss 3 1<|qe 6 (qt 0 true) (qk .gtr 3 64<|qj 0 7)))) 1<|qe 4 (.jmp 0 false [(qz 1),.c .nil,.c .nil]) (.primH (.rep (.int .u32 0) 4) (.sl (.int .u32)) (qv [3,3])<|.sub0 [.sl (.sl (.int .u32))] (.loop [.int .i64,.sl (.sl (.int .u32))] [(qz 0),.c .nil] (qb .lss 6 1<|qe 8 (.primH (.rep (.int .u32 0) 4) (.sl (.int .u32)) (qv [3,3])<|.mkL (.sl (.int .u32)) [.v 9]<|qa 24 7 10<|qk .add 6 1<|.jmp 0 true (qv [12,11])) (qj 1 7))) 1<|.jmp 0 false [(qz 0),.v 6,.v 5])) 3<|.mkS zb8 [.v 5,.v 6,(qz 0)]<|.mkS zdb [.v 7,.v 0,(qz 0),.c .nil]<|.jmp 0 false [.v 8,(qz 0)])
theorem ztS:zaM cx 12 26=some zus.erase:=by kernel_rfl
theorem zBx:FnOk cx 12 noC 26 zvg:=rf_ ztS (.cons zro .nil)
def zeK (p0:Int):Bool :=
 !(zf2 p0)
def ziF:PnT:=⟨[.int .i64],[.bool],fun x=>zeK x⟩
def ziH:TA :=
 .callp 45 zij [.v 0] 1<|qn 1<|qj 0 2
theorem ziK:zaM cx 12 47=some ziH.erase:=by kernel_rfl
theorem zqc:FnOk cx 12 noC 47 ziF.fn:=rp_ ziK (.cons zmE .nil)
def zil (x2:List Mark) (x3:Int) (s:(Int×Int×Int)):Option ((Int×Int×Int)⊕Unit⊕Bool) :=
 if decide (s.2.2<x3) then
 (getO x2 s.2.2).bind fun v8=>if (!(zl8 (zaU v8)))||((!(zl8 (zbY v8)))||((decide ((zaU v8)≤s.1))||((decide ((zbY v8)≤s.2.1))||(decide ((4:Int)<(List.length (za8 v8):Int)))))) then
 some (Sum.inr (Sum.inr (false)))
 else
 some (Sum.inl (zaU v8,zbY v8,w64 (s.2.2 + (1:Int))))
 else
 some (Sum.inr (Sum.inl ()))
def zei (p0:Clock):Option Bool :=
 if (decide ((List.length (zao p0):Int)<(1:Int)))||((decide ((8:Int)<(List.length (zao p0):Int)))||((decide ((zbB p0)<(1:Int)))||(decide ((1048576:Int)<(zbB p0))))) then
 some (false)
 else
 let v3:Int:=(List.length (zao p0):Int)
 zbm (zaQ (zil (zao p0) v3) ((-1:Int),(-1:Int),(0:Int)):Option (Unit⊕Bool)) fun v4=>some (true)
def zeA:FnT:=⟨[zbU],[.bool],fun x=>zei x⟩
def zps:TA :=
 .subp [.bool] (qf 0 0<|ql 1<|qk .lss 2 1<|qe 3 (qt 0 true) (qf 0 0<|ql 4<|qk .gtr 5 8<|qe 6 (qt 0 true) (qf 1 0<|qk .lss 7 1<|qe 8 (qt 0 true) (qf 1 0<|qk .gtr 9 1048576<|qj 0 10)))) 1<|qe 1 (qt 0 false) (qf 0 0<|ql 2<|.sub1 [] (.loop [.int .i64,.int .i64,.int .i64] [.c (.int .i64 (-1)),.c (.int .i64 (-1)),(qz 0)] (qb .lss 6 3<|qe 7 (qg 2 6<|.subp [.bool] (qf 0 8<|.callp 98 zhR [.v 9] 1<|qn 10<|qe 11 (qt 0 true) (qf 1 8<|.callp 98 zhR [.v 12] 1<|qn 13<|qe 14 (qt 0 true) (qf 0 8<|qb .leq 15 4<|qe 16 (qt 0 true) (qf 1 8<|qb .leq 17 5<|qe 18 (qt 0 true) (qf 2 8<|ql 19<|qk .gtr 20 4<|qj 0 21))))) 1<|qe 9 (qt 2 false) (qN 2 0 8<|qk .add 6 1<|.jmp 0 true (qv [10,11,12]))) (qx 1))) 0<|qt 0 true)
theorem zoz:zaM cx 12 57=some zps.erase:=by kernel_rfl
theorem zgK:FnOk cx 12 noC 57 zeA:=rf_ zoz (.cons zkh (.cons zkh .nil))
def zh3 (p0:zbe):Option Bool :=
 let v2:Int:=(List.length (zab p0):Int)
 let v4:Int:=(List.length (zad p0):Int)
 if (decide (v2<(1:Int)))||((decide ((4:Int)<v2))||((decide (v4<(1:Int)))||(decide ((16:Int)<v4)))) then
 some (false)
 else
 ((zfH (zai p0) v2 v4).bind fun v7=>if v7 then
 (ze9 (zam p0) v2 v4).bind fun v9=>if v9 then
 if decide ((List.length (zay p0):Int)=v4) then
 some ((decide ((List.length (zal p0):Int)=v4)))
 else
 some (false)
 else
 some (false)
 else
 some (false):Option Bool).bind fun v6=>some (v6)
def zml:FnT:=⟨[zbD],[.bool],fun x=>zh3 x⟩
def zmp:TA :=
 qf 2 0<|ql 1<|qf 3 0<|ql 3<|.subp [.bool] (qk .lss 2 1<|qe 5 (qt 0 true) (qk .gtr 2 4<|qe 6 (qt 0 true) (qk .lss 4 1<|qe 7 (qt 0 true) (qk .gtr 4 16<|qj 0 8)))) 1<|qe 5 (qt 0 false) (.sub0 [.bool] (qf 0 0<|.call 128 zj2 (qv [6,2,4]) 1<|qe 7 (qf 1 0<|.call 129 zg6 (qv [8,2,4]) 1<|qe 9 (qf 4 0<|ql 10<|qb .eql 11 4<|qe 12 (qf 5 0<|ql 13<|qb .eql 14 4<|qj 0 15) (qt 0 false)) (qt 0 false)) (qt 0 false)) 1<|qj 0 6)
theorem zmm:zaM cx 12 72=some zmp.erase:=by kernel_rfl
theorem zvU:FnOk cx 12 noC 72 zml:=rf_ zmm (.cons zsb (.cons znj .nil))
def zgw (x4:List (List Int)) (x5 s:Int):Option (Int⊕Unit⊕Int) :=
 if decide (s<x5) then
 (getO x4 s).bind fun v8=>if zk1 v8 then
 some (Sum.inr (Sum.inr (s)))
 else
 some (Sum.inl (w64 (s + (1:Int))))
 else
 some (Sum.inr (Sum.inl ()))
def zfk (p0:Pool):Option Bool :=
 (if decide ((List.length (zaf p0):Int)≤(64:Int)) then
 ((let v5:Int:=(List.length (zaf p0):Int)
 zbm (zaQ (zgw (zaf p0) v5) (0:Int):Option (Unit⊕Int)) fun v6=>some ((-1:Int)):Option Int).bind fun v5=>some ((decide ((0:Int)≤v5))):Option Bool).bind fun v5=>some ((!v5))
 else
 some (false):Option Bool).bind fun v1=>some (v1)
def zf7:FnT:=⟨[zb2],[.bool],fun x=>zfk x⟩
def zqY:TA :=
 .sub0 [.bool] (qf 0 0<|ql 1<|qk .leq 2 64<|qe 3 (qf 0 0<|.sub0 [.bool] (.sub0 [.int .i64] (ql 4<|.sub1 [] (.loop [.int .i64] [(qz 0)] (qb .lss 6 5<|qe 7 (qg 4 6<|.callp 131 zms [.v 8] 1<|qe 9 (qj 2 6) (qk .add 6 1<|qr 0 10)) (qx 1))) 0<|.jmp 0 false [.c (.int .i64 (-1))]) 1<|qk .geq 5 0<|qj 0 6) 1<|qn 5<|qj 0 6) (qt 0 false)) 1<|qj 0 1
theorem zrP:zaM cx 12 73=some zqY.erase:=by kernel_rfl
theorem zhP:FnOk cx 12 noC 73 zf7:=rf_ zrP (.cons zvV .nil)
def zgv (p0:Int):Bool :=
 !(zbn p0 (5:Int))
def zk9:PnT:=⟨[.int .i64],[.bool],fun x=>zgv x⟩
def zk5:TA :=
 .callp 74 zcr [.v 0,(qz 5)] 1<|qn 1<|qj 0 2
theorem zkw:zaM cx 12 75=some zk5.erase:=by kernel_rfl
theorem zuF:FnOk cx 12 noC 75 zk9.fn:=rp_ zkw (.cons zcN .nil)
def zeC (x8:List Int) (x9 s:Int):Option (Int⊕Unit⊕Int) :=
 if decide (s<x9) then
 (getO x8 s).bind fun v12=>if zfI v12 then
 some (Sum.inr (Sum.inr (s)))
 else
 some (Sum.inl (w64 (s + (1:Int))))
 else
 some (Sum.inr (Sum.inl ()))
def zeX (x1:List Wait) (x2 s:Int):Option (Int⊕Unit⊕Int) :=
 if decide (s<x2) then
 (getO x1 s).bind fun v5=>if zft v5 then
 some (Sum.inr (Sum.inr (s)))
 else
 some (Sum.inl (w64 (s + (1:Int))))
 else
 some (Sum.inr (Sum.inl ()))
def zf0 (p0:zbe):Option Bool :=
 ((let v2:Int:=(List.length (zab p0):Int)
 zbm (zaQ (zeX (zab p0) v2) (0:Int):Option (Unit⊕Int)) fun v3=>some ((-1:Int)):Option Int).bind fun v2=>some ((decide ((0:Int)≤v2))):Option Bool).bind fun v2=>(if decide ((List.length (zaf (zax p0)):Int)=(0:Int)) then
 if !v2 then
 ((let v9:Int:=(List.length (zal p0):Int)
 zbm (zaQ (zeC (zal p0) v9) (0:Int):Option (Unit⊕Int)) fun v10=>some ((-1:Int)):Option Int).bind fun v9=>some ((decide ((0:Int)≤v9))):Option Bool).bind fun v9=>some ((!v9))
 else
 some (false)
 else
 some (false):Option Bool).bind fun v3=>some (v3)
def zh8:FnT:=⟨[zbD],[.bool],fun x=>zf0 x⟩
def zmQ:TA :=
 qf 2 0<|.sub0 [.bool] (.sub0 [.int .i64] (ql 1<|.sub1 [] (.loop [.int .i64] [(qz 0)] (qb .lss 3 2<|qe 4 (qg 1 3<|.callp 166 zjW [.v 5] 1<|qe 6 (qj 2 3) (qk .add 3 1<|qr 0 7)) (qx 1))) 0<|.jmp 0 false [.c (.int .i64 (-1))]) 1<|qk .geq 2 0<|qj 0 3) 1<|.sub0 [.bool] (qf 6 0<|qf 0 3<|ql 4<|qk .eql 5 0<|qe 6 (qn 2<|qe 7 (qf 5 0<|.sub0 [.bool] (.sub0 [.int .i64] (ql 8<|.sub1 [] (.loop [.int .i64] [(qz 0)] (qb .lss 10 9<|qe 11 (qg 8 10<|.callp 167 zjK [.v 12] 1<|qe 13 (qj 2 10) (qk .add 10 1<|qr 0 14)) (qx 1))) 0<|.jmp 0 false [.c (.int .i64 (-1))]) 1<|qk .geq 9 0<|qj 0 10) 1<|qn 9<|qj 0 10) (qt 0 false)) (qt 0 false)) 1<|qj 0 3
theorem zmJ:zaM cx 12 117=some zmQ.erase:=by kernel_rfl
theorem zmt:FnOk cx 12 noC 117 zh8:=rf_ zmJ (.cons zsc (.cons zsf .nil))
def ztQ (p0 p1 p2:Int):(Int×Bool) :=
 (bif decide (p0=(2:Int)) then wu32 (p1 + p2) else bif decide (p0=(3:Int)) then wu32 (p1 - p2) else bif decide (p0=(4:Int)) then wu32 (p1 * p2) else bif decide (p0=(5:Int)) then bAnd .u32 p1 p2 else bif decide (p0=(6:Int)) then bXor .u32 p1 p2 else bif decide (p0=(7:Int)) then zlV (decide (p1=p2)) else bif decide (p0=(8:Int)) then zlV (decide (p1<p2)) else (0:Int),(decide (p0=(2:Int)))||((decide (p0=(3:Int)))||((decide (p0=(4:Int)))||((decide (p0=(5:Int)))||((decide (p0=(6:Int)))||((decide (p0=(7:Int)))||((decide (p0=(8:Int)))&&true)))))))
def zzh:PnT:=⟨[.int .i64,.int .u32,.int .u32],[.int .u32,.bool],fun x=>ztQ x.1 x.2.1 x.2.2⟩
def zy8:TA :=
 qk .eql 0 2<|qe 3 (qb .add 1 2<|.jmp 0 false [.v 4,.c (.bool true)]) (qk .eql 0 3<|qe 4 (qb .sub 1 2<|.jmp 0 false [.v 5,.c (.bool true)]) (qk .eql 0 4<|qe 5 (qb .mul 1 2<|.jmp 0 false [.v 6,.c (.bool true)]) (qk .eql 0 5<|qe 6 (qb .and 1 2<|.jmp 0 false [.v 7,.c (.bool true)]) (qk .eql 0 6<|qe 7 (qb .xor 1 2<|.jmp 0 false [.v 8,.c (.bool true)]) (qk .eql 0 7<|qe 8 (qb .eql 1 2<|.callp 182 zkQ [.v 9] 1<|.jmp 0 false [.v 10,.c (.bool true)]) (qk .eql 0 8<|qe 9 (qb .lss 1 2<|.callp 182 zkQ [.v 10] 1<|.jmp 0 false [.v 11,.c (.bool true)]) (.jmp 0 false [.c (.int .u32 0),.c (.bool false)])))))))
theorem zyF:zaM cx 12 133=some zy8.erase:=by kernel_rfl
theorem zFJ:FnOk cx 12 noC 133 zzh.fn:=rp_ zyF (.cons zre (.cons zre .nil))
def ze2 (x8:List Int) (x9 s:Int):Option (Int⊕Unit⊕Int) :=
 if decide (s<x9) then
 (getO x8 s).bind fun v12=>if zid v12 then
 some (Sum.inr (Sum.inr (s)))
 else
 some (Sum.inl (w64 (s + (1:Int))))
 else
 some (Sum.inr (Sum.inl ()))
def zdz (x13:List Int) (x14:Int) (s:(Int×(List Int))):Option ((Int×(List Int))⊕(List Int)) :=
 if decide (s.1<x14) then
 (getO x13 s.1).bind fun v18=>(idxO (List.length s.2:Int) s.1).bind fun v19=>(getO s.2 v19).bind fun v20=>(idxO (List.length s.2:Int) s.1).bind fun v22=>(setO s.2 v22 (bXor .u32 v20 v18)).bind fun v23=>some (Sum.inl (w64 (s.1 + (1:Int)),v23))
 else
 some (Sum.inr (s.2))
def zc3 (x5:List (List Int)) (x9:Int) (s:(Int×(List Int))):Option ((Int×(List Int))⊕(List Int)) :=
 if decide (s.1<x9) then
 (getO x5 s.1).bind fun v13=>let v14:Int:=(v13.length:Int)
 (zaQ (zdz v13 v14) ((0:Int),s.2):Option (List Int)).bind fun v15=>some (Sum.inl (w64 (s.1 + (1:Int)),v15))
 else
 some (Sum.inr (s.2))
def zeu (p0:zco):Option Bool :=
 (zgI p0).bind fun v1=>if !v1 then
 some (false)
 else
 if decide ((0:Int)<(zaq p0)) then
 (getO (zac p0) (w64 ((zaq p0) - (1:Int)))).bind fun v8=>((let v9:Int:=(v8.length:Int)
 zbm (zaQ (ze2 v8 v9) (0:Int):Option (Unit⊕Int)) fun v10=>some ((-1:Int)):Option Int).bind fun v9=>some ((decide ((0:Int)≤v9))):Option Bool).bind fun v9=>some ((!v9))
 else
 let v7:Int:=(List.length (zat p0):Int)
 ((repO (0:Int) 4 v7 v7).bind fun v8=>let v9:Int:=(List.length (zac p0):Int)
 (zaQ (zc3 (zac p0) v9) ((0:Int),v8):Option (List Int)).bind fun v10=>some (v10):Option (List Int)).bind fun v8=>(zb4 v8 (zat p0)).bind fun v10=>some (v10)
def zfC:FnT:=⟨[zgU],[.bool],fun x=>zeu x⟩
def zmk:TA :=
 .call 183 zk0 [.v 0] 1<|qn 1<|qe 2 (qt 0 false) (qf 2 0<|qk .gtr 3 0<|qe 4 (qf 0 0<|qf 2 0<|qk .sub 6 1<|qg 5 7<|.sub0 [.bool] (.sub0 [.int .i64] (ql 8<|.sub1 [] (.loop [.int .i64] [(qz 0)] (qb .lss 10 9<|qe 11 (qg 8 10<|.callp 185 zj6 [.v 12] 1<|qe 13 (qj 2 10) (qk .add 10 1<|qr 0 14)) (qx 1))) 0<|.jmp 0 false [.c (.int .i64 (-1))]) 1<|qk .geq 9 0<|qj 0 10) 1<|qn 9<|qj 0 10) (qN 2 0 0<|ql 6<|.sub0 [.sl (.int .u32)] (.primH (.rep (.int .u32 0) 4) (.sl (.int .u32)) (qv [7,7])<|ql 5<|.sub0 [.sl (.int .u32)] (.loop [.int .i64,.sl (.int .u32)] [(qz 0),.v 8] (qb .lss 10 9<|qe 12 (qg 5 10<|ql 13<|.sub0 [.sl (.int .u32)] (.loop [.int .i64,.sl (.int .u32)] [(qz 0),.v 11] (qb .lss 15 14<|qe 17 (qg 13 15<|qi 16 15<|qg 16 19<|qb .xor 20 18<|qi 16 15<|qs 16 22 21<|qk .add 15 1<|.jmp 0 true (qv [24,23])) (qj 1 16))) 1<|qk .add 10 1<|.jmp 0 true (qv [16,15])) (qj 1 11))) 1<|qj 0 10) 1<|qf 1 0<|.call 186 zdr (qv [8,9]) 1<|qj 0 10))
theorem zmu:zaM cx 12 134=some zmk.erase:=by kernel_rfl
theorem zib:FnOk cx 12 noC 134 zfC:=rf_ zmu (.cons zvt (.cons zsk (.cons zgD .nil)))
end Go.Proofs.YtplfgkjjgflhkaaGreat
