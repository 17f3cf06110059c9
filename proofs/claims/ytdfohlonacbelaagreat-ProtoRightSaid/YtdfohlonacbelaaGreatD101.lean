/- The types of this cut, and its functions as functions of plain typed data. Printed by a program of this claim's prover; each is checked here to be what the executor makes of the code. -/
import Derived.Test.YtdfohlonacbelaaGreatProg
import Derived.Test.YtdfohlonacbelaaGreatLim
import Derived.KernelRfl
set_option linter.unusedVariables false
set_option maxRecDepth 100000
noncomputable section
namespace Go.Proofs.YtdfohlonacbelaaGreat
open Go.SX
abbrev zgM:List Ty:=[.int .i64,.int .i64,.bool,.int .u8]
abbrev zdI:Ty:=.st zgM
abbrev zdL:List Ty:=[.str,.int .u64]
abbrev zbR:Ty:=.st zdL
abbrev zpG:List Ty:=[.int .i64,.bool,.bool,.bool,.bool,.bool,.int .i64,.int .i64,.int .u32]
abbrev zcg:Ty:=.st zpG
abbrev Wait:Type:=Int×Bool×Bool×Bool×Bool×Bool×Int×Int×Int
def Wait.mk (Line:Int) (Write:Bool) (Back:Bool) (Came:Bool) (Own:Bool) (Keep:Bool) (Need:Int) (Got:Int) (Val:Int):Wait:=(Line,Write,Back,Came,Own,Keep,Need,Got,Val)
def Wait.Line (x:Wait):Int:=x.1
def Wait.Write (x:Wait):Bool:=x.2.1
def Wait.Back (x:Wait):Bool:=x.2.2.1
def Wait.Came (x:Wait):Bool:=x.2.2.2.1
def Wait.Own (x:Wait):Bool:=x.2.2.2.2.1
def Wait.Keep (x:Wait):Bool:=x.2.2.2.2.2.1
def Wait.Need (x:Wait):Int:=x.2.2.2.2.2.2.1
def Wait.Got (x:Wait):Int:=x.2.2.2.2.2.2.2.1
def Wait.Val (x:Wait):Int:=x.2.2.2.2.2.2.2.2
def Wait.setCame (x:Wait) (v:Bool):Wait:=(x.1,x.2.1,x.2.2.1,v,x.2.2.2.2.1,x.2.2.2.2.2.1,x.2.2.2.2.2.2.1,x.2.2.2.2.2.2.2.1,x.2.2.2.2.2.2.2.2)
def Wait.setOwn (x:Wait) (v:Bool):Wait:=(x.1,x.2.1,x.2.2.1,x.2.2.2.1,v,x.2.2.2.2.2.1,x.2.2.2.2.2.2.1,x.2.2.2.2.2.2.2.1,x.2.2.2.2.2.2.2.2)
def Wait.setKeep (x:Wait) (v:Bool):Wait:=(x.1,x.2.1,x.2.2.1,x.2.2.2.1,x.2.2.2.2.1,v,x.2.2.2.2.2.2.1,x.2.2.2.2.2.2.2.1,x.2.2.2.2.2.2.2.2)
def Wait.setNeed (x:Wait) (v:Int):Wait:=(x.1,x.2.1,x.2.2.1,x.2.2.2.1,x.2.2.2.2.1,x.2.2.2.2.2.1,v,x.2.2.2.2.2.2.2.1,x.2.2.2.2.2.2.2.2)
def Wait.setGot (x:Wait) (v:Int):Wait:=(x.1,x.2.1,x.2.2.1,x.2.2.2.1,x.2.2.2.2.1,x.2.2.2.2.2.1,x.2.2.2.2.2.2.1,v,x.2.2.2.2.2.2.2.2)
def Wait.setVal (x:Wait) (v:Int):Wait:=(x.1,x.2.1,x.2.2.1,x.2.2.2.1,x.2.2.2.2.1,x.2.2.2.2.2.1,x.2.2.2.2.2.2.1,x.2.2.2.2.2.2.2.1,v)
@[simp] theorem Wait.Line_mk (Line:Int) (Write:Bool) (Back:Bool) (Came:Bool) (Own:Bool) (Keep:Bool) (Need:Int) (Got:Int) (Val:Int):Wait.Line (Wait.mk Line Write Back Came Own Keep Need Got Val)=Line:=rfl
@[simp] theorem Wait.Write_mk (Line:Int) (Write:Bool) (Back:Bool) (Came:Bool) (Own:Bool) (Keep:Bool) (Need:Int) (Got:Int) (Val:Int):Wait.Write (Wait.mk Line Write Back Came Own Keep Need Got Val)=Write:=rfl
@[simp] theorem Wait.Back_mk (Line:Int) (Write:Bool) (Back:Bool) (Came:Bool) (Own:Bool) (Keep:Bool) (Need:Int) (Got:Int) (Val:Int):Wait.Back (Wait.mk Line Write Back Came Own Keep Need Got Val)=Back:=rfl
@[simp] theorem Wait.Came_mk (Line:Int) (Write:Bool) (Back:Bool) (Came:Bool) (Own:Bool) (Keep:Bool) (Need:Int) (Got:Int) (Val:Int):Wait.Came (Wait.mk Line Write Back Came Own Keep Need Got Val)=Came:=rfl
@[simp] theorem Wait.Own_mk (Line:Int) (Write:Bool) (Back:Bool) (Came:Bool) (Own:Bool) (Keep:Bool) (Need:Int) (Got:Int) (Val:Int):Wait.Own (Wait.mk Line Write Back Came Own Keep Need Got Val)=Own:=rfl
@[simp] theorem Wait.Keep_mk (Line:Int) (Write:Bool) (Back:Bool) (Came:Bool) (Own:Bool) (Keep:Bool) (Need:Int) (Got:Int) (Val:Int):Wait.Keep (Wait.mk Line Write Back Came Own Keep Need Got Val)=Keep:=rfl
@[simp] theorem Wait.Need_mk (Line:Int) (Write:Bool) (Back:Bool) (Came:Bool) (Own:Bool) (Keep:Bool) (Need:Int) (Got:Int) (Val:Int):Wait.Need (Wait.mk Line Write Back Came Own Keep Need Got Val)=Need:=rfl
@[simp] theorem Wait.Got_mk (Line:Int) (Write:Bool) (Back:Bool) (Came:Bool) (Own:Bool) (Keep:Bool) (Need:Int) (Got:Int) (Val:Int):Wait.Got (Wait.mk Line Write Back Came Own Keep Need Got Val)=Got:=rfl
@[simp] theorem Wait.Val_mk (Line:Int) (Write:Bool) (Back:Bool) (Came:Bool) (Own:Bool) (Keep:Bool) (Need:Int) (Got:Int) (Val:Int):Wait.Val (Wait.mk Line Write Back Came Own Keep Need Got Val)=Val:=rfl
@[simp] theorem Wait.setCame_eq (x:Wait) (v:Bool):Wait.setCame x v=Wait.mk (Wait.Line x) (Wait.Write x) (Wait.Back x) v (Wait.Own x) (Wait.Keep x) (Wait.Need x) (Wait.Got x) (Wait.Val x):=rfl
@[simp] theorem Wait.setOwn_eq (x:Wait) (v:Bool):Wait.setOwn x v=Wait.mk (Wait.Line x) (Wait.Write x) (Wait.Back x) (Wait.Came x) v (Wait.Keep x) (Wait.Need x) (Wait.Got x) (Wait.Val x):=rfl
@[simp] theorem Wait.setKeep_eq (x:Wait) (v:Bool):Wait.setKeep x v=Wait.mk (Wait.Line x) (Wait.Write x) (Wait.Back x) (Wait.Came x) (Wait.Own x) v (Wait.Need x) (Wait.Got x) (Wait.Val x):=rfl
@[simp] theorem Wait.setNeed_eq (x:Wait) (v:Int):Wait.setNeed x v=Wait.mk (Wait.Line x) (Wait.Write x) (Wait.Back x) (Wait.Came x) (Wait.Own x) (Wait.Keep x) v (Wait.Got x) (Wait.Val x):=rfl
@[simp] theorem Wait.setGot_eq (x:Wait) (v:Int):Wait.setGot x v=Wait.mk (Wait.Line x) (Wait.Write x) (Wait.Back x) (Wait.Came x) (Wait.Own x) (Wait.Keep x) (Wait.Need x) v (Wait.Val x):=rfl
@[simp] theorem Wait.setVal_eq (x:Wait) (v:Int):Wait.setVal x v=Wait.mk (Wait.Line x) (Wait.Write x) (Wait.Back x) (Wait.Came x) (Wait.Own x) (Wait.Keep x) (Wait.Need x) (Wait.Got x) v:=rfl
@[simp] theorem Wait.eta (x:Wait):Wait.mk (Wait.Line x) (Wait.Write x) (Wait.Back x) (Wait.Came x) (Wait.Own x) (Wait.Keep x) (Wait.Need x) (Wait.Got x) (Wait.Val x)=x:=rfl
abbrev zcv:List Ty:=[.int .i64,.int .i64,.int .i64,.int .i64,.int .i64,.int .i64,.bool,.int .u32,.int .u32]
abbrev tMsg:Ty:=.st zcv
abbrev Msg:Type:=Int×Int×Int×Int×Int×Int×Bool×Int×Int
def Msg.mk (Kind:Int) (From:Int) (To:Int) (Line:Int) (For:Int) (Acks:Int) (Own:Bool) (Num:Int) (Val:Int):Msg:=(Kind,From,To,Line,For,Acks,Own,Num,Val)
def Msg.Kind (x:Msg):Int:=x.1
def Msg.From (x:Msg):Int:=x.2.1
def Msg.To (x:Msg):Int:=x.2.2.1
def Msg.Line (x:Msg):Int:=x.2.2.2.1
def Msg.For (x:Msg):Int:=x.2.2.2.2.1
def Msg.Acks (x:Msg):Int:=x.2.2.2.2.2.1
def Msg.Own (x:Msg):Bool:=x.2.2.2.2.2.2.1
def Msg.Num (x:Msg):Int:=x.2.2.2.2.2.2.2.1
def Msg.Val (x:Msg):Int:=x.2.2.2.2.2.2.2.2
def Msg.setKind (x:Msg) (v:Int):Msg:=(v,x.2.1,x.2.2.1,x.2.2.2.1,x.2.2.2.2.1,x.2.2.2.2.2.1,x.2.2.2.2.2.2.1,x.2.2.2.2.2.2.2.1,x.2.2.2.2.2.2.2.2)
def Msg.setFor (x:Msg) (v:Int):Msg:=(x.1,x.2.1,x.2.2.1,x.2.2.2.1,v,x.2.2.2.2.2.1,x.2.2.2.2.2.2.1,x.2.2.2.2.2.2.2.1,x.2.2.2.2.2.2.2.2)
def Msg.setVal (x:Msg) (v:Int):Msg:=(x.1,x.2.1,x.2.2.1,x.2.2.2.1,x.2.2.2.2.1,x.2.2.2.2.2.1,x.2.2.2.2.2.2.1,x.2.2.2.2.2.2.2.1,v)
@[simp] theorem Msg.Kind_mk (Kind:Int) (From:Int) (To:Int) (Line:Int) (For:Int) (Acks:Int) (Own:Bool) (Num:Int) (Val:Int):Msg.Kind (Msg.mk Kind From To Line For Acks Own Num Val)=Kind:=rfl
@[simp] theorem Msg.From_mk (Kind:Int) (From:Int) (To:Int) (Line:Int) (For:Int) (Acks:Int) (Own:Bool) (Num:Int) (Val:Int):Msg.From (Msg.mk Kind From To Line For Acks Own Num Val)=From:=rfl
@[simp] theorem Msg.To_mk (Kind:Int) (From:Int) (To:Int) (Line:Int) (For:Int) (Acks:Int) (Own:Bool) (Num:Int) (Val:Int):Msg.To (Msg.mk Kind From To Line For Acks Own Num Val)=To:=rfl
@[simp] theorem Msg.Line_mk (Kind:Int) (From:Int) (To:Int) (Line:Int) (For:Int) (Acks:Int) (Own:Bool) (Num:Int) (Val:Int):Msg.Line (Msg.mk Kind From To Line For Acks Own Num Val)=Line:=rfl
@[simp] theorem Msg.For_mk (Kind:Int) (From:Int) (To:Int) (Line:Int) (For:Int) (Acks:Int) (Own:Bool) (Num:Int) (Val:Int):Msg.For (Msg.mk Kind From To Line For Acks Own Num Val)=For:=rfl
@[simp] theorem Msg.Acks_mk (Kind:Int) (From:Int) (To:Int) (Line:Int) (For:Int) (Acks:Int) (Own:Bool) (Num:Int) (Val:Int):Msg.Acks (Msg.mk Kind From To Line For Acks Own Num Val)=Acks:=rfl
@[simp] theorem Msg.Own_mk (Kind:Int) (From:Int) (To:Int) (Line:Int) (For:Int) (Acks:Int) (Own:Bool) (Num:Int) (Val:Int):Msg.Own (Msg.mk Kind From To Line For Acks Own Num Val)=Own:=rfl
@[simp] theorem Msg.Num_mk (Kind:Int) (From:Int) (To:Int) (Line:Int) (For:Int) (Acks:Int) (Own:Bool) (Num:Int) (Val:Int):Msg.Num (Msg.mk Kind From To Line For Acks Own Num Val)=Num:=rfl
@[simp] theorem Msg.Val_mk (Kind:Int) (From:Int) (To:Int) (Line:Int) (For:Int) (Acks:Int) (Own:Bool) (Num:Int) (Val:Int):Msg.Val (Msg.mk Kind From To Line For Acks Own Num Val)=Val:=rfl
@[simp] theorem Msg.setKind_eq (x:Msg) (v:Int):Msg.setKind x v=Msg.mk v (Msg.From x) (Msg.To x) (Msg.Line x) (Msg.For x) (Msg.Acks x) (Msg.Own x) (Msg.Num x) (Msg.Val x):=rfl
@[simp] theorem Msg.setFor_eq (x:Msg) (v:Int):Msg.setFor x v=Msg.mk (Msg.Kind x) (Msg.From x) (Msg.To x) (Msg.Line x) v (Msg.Acks x) (Msg.Own x) (Msg.Num x) (Msg.Val x):=rfl
@[simp] theorem Msg.setVal_eq (x:Msg) (v:Int):Msg.setVal x v=Msg.mk (Msg.Kind x) (Msg.From x) (Msg.To x) (Msg.Line x) (Msg.For x) (Msg.Acks x) (Msg.Own x) (Msg.Num x) v:=rfl
@[simp] theorem Msg.eta (x:Msg):Msg.mk (Msg.Kind x) (Msg.From x) (Msg.To x) (Msg.Line x) (Msg.For x) (Msg.Acks x) (Msg.Own x) (Msg.Num x) (Msg.Val x)=x:=rfl
abbrev zxO:List Ty:=[.int .u8,.int .u8,.int .u8,.int .u8,.bool,.int .u32]
abbrev zqv:Ty:=.st zxO
abbrev zbm:List Ty:=[.int .i64,.sl .bool]
abbrev zas:Ty:=.st zbm
abbrev Entry:Type:=Int×(List Bool)
def Entry.mk (Owner:Int) (Share:List Bool):Entry:=(Owner,Share)
def Entry.Owner (x:Entry):Int:=x.1
def Entry.Share (x:Entry):List Bool:=x.2
@[simp] theorem Entry.Owner_mk (Owner:Int) (Share:List Bool):Entry.Owner (Entry.mk Owner Share)=Owner:=rfl
@[simp] theorem Entry.Share_mk (Owner:Int) (Share:List Bool):Entry.Share (Entry.mk Owner Share)=Share:=rfl
@[simp] theorem Entry.eta (x:Entry):Entry.mk (Entry.Owner x) (Entry.Share x)=x:=rfl
abbrev zb7:List Ty:=[.sl (.sl (.int .u8))]
abbrev zaI:Ty:=.st zb7
abbrev Pool:Type:=List (List Int)
def Pool.mk (Frames:List (List Int)):Pool:=Frames
def Pool.Frames (x:Pool):List (List Int):=x
@[simp] theorem Pool.Frames_mk (Frames:List (List Int)):Pool.Frames (Pool.mk Frames)=Frames:=rfl
@[simp] theorem Pool.eta (x:Pool):Pool.mk (Pool.Frames x)=x:=rfl
abbrev za8:List Ty:=[.sl (.sl (.int .i64)),.sl (.sl (.int .u32)),.sl zcg,.sl (.int .u32),.sl zas,.sl (.int .i64),zaI]
abbrev zac:Ty:=.st za8
abbrev Proto:Type:=(List (List Int))×(List (List Int))×(List YtdfohlonacbelaaGreat.Wait)×(List Int)×(List YtdfohlonacbelaaGreat.Entry)×(List Int)×YtdfohlonacbelaaGreat.Pool
def Proto.mk (State:List (List Int)) (Val:List (List Int)) (Wait:List YtdfohlonacbelaaGreat.Wait) (Home:List Int) (Dir:List YtdfohlonacbelaaGreat.Entry) (Busy:List Int) (Pool:YtdfohlonacbelaaGreat.Pool):Proto:=(State,Val,Wait,Home,Dir,Busy,Pool)
def Proto.State (x:Proto):List (List Int):=x.1
def Proto.Val (x:Proto):List (List Int):=x.2.1
def Proto.Wait (x:Proto):List YtdfohlonacbelaaGreat.Wait:=x.2.2.1
def Proto.Home (x:Proto):List Int:=x.2.2.2.1
def Proto.Dir (x:Proto):List YtdfohlonacbelaaGreat.Entry:=x.2.2.2.2.1
def Proto.Busy (x:Proto):List Int:=x.2.2.2.2.2.1
def Proto.Pool (x:Proto):YtdfohlonacbelaaGreat.Pool:=x.2.2.2.2.2.2
def Proto.setPool (x:Proto) (v:YtdfohlonacbelaaGreat.Pool):Proto:=(x.1,x.2.1,x.2.2.1,x.2.2.2.1,x.2.2.2.2.1,x.2.2.2.2.2.1,v)
@[simp] theorem Proto.State_mk (State:List (List Int)) (Val:List (List Int)) (Wait:List YtdfohlonacbelaaGreat.Wait) (Home:List Int) (Dir:List YtdfohlonacbelaaGreat.Entry) (Busy:List Int) (Pool:YtdfohlonacbelaaGreat.Pool):Proto.State (Proto.mk State Val Wait Home Dir Busy Pool)=State:=rfl
@[simp] theorem Proto.Val_mk (State:List (List Int)) (Val:List (List Int)) (Wait:List YtdfohlonacbelaaGreat.Wait) (Home:List Int) (Dir:List YtdfohlonacbelaaGreat.Entry) (Busy:List Int) (Pool:YtdfohlonacbelaaGreat.Pool):Proto.Val (Proto.mk State Val Wait Home Dir Busy Pool)=Val:=rfl
@[simp] theorem Proto.Wait_mk (State:List (List Int)) (Val:List (List Int)) (Wait:List YtdfohlonacbelaaGreat.Wait) (Home:List Int) (Dir:List YtdfohlonacbelaaGreat.Entry) (Busy:List Int) (Pool:YtdfohlonacbelaaGreat.Pool):Proto.Wait (Proto.mk State Val Wait Home Dir Busy Pool)=Wait:=rfl
@[simp] theorem Proto.Home_mk (State:List (List Int)) (Val:List (List Int)) (Wait:List YtdfohlonacbelaaGreat.Wait) (Home:List Int) (Dir:List YtdfohlonacbelaaGreat.Entry) (Busy:List Int) (Pool:YtdfohlonacbelaaGreat.Pool):Proto.Home (Proto.mk State Val Wait Home Dir Busy Pool)=Home:=rfl
@[simp] theorem Proto.Dir_mk (State:List (List Int)) (Val:List (List Int)) (Wait:List YtdfohlonacbelaaGreat.Wait) (Home:List Int) (Dir:List YtdfohlonacbelaaGreat.Entry) (Busy:List Int) (Pool:YtdfohlonacbelaaGreat.Pool):Proto.Dir (Proto.mk State Val Wait Home Dir Busy Pool)=Dir:=rfl
@[simp] theorem Proto.Busy_mk (State:List (List Int)) (Val:List (List Int)) (Wait:List YtdfohlonacbelaaGreat.Wait) (Home:List Int) (Dir:List YtdfohlonacbelaaGreat.Entry) (Busy:List Int) (Pool:YtdfohlonacbelaaGreat.Pool):Proto.Busy (Proto.mk State Val Wait Home Dir Busy Pool)=Busy:=rfl
@[simp] theorem Proto.Pool_mk (State:List (List Int)) (Val:List (List Int)) (Wait:List YtdfohlonacbelaaGreat.Wait) (Home:List Int) (Dir:List YtdfohlonacbelaaGreat.Entry) (Busy:List Int) (Pool:YtdfohlonacbelaaGreat.Pool):Proto.Pool (Proto.mk State Val Wait Home Dir Busy Pool)=Pool:=rfl
@[simp] theorem Proto.setPool_eq (x:Proto) (v:YtdfohlonacbelaaGreat.Pool):Proto.setPool x v=Proto.mk (Proto.State x) (Proto.Val x) (Proto.Wait x) (Proto.Home x) (Proto.Dir x) (Proto.Busy x) v:=rfl
@[simp] theorem Proto.eta (x:Proto):Proto.mk (Proto.State x) (Proto.Val x) (Proto.Wait x) (Proto.Home x) (Proto.Dir x) (Proto.Busy x) (Proto.Pool x)=x:=rfl
abbrev zoZ:List Ty:=[zac]
abbrev zj2:Ty:=.st zoZ
def tys:List Ty:=[.no,.no,.int .i64,.int .i64,.bool,.int .u8,.int .u8,zdI,zdI,.str,.str,.str,.int .u64,zbR,zbR,.no,.no,.no,.no,.no,.no,.int .i32,.sl (.sl (.int .i64)),.sl (.sl (.int .u32)),.sl zcg,.sl (.int .u32),.sl zas,.sl (.int .i64),.sl (.sl (.int .u8)),zaI,zaI,zac,zac,.int .u32,.no,.no,.int .i64,.no,.no,.no,.no,.no,.no,.no,.no,.no,.no,.no,.no,.no,.no,.no,.sl zqv,.no,.no,.no,zqv,zqv,.no,.no,.no,.sl .bool,zas,zas,.no,.no,zj2,zj2,tMsg,tMsg,.no,.no,.no,.no,.no,.no,.no,.no,.no,.no,.no,.no,zcg,zcg,.no,.no,.no,.no,.no,.no,.no,.no,.no,.no,.no,.no,.no,.no,.no,.no,.sl (.int .u8),.no,.no,.no,.no,.no,.no,.no,.no,.no,.no,.no,.no,.no,.no,.no,.no,.no,.no,.no,.no,.no,.no,.no,.no,.no,.no,.no,.no,.no,.no,.no,.no,.no,.no,.no,.no,.no,.no,.no,.no,.no,.no,.no,.no,.no,.no,.no,.no,.no,.no,.no,.no,.no,.no,.no,.arr 4 (.int .u8),.int .u64,.no,.no,.no,.no,.no,.no,.no,.no,.no,.no,.no,.no,.no,.arr 5 (.int .i64),.no,.no,.no,.no,.no,.no,.no,.int .u8,.int .u8,.no,.no,.int .i32,.int .i32,.no,.no,.no]
def cx:Cx:={ P:=Tryz.prog,ty:=tys,own:=[],inl:=[26,57,58,59,60,61,62,63,87,89,90,100,115,118,121,122,129],keepL:=[],absL:=[26,57,58,63,89,95,100,120,125],lendL:=[],freshL:=[],owL:=[45,46],heads:=[(9,[(3,60,⟨4,0,zcS 148 0 [(2,.p zac zac 0 []),(3,.p zac zac 1 []),(4,.d .bool (.c (.bool false))),(5,.d (.int .i64) (.v 3))],[.box zac (.d zac (.v 0)),.box zac (.d zac (.v 1))]⟩),
 (3,92,⟨4,0,zcS 148 0 [(2,.p zac zac 0 []),(3,.p zac zac 1 []),(4,.d .bool (.c (.bool false))),(6,.d (.int .i64) (.v 3))],[.box zac (.d zac (.v 0)),.box zac (.d zac (.v 1))]⟩),
 (3,156,⟨4,0,zcS 148 0 [(2,.p zac zac 0 []),(3,.p zac zac 1 []),(4,.d .bool (.c (.bool false))),(7,.d (.int .i64) (.v 3))],[.box zac (.d zac (.v 0)),.box zac (.d zac (.v 1))]⟩),
 (3,284,⟨4,0,zcS 148 0 [(2,.p zac zac 0 []),(3,.p zac zac 1 []),(4,.d .bool (.c (.bool false))),(8,.d (.int .i64) (.v 3))],[.box zac (.d zac (.v 0)),.box zac (.d zac (.v 1))]⟩)]),
 (20,[(6,95216831761137083744415218616928460264924859192049726,⟨7,0,zcS 177 0 [(1,.p zac zac 0 []),(2,.d .bool (.c (.bool false))),(3,.d (.int .i64) (.v 2)),(4,.d (.int .i64) (.v 4)),(5,.d (.int .i64) (.v 6))],[.box zac (.d zac (.v 0))]⟩),
 (11,95216831761137083744415218616928460264924859192049854,⟨12,0,zcS 177 0 [(1,.p zac zac 0 []),(2,.d .bool (.c (.bool false))),(3,.d (.int .i64) (.v 2)),(4,.d (.int .i64) (.v 4)),(5,.d (.int .i64) (.v 6)),(7,.d (.int .i64) (.v 11))],[.box zac (.d zac (.v 0))]⟩),
 (6,95216831672108325120970066851465838730584005174886686,⟨7,0,zcS 177 0 [(1,.p zac zac 0 []),(2,.d .bool (.c (.bool false))),(3,.d (.int .i64) (.v 2)),(4,.d (.int .i64) (.v 4)),(8,.d (.int .i64) (.v 6))],[.box zac (.d zac (.v 0))]⟩)]),
 (75,[(20,4533471823554859405148924,⟨22,0,zcS 128 0 [(2,.p zac zac 0 []),(3,.p tMsg tMsg 1 []),(4,.p zac zac 2 []),(5,.d (.sl (.int .i64)) (.v 15)),(6,.p zas zas 3 []),(7,.d (.int .i64) (.v 16)),(9,.d (.int .i64) (.v 20))],[.box zac (.d zac (.v 21)),.box tMsg (.d tMsg (.v 1)),.box zac (.d zac (.c (.agg [.nil,.nil,.nil,.nil,.nil,.nil,(.agg [.nil])]))),.box zas (.d zas (.v 17))]⟩)]),
 (92,[(2,908,⟨4,0,zcS 31 0 [(2,.d (.int .u32) (.c (.int .u32 0))),(3,.d (.int .u32) (.v 2)),(7,.d (.sl (.int .u8)) (.v 0)),(8,.d (.int .i64) (.v 1)),(9,.d (.int .i64) (.v 3))],[]⟩),
 (8,131980,⟨10,0,zcS 31 0 [(2,.d (.int .u32) (.c (.int .u32 0))),(3,.d (.int .u32) (.v 8)),(7,.d (.sl (.int .u8)) (.v 0)),(8,.d (.int .i64) (.v 1)),(9,.d (.int .i64) (.v 3)),(17,.d (.int .i64) (.v 9))],[]⟩)]),
 (103,[(1,29,⟨3,0,zcS 33 0 [(0,.d (.sl (.int .u8)) (.v 0)),(2,.d (.int .u32) (.c (.int .u32 0))),(3,.d (.int .u32) (.v 1)),(4,.d (.int .i64) (.v 2))],[]⟩),
 (8,61,⟨10,0,zcS 33 0 [(0,.d (.sl (.int .u8)) (.v 0)),(2,.d (.int .u32) (.c (.int .u32 0))),(3,.d (.int .u32) (.v 8)),(4,.d (.int .i64) (.v 2)),(5,.d (.int .i64) (.v 9))],[]⟩)])] }
theorem tyOk:TysOk cx:=zxU (by kernel_rfl)
theorem mixed:Tryz.prog.follows .mixedOrders=true:=by kernel_rfl
def noC:FuncId→List D→Option (List D):=fun _ _=>none
theorem zzS:CallsOk cx noC:=fun _ _ _ _ _ _ _ h=>by cases h
theorem zyC {f:FuncId}{ds rs:List D}(k d:Nat) (h:zdF cx k 12 noC d f ds=some rs):zvE cx 12 noC f ds=some rs:=(zfe cx 12 noC).2 ⟨k,d,h⟩
def zeB (x0:Pool) (s:Int):Option (Int⊕Unit⊕Bool) :=
 if decide (s<(List.length (Pool.Frames x0):Int)) then
 (getO (Pool.Frames x0) s).bind fun v9=>if decide ((100:Int)<(List.length v9:Int)) then
 some (Sum.inr (Sum.inr (false)))
 else
 some (Sum.inl (w64 (s + (1:Int))))
 else
 some (Sum.inr (Sum.inl ()))
def zkv (p0:Pool):Option Bool :=
 if decide ((80:Int)<(List.length (Pool.Frames p0):Int)) then
 some (false)
 else
 zaG (zai (zeB p0) (0:Int):Option (Unit⊕Bool)) fun v4=>some (true)
def ziu:FnT:=⟨[zaI],[.bool],fun x=>zkv x⟩
def zjv:TA :=
 .prim (.fld 0) [.v 0]<|.prim .len [.v 1]<|.prim (.bin .gtr) [.v 2,.c (.int .i64 80)]<|.ite (.v 3) (.jmp 0 false [.c (.bool false)]) (.sub1 [] (.loop [.int .i64] [.c (.int .i64 0)] (.prim (.fld 0) [.v 0]<|.prim .len [.v 5]<|.prim (.bin .lss) [.v 4,.v 6]<|.ite (.v 7) (.prim (.fld 0) [.v 0]<|.prim .get [.v 8,.v 4]<|.prim .len [.v 9]<|.prim (.bin .gtr) [.v 10,.c (.int .i64 100)]<|.ite (.v 11) (.jmp 2 false [.c (.bool false)]) (.prim (.bin .add) [.v 4,.c (.int .i64 1)]<|.jmp 0 true [.v 12])) (.jmp 1 false []))) 0<|.jmp 0 false [.c (.bool true)])
theorem zoy:zad cx 12 25=some zjv.erase:=by kernel_rfl
theorem zul:FnOk cx 12 noC 25 ziu:=zaB (t:=zjv) zoy (fun _=>rfl) (zaw [] (by kernel_rfl) .nil) (fun x=>by kernel_rfl)
def zc3 (p0:Proto) (p1:Msg):Bool :=
 let v3:Int:=(List.length (Proto.Wait p0):Int)
 (decide ((Msg.Line p1)<(List.length (Proto.Home p0):Int)))&&((decide ((Msg.From p1)≤v3))&&((decide ((Msg.To p1)≤v3))&&(decide ((Msg.For p1)≤v3))))
def zhf:PnT:=⟨[zac,tMsg],[.bool],fun x=>zc3 x.1 x.2⟩
def zg4:TA :=
 .prim (.fld 2) [.v 0]<|.prim .len [.v 2]<|.subp [.bool] (.prim (.fld 3) [.v 1]<|.prim (.fld 3) [.v 0]<|.prim .len [.v 5]<|.prim (.bin .lss) [.v 4,.v 6]<|.ite (.v 7) (.prim (.fld 1) [.v 1]<|.prim (.bin .leq) [.v 8,.v 3]<|.ite (.v 9) (.prim (.fld 2) [.v 1]<|.prim (.bin .leq) [.v 10,.v 3]<|.ite (.v 11) (.prim (.fld 4) [.v 1]<|.prim (.bin .leq) [.v 12,.v 3]<|.jmp 0 false [.v 13]) (.jmp 0 false [.c (.bool false)])) (.jmp 0 false [.c (.bool false)])) (.jmp 0 false [.c (.bool false)])) 1<|.jmp 0 false [.v 4]
theorem zlL:zad cx 12 29=some zg4.erase:=by kernel_rfl
theorem zrI:FnOk cx 12 noC 29 zhf.fn:=ztg (t:=zg4) zlL (fun _=>rfl) (zaw [] (by kernel_rfl) .nil) (fun x=>by kernel_rfl)
def zbM (x0:List Int) (x1:List Int) (s:Int):Option (Int⊕Unit⊕Bool) :=
 if decide (s<(List.length x0:Int)) then
 (getO x0 s).bind fun v8=>(getO x1 s).bind fun v9=>if !decide (v8=v9) then
 some (Sum.inr (Sum.inr (false)))
 else
 some (Sum.inl (w64 (s + (1:Int))))
 else
 some (Sum.inr (Sum.inl ()))
def zjF (p0:List Int) (p1:List Int):Option Bool :=
 if !decide ((List.length p0:Int)=(List.length p1:Int)) then
 some (false)
 else
 zaG (zai (zbM p0 p1) (0:Int):Option (Unit⊕Bool)) fun v5=>some (true)
def zfd:FnT:=⟨[.sl (.int .i64),.sl (.int .i64)],[.bool],fun x=>zjF x.1 x.2⟩
def zlp:TA :=
 .prim .len [.v 0]<|.prim .len [.v 1]<|.prim (.bin .neq) [.v 2,.v 3]<|.ite (.v 4) (.jmp 0 false [.c (.bool false)]) (.sub1 [] (.loop [.int .i64] [.c (.int .i64 0)] (.prim .len [.v 0]<|.prim (.bin .lss) [.v 5,.v 6]<|.ite (.v 7) (.prim .get [.v 0,.v 5]<|.prim .get [.v 1,.v 5]<|.prim (.bin .neq) [.v 8,.v 9]<|.ite (.v 10) (.jmp 2 false [.c (.bool false)]) (.prim (.bin .add) [.v 5,.c (.int .i64 1)]<|.jmp 0 true [.v 11])) (.jmp 1 false []))) 0<|.jmp 0 false [.c (.bool true)])
theorem zpQ:zad cx 12 35=some zlp.erase:=by kernel_rfl
theorem zpH:FnOk cx 12 noC 35 zfd:=zaB (t:=zlp) zpQ (fun _=>rfl) (zaw [] (by kernel_rfl) .nil) (fun x=>by kernel_rfl)
def zfS (x0:Pool) (x1:Pool) (s:Int):Option (Int⊕Unit⊕Bool) :=
 if decide (s<(List.length (Pool.Frames x0):Int)) then
 (getO (Pool.Frames x0) s).bind fun v12=>(b2sO v12).bind fun v13=>(getO (Pool.Frames x1) s).bind fun v15=>(b2sO v15).bind fun v16=>if !decide (v13=v16) then
 some (Sum.inr (Sum.inr (false)))
 else
 some (Sum.inl (w64 (s + (1:Int))))
 else
 some (Sum.inr (Sum.inl ()))
def zmn (p0:Pool) (p1:Pool):Option Bool :=
 if !decide ((List.length (Pool.Frames p0):Int)=(List.length (Pool.Frames p1):Int)) then
 some (false)
 else
 zaG (zai (zfS p0 p1) (0:Int):Option (Unit⊕Bool)) fun v7=>some (true)
def zkU:FnT:=⟨[zaI,zaI],[.bool],fun x=>zmn x.1 x.2⟩
def zld:TA :=
 .prim (.fld 0) [.v 0]<|.prim .len [.v 2]<|.prim (.fld 0) [.v 1]<|.prim .len [.v 4]<|.prim (.bin .neq) [.v 3,.v 5]<|.ite (.v 6) (.jmp 0 false [.c (.bool false)]) (.sub1 [] (.loop [.int .i64] [.c (.int .i64 0)] (.prim (.fld 0) [.v 0]<|.prim .len [.v 8]<|.prim (.bin .lss) [.v 7,.v 9]<|.ite (.v 10) (.prim (.fld 0) [.v 0]<|.prim .get [.v 11,.v 7]<|.prim .b2s [.v 12]<|.prim (.fld 0) [.v 1]<|.prim .get [.v 14,.v 7]<|.prim .b2s [.v 15]<|.prim (.bin .neq) [.v 13,.v 16]<|.ite (.v 17) (.jmp 2 false [.c (.bool false)]) (.prim (.bin .add) [.v 7,.c (.int .i64 1)]<|.jmp 0 true [.v 18])) (.jmp 1 false []))) 0<|.jmp 0 false [.c (.bool true)])
theorem zpe:zad cx 12 36=some zld.erase:=by kernel_rfl
theorem zvr:FnOk cx 12 noC 36 zkU:=zaB (t:=zld) zpe (fun _=>rfl) (zaw [] (by kernel_rfl) .nil) (fun x=>by kernel_rfl)
def zj7 (p0:List Int) (p1:List Int):Option Bool :=
 if !decide ((List.length p0:Int)=(List.length p1:Int)) then
 some (false)
 else
 zaG (zai (zbM p0 p1) (0:Int):Option (Unit⊕Bool)) fun v5=>some (true)
def zdX:FnT:=⟨[.sl (.int .u32),.sl (.int .u32)],[.bool],fun x=>zj7 x.1 x.2⟩
def zjk:TA :=
 .prim .len [.v 0]<|.prim .len [.v 1]<|.prim (.bin .neq) [.v 2,.v 3]<|.ite (.v 4) (.jmp 0 false [.c (.bool false)]) (.sub1 [] (.loop [.int .i64] [.c (.int .i64 0)] (.prim .len [.v 0]<|.prim (.bin .lss) [.v 5,.v 6]<|.ite (.v 7) (.prim .get [.v 0,.v 5]<|.prim .get [.v 1,.v 5]<|.prim (.bin .neq) [.v 8,.v 9]<|.ite (.v 10) (.jmp 2 false [.c (.bool false)]) (.prim (.bin .add) [.v 5,.c (.int .i64 1)]<|.jmp 0 true [.v 11])) (.jmp 1 false []))) 0<|.jmp 0 false [.c (.bool true)])
theorem zm2:zad cx 12 37=some zjk.erase:=by kernel_rfl
theorem zoj:FnOk cx 12 noC 37 zdX:=zaB (t:=zjk) zm2 (fun _=>rfl) (zaw [] (by kernel_rfl) .nil) (fun x=>by kernel_rfl)
def zcu (x0:Entry) (x1:Entry) (s:Int):Option (Int⊕Unit⊕Bool) :=
 if decide (s<(List.length (Entry.Share x0):Int)) then
 (getO (Entry.Share x0) s).bind fun v8=>(getO (Entry.Share x1) s).bind fun v10=>if !decide (v8=v10) then
 some (Sum.inr (Sum.inr (false)))
 else
 some (Sum.inl (w64 (s + (1:Int))))
 else
 some (Sum.inr (Sum.inl ()))
def zml (p0:Entry) (p1:Entry):Option Bool :=
 if (!decide ((Entry.Owner p0)=(Entry.Owner p1)))||(!decide ((List.length (Entry.Share p0):Int)=(List.length (Entry.Share p1):Int))) then
 some (false)
 else
 zaG (zai (zcu p0 p1) (0:Int):Option (Unit⊕Bool)) fun v3=>some (true)
def zk9:FnT:=⟨[zas,zas],[.bool],fun x=>zml x.1 x.2⟩
def zkJ:TA :=
 .subp [.bool] (.prim (.fld 0) [.v 0]<|.prim (.fld 0) [.v 1]<|.prim (.bin .neq) [.v 2,.v 3]<|.ite (.v 4) (.jmp 0 false [.c (.bool true)]) (.prim (.fld 1) [.v 0]<|.prim .len [.v 5]<|.prim (.fld 1) [.v 1]<|.prim .len [.v 7]<|.prim (.bin .neq) [.v 6,.v 8]<|.jmp 0 false [.v 9])) 1<|.ite (.v 2) (.jmp 0 false [.c (.bool false)]) (.sub1 [] (.loop [.int .i64] [.c (.int .i64 0)] (.prim (.fld 1) [.v 0]<|.prim .len [.v 4]<|.prim (.bin .lss) [.v 3,.v 5]<|.ite (.v 6) (.prim (.fld 1) [.v 0]<|.prim .get [.v 7,.v 3]<|.prim (.fld 1) [.v 1]<|.prim .get [.v 9,.v 3]<|.prim (.bin .neq) [.v 8,.v 10]<|.ite (.v 11) (.jmp 2 false [.c (.bool false)]) (.prim (.bin .add) [.v 3,.c (.int .i64 1)]<|.jmp 0 true [.v 12])) (.jmp 1 false []))) 0<|.jmp 0 false [.c (.bool true)])
theorem zpj:zad cx 12 38=some zkJ.erase:=by kernel_rfl
theorem zvT:FnOk cx 12 noC 38 zk9:=zaB (t:=zkJ) zpj (fun _=>rfl) (zaw [] (by kernel_rfl) .nil) (fun x=>by kernel_rfl)
def zd6 (p0:Proto) (p1:Int) (p2:Int) (p3:Bool):Option Bool :=
 (getO (Proto.State p0) p1).bind fun v5=>(getO v5 p2).bind fun v6=>(getO (Proto.Wait p0) p1).bind fun v8=>if decide ((Wait.Line v8)=(w64 (p2 + (1:Int)))) then
 some (false)
 else
 if p3 then
 some (((decide (v6=(2:Int)))||(decide (v6=(3:Int)))))
 else
 some ((!decide (v6=(0:Int))))
def zbA:FnT:=⟨[zac,.int .i64,.int .i64,.bool],[.bool],fun x=>zd6 x.1 x.2.1 x.2.2.1 x.2.2.2⟩
def zi5:TA :=
 .prim (.fld 0) [.v 0]<|.prim .get [.v 4,.v 1]<|.prim .get [.v 5,.v 2]<|.prim (.fld 2) [.v 0]<|.prim .get [.v 7,.v 1]<|.prim (.fld 0) [.v 8]<|.prim (.bin .add) [.v 2,.c (.int .i64 1)]<|.prim (.bin .eql) [.v 9,.v 10]<|.ite (.v 11) (.jmp 0 false [.c (.bool false)]) (.ite (.v 3) (.subp [.bool] (.prim (.bin .eql) [.v 6,.c (.int .i64 2)]<|.ite (.v 12) (.jmp 0 false [.c (.bool true)]) (.prim (.bin .eql) [.v 6,.c (.int .i64 3)]<|.jmp 0 false [.v 13])) 1<|.jmp 0 false [.v 12]) (.prim (.bin .neq) [.v 6,.c (.int .i64 0)]<|.jmp 0 false [.v 12]))
theorem zot:zad cx 12 40=some zi5.erase:=by kernel_rfl
theorem zgC:FnOk cx 12 noC 40 zbA:=zaB (t:=zi5) zot (fun _=>rfl) (zaw [] (by kernel_rfl) .nil) (fun x=>by kernel_rfl)
def zc7 (p0:Proto) (p1:Int) (p2:Wait):Option Proto :=
 (appO 40 ([]:List Wait) (Proto.Wait p0)).bind fun v4=>(idxO (List.length v4:Int) p1).bind fun v5=>(setO v4 v5 p2).bind fun v6=>some ((Proto.mk (Proto.State p0) (Proto.Val p0) v6 (Proto.Home p0) (Proto.Dir p0) (Proto.Busy p0) (Proto.Pool p0)))
def zaS:FnT:=⟨[zac,.int .i64,zcg],[zac],fun x=>zc7 x.1 x.2.1 x.2.2⟩
def zk7:TA :=
 .prim (.fld 2) [.v 0]<|.primH (.app 40) (.sl zcg) [.c (.sl []),.v 3]<|.prim .idx [.v 4,.v 1]<|.prim .set [.v 4,.v 5,.v 2]<|.prim (.fld 0) [.v 0]<|.prim (.fld 1) [.v 0]<|.prim (.fld 2) [.v 0]<|.prim (.fld 3) [.v 0]<|.prim (.fld 4) [.v 0]<|.prim (.fld 5) [.v 0]<|.prim (.fld 6) [.v 0]<|.mkS za8 [.v 7,.v 8,.v 6,.v 10,.v 11,.v 12,.v 13]<|.jmp 0 false [.v 14]
theorem zpB:zad cx 12 44=some zk7.erase:=by kernel_rfl
theorem zcQ:FnOk cx 12 noC 44 zaS:=zaB (t:=zk7) zpB (fun _=>rfl) (zaw [] (by kernel_rfl) .nil) (fun x=>by kernel_rfl)
def zbV (p0:Proto) (p1:Int) (p2:Int) (p3:Int):Option Proto :=
 (appO 24 ([]:List (List Int)) (Proto.State p0)).bind fun v5=>(idxO (List.length v5:Int) p1).bind fun v6=>(getO v5 v6).bind fun v7=>(appO 8 ([]:List Int) v7).bind fun v8=>(idxO (List.length v5:Int) p1).bind fun v9=>(getO v5 v9).bind fun v10=>(idxO (List.length v5:Int) p1).bind fun v11=>(eqiO v11 v9).bind fun v12=>(idxO (List.length v8:Int) p2).bind fun v13=>(setO v8 v13 p3).bind fun v14=>(setO v5 v9 v14).bind fun v15=>some ((Proto.mk v15 (Proto.Val p0) (Proto.Wait p0) (Proto.Home p0) (Proto.Dir p0) (Proto.Busy p0) (Proto.Pool p0)))
def zaM:FnT:=⟨[zac,.int .i64,.int .i64,.int .i64],[zac],fun x=>zbV x.1 x.2.1 x.2.2.1 x.2.2.2⟩
def zis:TA :=
 .prim (.fld 0) [.v 0]<|.primH (.app 24) (.sl (.sl (.int .i64))) [.c (.sl []),.v 4]<|.prim .idx [.v 5,.v 1]<|.prim .get [.v 5,.v 6]<|.primH (.app 8) (.sl (.int .i64)) [.c (.sl []),.v 7]<|.prim .idx [.v 5,.v 1]<|.prim .get [.v 5,.v 9]<|.prim .idx [.v 5,.v 1]<|.prim .eqi [.v 11,.v 9]<|.prim .idx [.v 8,.v 2]<|.prim .set [.v 8,.v 13,.v 3]<|.prim .set [.v 5,.v 9,.v 14]<|.prim (.fld 0) [.v 0]<|.prim (.fld 1) [.v 0]<|.prim (.fld 2) [.v 0]<|.prim (.fld 3) [.v 0]<|.prim (.fld 4) [.v 0]<|.prim (.fld 5) [.v 0]<|.prim (.fld 6) [.v 0]<|.mkS za8 [.v 15,.v 17,.v 18,.v 19,.v 20,.v 21,.v 22]<|.jmp 0 false [.v 23]
theorem zoA:zad cx 12 45=some zis.erase:=by kernel_rfl
theorem zcz:FnOk cx 12 noC 45 zaM:=zaB (t:=zis) zoA (fun _=>rfl) (zaw [] (by kernel_rfl) .nil) (fun x=>by kernel_rfl)
def zkA (p0:Proto) (p1:Int) (p2:Int) (p3:Int):Option Proto :=
 (appO 24 ([]:List (List Int)) (Proto.Val p0)).bind fun v5=>(idxO (List.length v5:Int) p1).bind fun v6=>(getO v5 v6).bind fun v7=>(appO 4 ([]:List Int) v7).bind fun v8=>(idxO (List.length v5:Int) p1).bind fun v9=>(getO v5 v9).bind fun v10=>(idxO (List.length v5:Int) p1).bind fun v11=>(eqiO v11 v9).bind fun v12=>(idxO (List.length v8:Int) p2).bind fun v13=>(setO v8 v13 p3).bind fun v14=>(setO v5 v9 v14).bind fun v15=>some ((Proto.mk (Proto.State p0) v15 (Proto.Wait p0) (Proto.Home p0) (Proto.Dir p0) (Proto.Busy p0) (Proto.Pool p0)))
def zg7:FnT:=⟨[zac,.int .i64,.int .i64,.int .u32],[zac],fun x=>zkA x.1 x.2.1 x.2.2.1 x.2.2.2⟩
def znq:TA :=
 .prim (.fld 1) [.v 0]<|.primH (.app 24) (.sl (.sl (.int .u32))) [.c (.sl []),.v 4]<|.prim .idx [.v 5,.v 1]<|.prim .get [.v 5,.v 6]<|.primH (.app 4) (.sl (.int .u32)) [.c (.sl []),.v 7]<|.prim .idx [.v 5,.v 1]<|.prim .get [.v 5,.v 9]<|.prim .idx [.v 5,.v 1]<|.prim .eqi [.v 11,.v 9]<|.prim .idx [.v 8,.v 2]<|.prim .set [.v 8,.v 13,.v 3]<|.prim .set [.v 5,.v 9,.v 14]<|.prim (.fld 0) [.v 0]<|.prim (.fld 1) [.v 0]<|.prim (.fld 2) [.v 0]<|.prim (.fld 3) [.v 0]<|.prim (.fld 4) [.v 0]<|.prim (.fld 5) [.v 0]<|.prim (.fld 6) [.v 0]<|.mkS za8 [.v 16,.v 15,.v 18,.v 19,.v 20,.v 21,.v 22]<|.jmp 0 false [.v 23]
theorem zrR:zad cx 12 46=some znq.erase:=by kernel_rfl
theorem zrp:FnOk cx 12 noC 46 zg7:=zaB (t:=znq) zrR (fun _=>rfl) (zaw [] (by kernel_rfl) .nil) (fun x=>by kernel_rfl)
def zau (p0:Int) (p1:Int):Bool :=
 (decide ((0:Int)≤p0))&&(decide (p0<p1))
def zav:PnT:=⟨[.int .i64,.int .i64],[.bool],fun x=>zau x.1 x.2⟩
def ze3:TA :=
 .subp [.bool] (.prim (.bin .geq) [.v 0,.c (.int .i64 0)]<|.ite (.v 2) (.prim (.bin .lss) [.v 0,.v 1]<|.jmp 0 false [.v 3]) (.jmp 0 false [.c (.bool false)])) 1<|.jmp 0 false [.v 2]
theorem zh8:zad cx 12 49=some ze3.erase:=by kernel_rfl
theorem zbj:FnOk cx 12 noC 49 zav.fn:=ztg (t:=ze3) zh8 (fun _=>rfl) (zaw [] (by kernel_rfl) .nil) (fun x=>by kernel_rfl)
def zfr (p0:Entry) (p1:Int):Option Bool :=
 if (decide (p1<(1:Int)))||((decide ((4:Int)<p1))||((!decide ((List.length (Entry.Share p0):Int)=p1))||((decide ((Entry.Owner p0)<(0:Int)))||(decide (p1<(Entry.Owner p0)))))) then
 some (false)
 else
 (if decide ((Entry.Owner p0)=(0:Int)) then
 some (true)
 else
 (getO (Entry.Share p0) (w64 ((Entry.Owner p0) - (1:Int)))).bind fun v8=>some ((!v8)):Option Bool).bind fun v3=>some (v3)
def zco:FnT:=⟨[zas,.int .i64],[.bool],fun x=>zfr x.1 x.2⟩
def ziE:TA :=
 .subp [.bool] (.prim (.bin .lss) [.v 1,.c (.int .i64 1)]<|.ite (.v 2) (.jmp 0 false [.c (.bool true)]) (.prim (.bin .gtr) [.v 1,.c (.int .i64 4)]<|.ite (.v 3) (.jmp 0 false [.c (.bool true)]) (.prim (.fld 1) [.v 0]<|.prim .len [.v 4]<|.prim (.bin .neq) [.v 5,.v 1]<|.ite (.v 6) (.jmp 0 false [.c (.bool true)]) (.prim (.fld 0) [.v 0]<|.prim (.bin .lss) [.v 7,.c (.int .i64 0)]<|.ite (.v 8) (.jmp 0 false [.c (.bool true)]) (.prim (.fld 0) [.v 0]<|.prim (.bin .gtr) [.v 9,.v 1]<|.jmp 0 false [.v 10]))))) 1<|.ite (.v 2) (.jmp 0 false [.c (.bool false)]) (.sub0 [.bool] (.prim (.fld 0) [.v 0]<|.prim (.bin .eql) [.v 3,.c (.int .i64 0)]<|.ite (.v 4) (.jmp 0 false [.c (.bool true)]) (.prim (.fld 1) [.v 0]<|.prim (.fld 0) [.v 0]<|.prim (.bin .sub) [.v 6,.c (.int .i64 1)]<|.prim .get [.v 5,.v 7]<|.prim (.un .not) [.v 8]<|.jmp 0 false [.v 9])) 1<|.jmp 0 false [.v 3])
theorem znL:zad cx 12 52=some ziE.erase:=by kernel_rfl
theorem ziW:FnOk cx 12 noC 52 zco:=zaB (t:=ziE) znL (fun _=>rfl) (zaw [] (by kernel_rfl) .nil) (fun x=>by kernel_rfl)
def zeL (x0:Pool) (s:Int):Option (Int⊕Unit⊕Bool) :=
 if decide (s<(List.length (Pool.Frames x0):Int)) then
 (if decide ((63:Int)<s) then
 some (true)
 else
 (getO (Pool.Frames x0) s).bind fun v7=>some ((!decide ((List.length v7:Int)=(19:Int)))):Option Bool).bind fun v5=>if v5 then
 some (Sum.inr (Sum.inr (false)))
 else
 some (Sum.inl (w64 (s + (1:Int))))
 else
 some (Sum.inr (Sum.inl ()))
def zfC (p0:Pool):Option Bool :=
 zaG (zai (zeL p0) (0:Int):Option (Unit⊕Bool)) fun v1=>some (true)
def zcw:FnT:=⟨[zaI],[.bool],fun x=>zfC x⟩
def zjd:TA :=
 .sub1 [] (.loop [.int .i64] [.c (.int .i64 0)] (.prim (.fld 0) [.v 0]<|.prim .len [.v 2]<|.prim (.bin .lss) [.v 1,.v 3]<|.ite (.v 4) (.sub0 [.bool] (.prim (.bin .gtr) [.v 1,.c (.int .i64 63)]<|.ite (.v 5) (.jmp 0 false [.c (.bool true)]) (.prim (.fld 0) [.v 0]<|.prim .get [.v 6,.v 1]<|.prim .len [.v 7]<|.prim (.bin .neq) [.v 8,.c (.int .i64 19)]<|.jmp 0 false [.v 9])) 1<|.ite (.v 5) (.jmp 2 false [.c (.bool false)]) (.prim (.bin .add) [.v 1,.c (.int .i64 1)]<|.jmp 0 true [.v 6])) (.jmp 1 false []))) 0<|.jmp 0 false [.c (.bool true)]
theorem zmX:zad cx 12 53=some zjd.erase:=by kernel_rfl
theorem zjy:FnOk cx 12 noC 53 zcw:=zaB (t:=zjd) zmX (fun _=>rfl) (zaw [] (by kernel_rfl) .nil) (fun x=>by kernel_rfl)
def zb1 (x0:Entry) (x1:Int) (s:Int):Option (Int⊕Unit⊕Bool) :=
 if decide (s<x1) then
 ((getO (Entry.Share x0) s).bind fun v6=>if v6 then
 some ((decide ((Entry.Owner x0)=(w64 (s + (1:Int))))))
 else
 some (false):Option Bool).bind fun v5=>if v5 then
 some (Sum.inr (Sum.inr (false)))
 else
 some (Sum.inl (w64 (s + (1:Int))))
 else
 some (Sum.inr (Sum.inl ()))
def znM (p0:Entry) (p1:Int):Option Bool :=
 if (decide (p1<(1:Int)))||((decide ((4:Int)<p1))||((!decide ((List.length (Entry.Share p0):Int)=p1))||((decide ((Entry.Owner p0)<(0:Int)))||(decide (p1<(Entry.Owner p0)))))) then
 some (false)
 else
 zaG (zai (zb1 p0 p1) (0:Int):Option (Unit⊕Bool)) fun v3=>some (true)
def zhk:FnT:=⟨[zas,.int .i64],[.bool],fun x=>znM x.1 x.2⟩
def zm9:TA :=
 .subp [.bool] (.prim (.bin .lss) [.v 1,.c (.int .i64 1)]<|.ite (.v 2) (.jmp 0 false [.c (.bool true)]) (.prim (.bin .gtr) [.v 1,.c (.int .i64 4)]<|.ite (.v 3) (.jmp 0 false [.c (.bool true)]) (.prim (.fld 1) [.v 0]<|.prim .len [.v 4]<|.prim (.bin .neq) [.v 5,.v 1]<|.ite (.v 6) (.jmp 0 false [.c (.bool true)]) (.prim (.fld 0) [.v 0]<|.prim (.bin .lss) [.v 7,.c (.int .i64 0)]<|.ite (.v 8) (.jmp 0 false [.c (.bool true)]) (.prim (.fld 0) [.v 0]<|.prim (.bin .gtr) [.v 9,.v 1]<|.jmp 0 false [.v 10]))))) 1<|.ite (.v 2) (.jmp 0 false [.c (.bool false)]) (.sub1 [] (.loop [.int .i64] [.c (.int .i64 0)] (.prim (.bin .lss) [.v 3,.v 1]<|.ite (.v 4) (.sub0 [.bool] (.prim (.fld 1) [.v 0]<|.prim .get [.v 5,.v 3]<|.ite (.v 6) (.prim (.fld 0) [.v 0]<|.prim (.bin .add) [.v 3,.c (.int .i64 1)]<|.prim (.bin .eql) [.v 7,.v 8]<|.jmp 0 false [.v 9]) (.jmp 0 false [.c (.bool false)])) 1<|.ite (.v 5) (.jmp 2 false [.c (.bool false)]) (.prim (.bin .add) [.v 3,.c (.int .i64 1)]<|.jmp 0 true [.v 6])) (.jmp 1 false []))) 0<|.jmp 0 false [.c (.bool true)])
theorem zsl:zad cx 12 54=some zm9.erase:=by kernel_rfl
theorem zs7:FnOk cx 12 noC 54 zhk:=zaB (t:=zm9) zsl (fun _=>rfl) (zaw [] (by kernel_rfl) .nil) (fun x=>by kernel_rfl)
def zwO (p0:Int):Option (Entry×Int) :=
 if (decide (p0<(1:Int)))||(decide ((4:Int)<p0)) then
 some (((Entry.mk (0:Int) ([]:List Bool)),(1:Int)))
 else
 (repO false 1 p0 p0).bind fun v2=>some ((Entry.mk (0:Int) v2,(0:Int)))
def zug:FnT:=⟨[.int .i64],[zas,.int .i64],fun x=>zwO x⟩
def zmW:TA :=
 .subp [.bool] (.prim (.bin .lss) [.v 0,.c (.int .i64 1)]<|.ite (.v 1) (.jmp 0 false [.c (.bool true)]) (.prim (.bin .gtr) [.v 0,.c (.int .i64 4)]<|.jmp 0 false [.v 2])) 1<|.ite (.v 1) (.jmp 0 false [.c (.agg [(.int .i64 0),.nil]),.c (.int .i64 1)]) (.primH (.rep (.bool false) 1) (.sl .bool) [.v 0,.v 0]<|.mkS zbm [.c (.int .i64 0),.v 2]<|.jmp 0 false [.v 3,.c (.int .i64 0)])
theorem ztU:zad cx 12 55=some zmW.erase:=by kernel_rfl
def zcZ (p0:Int):Bool :=
 decide ((2:Int)≤p0)
def zdq:PnT:=⟨[.int .i64],[.bool],fun x=>zcZ x⟩
def zhb:TA :=
 .prim (.bin .geq) [.v 0,.c (.int .i64 2)]<|.jmp 0 false [.v 1]
theorem zlK:zad cx 12 69=some zhb.erase:=by kernel_rfl
theorem zlG:FnOk cx 12 noC 69 zdq.fn:=ztg (t:=zhb) zlK (fun _=>rfl) (zaw [] (by kernel_rfl) .nil) (fun x=>by kernel_rfl)
def zmo (p0:Proto) (p1:Int) (p2:Int):Option Proto :=
 (appO 4 ([]:List Int) (Proto.Home p0)).bind fun v4=>(idxO (List.length v4:Int) p1).bind fun v5=>(setO v4 v5 p2).bind fun v6=>some ((Proto.mk (Proto.State p0) (Proto.Val p0) (Proto.Wait p0) v6 (Proto.Dir p0) (Proto.Busy p0) (Proto.Pool p0)))
def zlx:FnT:=⟨[zac,.int .i64,.int .u32],[zac],fun x=>zmo x.1 x.2.1 x.2.2⟩
def zlD:TA :=
 .prim (.fld 3) [.v 0]<|.primH (.app 4) (.sl (.int .u32)) [.c (.sl []),.v 3]<|.prim .idx [.v 4,.v 1]<|.prim .set [.v 4,.v 5,.v 2]<|.prim (.fld 0) [.v 0]<|.prim (.fld 1) [.v 0]<|.prim (.fld 2) [.v 0]<|.prim (.fld 3) [.v 0]<|.prim (.fld 4) [.v 0]<|.prim (.fld 5) [.v 0]<|.prim (.fld 6) [.v 0]<|.mkS za8 [.v 7,.v 8,.v 9,.v 6,.v 11,.v 12,.v 13]<|.jmp 0 false [.v 14]
theorem zpw:zad cx 12 78=some zlD.erase:=by kernel_rfl
theorem zvK:FnOk cx 12 noC 78 zlx:=zaB (t:=zlD) zpw (fun _=>rfl) (zaw [] (by kernel_rfl) .nil) (fun x=>by kernel_rfl)
def znQ (p0:Proto) (p1:Int) (p2:Entry):Option Proto :=
 (appO 32 ([]:List Entry) (Proto.Dir p0)).bind fun v4=>(idxO (List.length v4:Int) p1).bind fun v5=>(setO v4 v5 p2).bind fun v6=>some ((Proto.mk (Proto.State p0) (Proto.Val p0) (Proto.Wait p0) (Proto.Home p0) v6 (Proto.Busy p0) (Proto.Pool p0)))
def zg3:FnT:=⟨[zac,.int .i64,zas],[zac],fun x=>znQ x.1 x.2.1 x.2.2⟩
def zmF:TA :=
 .prim (.fld 4) [.v 0]<|.primH (.app 32) (.sl zas) [.c (.sl []),.v 3]<|.prim .idx [.v 4,.v 1]<|.prim .set [.v 4,.v 5,.v 2]<|.prim (.fld 0) [.v 0]<|.prim (.fld 1) [.v 0]<|.prim (.fld 2) [.v 0]<|.prim (.fld 3) [.v 0]<|.prim (.fld 4) [.v 0]<|.prim (.fld 5) [.v 0]<|.prim (.fld 6) [.v 0]<|.mkS za8 [.v 7,.v 8,.v 9,.v 10,.v 6,.v 12,.v 13]<|.jmp 0 false [.v 14]
theorem zsS:zad cx 12 79=some zmF.erase:=by kernel_rfl
theorem zrl:FnOk cx 12 noC 79 zg3:=zaB (t:=zmF) zsS (fun _=>rfl) (zaw [] (by kernel_rfl) .nil) (fun x=>by kernel_rfl)
def zkf (p0:Proto) (p1:Int) (p2:Int):Option Proto :=
 (appO 8 ([]:List Int) (Proto.Busy p0)).bind fun v4=>(idxO (List.length v4:Int) p1).bind fun v5=>(setO v4 v5 p2).bind fun v6=>some ((Proto.mk (Proto.State p0) (Proto.Val p0) (Proto.Wait p0) (Proto.Home p0) (Proto.Dir p0) v6 (Proto.Pool p0)))
def zfg:FnT:=⟨[zac,.int .i64,.int .i64],[zac],fun x=>zkf x.1 x.2.1 x.2.2⟩
def zli:TA :=
 .prim (.fld 5) [.v 0]<|.primH (.app 8) (.sl (.int .i64)) [.c (.sl []),.v 3]<|.prim .idx [.v 4,.v 1]<|.prim .set [.v 4,.v 5,.v 2]<|.prim (.fld 0) [.v 0]<|.prim (.fld 1) [.v 0]<|.prim (.fld 2) [.v 0]<|.prim (.fld 3) [.v 0]<|.prim (.fld 4) [.v 0]<|.prim (.fld 5) [.v 0]<|.prim (.fld 6) [.v 0]<|.mkS za8 [.v 7,.v 8,.v 9,.v 10,.v 11,.v 6,.v 13]<|.jmp 0 false [.v 14]
theorem zpY:zad cx 12 80=some zli.erase:=by kernel_rfl
theorem zpP:FnOk cx 12 noC 80 zfg:=zaB (t:=zli) zpY (fun _=>rfl) (zaw [] (by kernel_rfl) .nil) (fun x=>by kernel_rfl)
def zbq (x0:List (List Int)) (x2:Int) (x5:Int) (s:Int):Option (Int⊕Unit⊕Int) :=
 if decide (s<x5) then
 (getO x0 s).bind fun v8=>if !decide ((List.length v8:Int)=x2) then
 some (Sum.inr (Sum.inr (s)))
 else
 some (Sum.inl (w64 (s + (1:Int))))
 else
 some (Sum.inr (Sum.inl ()))
def zdb (p0:List (List Int)) (p1:Int) (p2:Int):Option Bool :=
 (if decide ((List.length p0:Int)=p1) then
 ((let v5:Int:=(List.length p0:Int)
 zaG (zai (zbq p0 p2 v5) (0:Int):Option (Unit⊕Int)) fun v6=>some ((-1:Int)):Option Int).bind fun v5=>some ((decide ((0:Int)≤v5))):Option Bool).bind fun v5=>some ((!v5))
 else
 some (false):Option Bool).bind fun v3=>some (v3)
def zdA:FnT:=⟨[.sl (.sl (.int .i64)),.int .i64,.int .i64],[.bool],fun x=>zdb x.1 x.2.1 x.2.2⟩
def zdz:TA :=
 .sub0 [.bool] (.prim .len [.v 0]<|.prim (.bin .eql) [.v 3,.v 1]<|.ite (.v 4) (.sub0 [.bool] (.sub0 [.int .i64] (.prim .len [.v 0]<|.sub1 [] (.loop [.int .i64] [.c (.int .i64 0)] (.prim (.bin .lss) [.v 6,.v 5]<|.ite (.v 7) (.prim .get [.v 0,.v 6]<|.subp [.bool] (.prim .len [.v 8]<|.prim (.bin .neq) [.v 9,.v 2]<|.jmp 0 false [.v 10]) 1<|.ite (.v 9) (.jmp 2 false [.v 6]) (.prim (.bin .add) [.v 6,.c (.int .i64 1)]<|.jmp 0 true [.v 10])) (.jmp 1 false []))) 0<|.jmp 0 false [.c (.int .i64 (-1))]) 1<|.prim (.bin .geq) [.v 5,.c (.int .i64 0)]<|.jmp 0 false [.v 6]) 1<|.prim (.un .not) [.v 5]<|.jmp 0 false [.v 6]) (.jmp 0 false [.c (.bool false)])) 1<|.jmp 0 false [.v 3]
theorem zgD:zad cx 12 82=some zdz.erase:=by kernel_rfl
theorem zmf:FnOk cx 12 noC 82 zdA:=zaB (t:=zdz) zgD (fun _=>rfl) (zaw [] (by kernel_rfl) .nil) (fun x=>by kernel_rfl)
def zc0 (p0:List (List Int)) (p1:Int) (p2:Int):Option Bool :=
 (if decide ((List.length p0:Int)=p1) then
 ((let v5:Int:=(List.length p0:Int)
 zaG (zai (zbq p0 p2 v5) (0:Int):Option (Unit⊕Int)) fun v6=>some ((-1:Int)):Option Int).bind fun v5=>some ((decide ((0:Int)≤v5))):Option Bool).bind fun v5=>some ((!v5))
 else
 some (false):Option Bool).bind fun v3=>some (v3)
def zcp:FnT:=⟨[.sl (.sl (.int .u32)),.int .i64,.int .i64],[.bool],fun x=>zc0 x.1 x.2.1 x.2.2⟩
def zcy:TA :=
 .sub0 [.bool] (.prim .len [.v 0]<|.prim (.bin .eql) [.v 3,.v 1]<|.ite (.v 4) (.sub0 [.bool] (.sub0 [.int .i64] (.prim .len [.v 0]<|.sub1 [] (.loop [.int .i64] [.c (.int .i64 0)] (.prim (.bin .lss) [.v 6,.v 5]<|.ite (.v 7) (.prim .get [.v 0,.v 6]<|.subp [.bool] (.prim .len [.v 8]<|.prim (.bin .neq) [.v 9,.v 2]<|.jmp 0 false [.v 10]) 1<|.ite (.v 9) (.jmp 2 false [.v 6]) (.prim (.bin .add) [.v 6,.c (.int .i64 1)]<|.jmp 0 true [.v 10])) (.jmp 1 false []))) 0<|.jmp 0 false [.c (.int .i64 (-1))]) 1<|.prim (.bin .geq) [.v 5,.c (.int .i64 0)]<|.jmp 0 false [.v 6]) 1<|.prim (.un .not) [.v 5]<|.jmp 0 false [.v 6]) (.jmp 0 false [.c (.bool false)])) 1<|.jmp 0 false [.v 3]
theorem zet:zad cx 12 83=some zcy.erase:=by kernel_rfl
theorem ziV:FnOk cx 12 noC 83 zcp:=zaB (t:=zcy) zet (fun _=>rfl) (zaw [] (by kernel_rfl) .nil) (fun x=>by kernel_rfl)
def zht (p0:List Int):Bool :=
 !decide ((List.length p0:Int)=(19:Int))
def zeW:PnT:=⟨[.sl (.int .u8)],[.bool],fun x=>zht x⟩
def ze8:TA :=
 .prim .len [.v 0]<|.prim (.bin .neq) [.v 1,.c (.int .i64 19)]<|.jmp 0 false [.v 2]
theorem zih:zad cx 12 85=some ze8.erase:=by kernel_rfl
theorem zoS:FnOk cx 12 noC 85 zeW.fn:=ztg (t:=ze8) zih (fun _=>rfl) (zaw [] (by kernel_rfl) .nil) (fun x=>by kernel_rfl)
def zdS (x1:List Int) (s:(Int×Int)):Option ((Int×Int)⊕Int) :=
 if decide (s.2<(4:Int)) then
 (getO x1 s.2).bind fun v5=>(shlO .u32 s.1 (8:Int)).bind fun v6=>some (Sum.inl (bOr .u32 v6 (wu32 v5),w64 (s.2 + (1:Int))))
 else
 some (Sum.inr (s.1))
def zf6 (p0:List Int):Option Int :=
 let v1:List Int:=cpyT ([(0:Int),(0:Int),(0:Int),(0:Int)]:List Int) p0
 (zai (zdS v1) ((0:Int),(0:Int)):Option Int).bind fun v2=>some (v2)
def zew:FnT:=⟨[.sl (.int .u8)],[.int .u32],fun x=>zf6 x⟩
def zn8:TA :=
 .primH .cpy (.arr 4 (.int .u8)) [.c (.agg [(.int .u8 0),(.int .u8 0),(.int .u8 0),(.int .u8 0)]),.v 0]<|.sub0 [.int .u32] (.loop [.int .u32,.int .i64] [.c (.int .u32 0),.c (.int .i64 0)] (.prim (.bin .lss) [.v 3,.c (.int .i64 4)]<|.ite (.v 4) (.prim .get [.v 1,.v 3]<|.prim (.bin .shl) [.v 2,.c (.int .u64 8)]<|.prim (.conv .u32) [.v 5]<|.prim (.bin .or) [.v 6,.v 7]<|.prim (.bin .add) [.v 3,.c (.int .i64 1)]<|.jmp 0 true [.v 8,.v 9]) (.jmp 1 false [.v 2]))) 1<|.jmp 0 false [.v 2]
theorem zrW:zad cx 12 91=some zn8.erase:=by kernel_rfl
theorem zob:FnOk cx 12 noC 91 zew:=zaB (t:=zn8) zrW (fun _=>rfl) (zaw [] (by kernel_rfl) .nil) (fun x=>by kernel_rfl)
def zdr (s:(Int×Int)):Option ((Int×Int)⊕Int) :=
 if decide (s.2<(8:Int)) then
 (shrO .u32 s.1 (1:Int)).bind fun v13=>some (Sum.inl (bif decide ((bAnd .u32 s.1 (1:Int))=(1:Int)) then bXor .u32 v13 (3988292384:Int) else v13,w64 (s.2 + (1:Int))))
 else
 some (Sum.inr (s.1))
def zeN (x0:List Int) (x1:Int) (s:(Int×Int)):Option ((Int×Int)⊕Int) :=
 if decide (s.2<x1) then
 (getO x0 s.2).bind fun v5=>(zai zdr (bXor .u32 s.1 (wu32 v5),(0:Int)):Option Int).bind fun v8=>some (Sum.inl (v8,w64 (s.2 + (1:Int))))
 else
 some (Sum.inr (s.1))
def zeq (p0:List Int):Option Int :=
 let v1:Int:=(List.length p0:Int)
 (zai (zeN p0 v1) ((4294967295:Int),(0:Int)):Option Int).bind fun v2=>some ((bNot .u32 v2))
def zen:FnT:=⟨[.sl (.int .u8)],[.int .u32],fun x=>zeq x⟩
def zi3:TA :=
 .prim .len [.v 0]<|.sub0 [.int .u32] (.loop [.int .u32,.int .i64] [.c (.int .u32 4294967295),.c (.int .i64 0)] (.prim (.bin .lss) [.v 3,.v 1]<|.ite (.v 4) (.prim .get [.v 0,.v 3]<|.prim (.conv .u32) [.v 5]<|.prim (.bin .xor) [.v 2,.v 6]<|.sub0 [.int .u32] (.loop [.int .u32,.int .i64] [.v 7,.c (.int .i64 0)] (.prim (.bin .lss) [.v 9,.c (.int .i64 8)]<|.ite (.v 10) (.prim (.bin .and) [.v 8,.c (.int .u32 1)]<|.prim (.bin .eql) [.v 11,.c (.int .u32 1)]<|.prim (.bin .shr) [.v 8,.c (.int .u64 1)]<|.subp [.int .u32] (.ite (.v 12) (.prim (.bin .xor) [.v 13,.c (.int .u32 3988292384)]<|.jmp 0 false [.v 14]) (.jmp 0 false [.v 13])) 1<|.prim (.bin .add) [.v 9,.c (.int .i64 1)]<|.jmp 0 true [.v 14,.v 15]) (.jmp 1 false [.v 8]))) 1<|.prim (.bin .add) [.v 3,.c (.int .i64 1)]<|.jmp 0 true [.v 8,.v 9]) (.jmp 1 false [.v 2]))) 1<|.prim (.un .xor) [.v 2]<|.jmp 0 false [.v 3]
theorem znk:zad cx 12 92=some zi3.erase:=by kernel_rfl
theorem znz:FnOk cx 12 noC 92 zen:=zaB (t:=zi3) znk (fun _=>rfl) (zaw [] (by kernel_rfl) .nil) (fun x=>by kernel_rfl)
def bytes_Equal (p0:List Int) (p1:List Int):Option Bool :=
 (b2sO p0).bind fun v2 =>
 (b2sO p1).bind fun v3 =>
 some ((decide (v2=v3)))
def zfT:FnT:=⟨[.sl (.int .u8),.sl (.int .u8)],[.bool],fun x=>bytes_Equal x.1 x.2⟩
def zgc:TA :=
 .prim .b2s [.v 0]<|.prim .b2s [.v 1]<|.prim (.bin .eql) [.v 2,.v 3]<|.jmp 0 false [.v 4]
theorem zkt:zad cx 12 94=some zgc.erase:=by kernel_rfl
theorem zqA:FnOk cx 12 noC 94 zfT:=zaB (t:=zgc) zkt (fun _=>rfl) (zaw [] (by kernel_rfl) .nil) (fun x=>by kernel_rfl)
def zev (p0:Int):Option (List Int) :=
 (quoO .u32 p0 (16777216:Int)).bind fun v1=>(quoO .u32 p0 (65536:Int)).bind fun v3=>(remO v3 (256:Int)).bind fun v4=>(quoO .u32 p0 (256:Int)).bind fun v6=>(remO v6 (256:Int)).bind fun v7=>(remO p0 (256:Int)).bind fun v9=>some (([wu8 v1,wu8 v4,wu8 v7,wu8 v9]:List Int))
def zbu:FnT:=⟨[.int .u32],[.sl (.int .u8)],fun x=>zev x⟩
def zjl:TA :=
 .prim (.bin .quo) [.v 0,.c (.int .u32 16777216)]<|.prim (.conv .u8) [.v 1]<|.prim (.bin .quo) [.v 0,.c (.int .u32 65536)]<|.prim (.bin .rem) [.v 3,.c (.int .u32 256)]<|.prim (.conv .u8) [.v 4]<|.prim (.bin .quo) [.v 0,.c (.int .u32 256)]<|.prim (.bin .rem) [.v 6,.c (.int .u32 256)]<|.prim (.conv .u8) [.v 7]<|.prim (.bin .rem) [.v 0,.c (.int .u32 256)]<|.prim (.conv .u8) [.v 9]<|.mkL (.int .u8) [.v 2,.v 5,.v 8,.v 10]<|.jmp 0 false [.v 11]
theorem znS:zad cx 12 102=some zjl.erase:=by kernel_rfl
theorem zgv:FnOk cx 12 noC 102 zbu:=zaB (t:=zjl) znS (fun _=>rfl) (zaw [] (by kernel_rfl) .nil) (fun x=>by kernel_rfl)
def zfn (s:(Int×Int)):Option ((Int×Int)⊕Int) :=
 if decide (s.2<(8:Int)) then
 (remO s.1 (2:Int)).bind fun v11=>(if decide (v11=(1:Int)) then
 (quoO .u32 s.1 (2:Int)).bind fun v13=>some ((bXor .u32 v13 (3988292384:Int)))
 else
 (quoO .u32 s.1 (2:Int)).bind fun v13=>some (v13):Option Int).bind fun v13=>some (Sum.inl (v13,w64 (s.2 + (1:Int))))
 else
 some (Sum.inr (s.1))
def zh3 (x0:List Int) (s:(Int×Int)):Option ((Int×Int)⊕Int) :=
 if decide (s.2<(List.length x0:Int)) then
 (getO x0 s.2).bind fun v5=>(zai zfn (bXor .u32 s.1 (wu32 v5),(0:Int)):Option Int).bind fun v8=>some (Sum.inl (v8,w64 (s.2 + (1:Int))))
 else
 some (Sum.inr (s.1))
def zln (p0:List Int):Option Int :=
 (zai (zh3 p0) ((4294967295:Int),(0:Int)):Option Int).bind fun v1=>some ((wu32 ((4294967295:Int) - v1)))
def zha:FnT:=⟨[.sl (.int .u8)],[.int .u32],fun x=>zln x⟩
def zoq:TA :=
 .sub0 [.int .u32] (.loop [.int .u32,.int .i64] [.c (.int .u32 4294967295),.c (.int .i64 0)] (.prim .len [.v 0]<|.prim (.bin .lss) [.v 2,.v 3]<|.ite (.v 4) (.prim .get [.v 0,.v 2]<|.prim (.conv .u32) [.v 5]<|.prim (.bin .xor) [.v 1,.v 6]<|.sub0 [.int .u32] (.loop [.int .u32,.int .i64] [.v 7,.c (.int .i64 0)] (.prim (.bin .lss) [.v 9,.c (.int .i64 8)]<|.ite (.v 10) (.prim (.bin .rem) [.v 8,.c (.int .u32 2)]<|.prim (.bin .eql) [.v 11,.c (.int .u32 1)]<|.sub0 [.int .u32] (.ite (.v 12) (.prim (.bin .quo) [.v 8,.c (.int .u32 2)]<|.prim (.bin .xor) [.v 13,.c (.int .u32 3988292384)]<|.jmp 0 false [.v 14]) (.prim (.bin .quo) [.v 8,.c (.int .u32 2)]<|.jmp 0 false [.v 13])) 1<|.prim (.bin .add) [.v 9,.c (.int .i64 1)]<|.jmp 0 true [.v 13,.v 14]) (.jmp 1 false [.v 8]))) 1<|.prim (.bin .add) [.v 2,.c (.int .i64 1)]<|.jmp 0 true [.v 8,.v 9]) (.jmp 1 false [.v 1]))) 1<|.prim (.bin .sub) [.c (.int .u32 4294967295),.v 1]<|.jmp 0 false [.v 2]
theorem zsC:zad cx 12 103=some zoq.erase:=by kernel_rfl
theorem zsX:FnOk cx 12 noC 103 zha:=zaB (t:=zoq) zsC (fun _=>rfl) (zaw [] (by kernel_rfl) .nil) (fun x=>by kernel_rfl)
def zfo (x0:List Int) (s:(Int×Int)):Option ((Int×Int)⊕Int) :=
 if decide (s.2<(4:Int)) then
 let v4:Int:=wu32 (s.1 * (256:Int))
 (if decide (s.2<(List.length x0:Int)) then
 (getO x0 s.2).bind fun v7=>some ((wu32 (v4 + (wu32 v7))))
 else
 some (v4):Option Int).bind fun v7=>some (Sum.inl (v7,w64 (s.2 + (1:Int))))
 else
 some (Sum.inr (s.1))
def zrS (p0:List Int):Option Int :=
 (zai (zfo p0) ((0:Int),(0:Int)):Option Int).bind fun v1=>some (v1)
def zkw:FnT:=⟨[.sl (.int .u8)],[.int .u32],fun x=>zrS x⟩
def zqn:TA :=
 .sub0 [.int .u32] (.loop [.int .u32,.int .i64] [.c (.int .u32 0),.c (.int .i64 0)] (.prim (.bin .lss) [.v 2,.c (.int .i64 4)]<|.ite (.v 3) (.prim (.bin .mul) [.v 1,.c (.int .u32 256)]<|.prim .len [.v 0]<|.prim (.bin .lss) [.v 2,.v 5]<|.sub0 [.int .u32] (.ite (.v 6) (.prim .get [.v 0,.v 2]<|.prim (.conv .u32) [.v 7]<|.prim (.bin .add) [.v 4,.v 8]<|.jmp 0 false [.v 9]) (.jmp 0 false [.v 4])) 1<|.prim (.bin .add) [.v 2,.c (.int .i64 1)]<|.jmp 0 true [.v 7,.v 8]) (.jmp 1 false [.v 1]))) 1<|.jmp 0 false [.v 1]
theorem zuI:zad cx 12 104=some zqn.erase:=by kernel_rfl
theorem zuB:FnOk cx 12 noC 104 zkw:=zaB (t:=zqn) zuI (fun _=>rfl) (zaw [] (by kernel_rfl) .nil) (fun x=>by kernel_rfl)
def zb0 (x0:Entry) (x1:Int) (s:(Int×(List Int))):Option ((Int×(List Int))⊕(List Int)) :=
 if decide (s.1<(List.length (Entry.Share x0):Int)) then
 ((getO (Entry.Share x0) s.1).bind fun v8=>if v8 then
 some ((!decide (s.1=x1)))
 else
 some (false):Option Bool).bind fun v7=>(if v7 then
 (appO 8 s.2 ([s.1]:List Int)).bind fun v9=>some (v9)
 else
 some (s.2):Option (List Int)).bind fun v8=>some (Sum.inl (w64 (s.1 + (1:Int)),v8))
 else
 some (Sum.inr (s.2))
def zcC (p0:Entry) (p1:Int):Option (List Int) :=
 (zai (zb0 p0 p1) ((0:Int),([]:List Int)):Option (List Int)).bind fun v2=>some (v2)
def zbL:FnT:=⟨[zas,.int .i64],[.sl (.int .i64)],fun x=>zcC x.1 x.2⟩
def zhB:TA :=
 .sub0 [.sl (.int .i64)] (.loop [.int .i64,.sl (.int .i64)] [.c (.int .i64 0),.c .nil] (.prim (.fld 1) [.v 0]<|.prim .len [.v 4]<|.prim (.bin .lss) [.v 2,.v 5]<|.ite (.v 6) (.sub0 [.bool] (.prim (.fld 1) [.v 0]<|.prim .get [.v 7,.v 2]<|.ite (.v 8) (.prim (.bin .neq) [.v 2,.v 1]<|.jmp 0 false [.v 9]) (.jmp 0 false [.c (.bool false)])) 1<|.sub0 [.sl (.int .i64)] (.ite (.v 7) (.mkL (.int .i64) [.v 2]<|.prim (.app 8) [.v 3,.v 8]<|.jmp 0 false [.v 9]) (.jmp 0 false [.v 3])) 1<|.prim (.bin .add) [.v 2,.c (.int .i64 1)]<|.jmp 0 true [.v 9,.v 8]) (.jmp 1 false [.v 3]))) 1<|.jmp 0 false [.v 2]
theorem zl0:zad cx 12 107=some zhB.erase:=by kernel_rfl
theorem zg8:FnOk cx 12 noC 107 zbL:=zaB (t:=zhB) zl0 (fun _=>rfl) (zaw [] (by kernel_rfl) .nil) (fun x=>by kernel_rfl)
def zaa (p0:Int):Bool :=
 (decide ((0:Int)≤p0))&&(decide (p0≤(255:Int)))
def zfb:PnT:=⟨[.int .i64],[.bool],fun x=>zaa x⟩
def ze7:TA :=
 .subp [.bool] (.prim (.bin .geq) [.v 0,.c (.int .i64 0)]<|.ite (.v 1) (.prim (.bin .leq) [.v 0,.c (.int .i64 255)]<|.jmp 0 false [.v 2]) (.jmp 0 false [.c (.bool false)])) 1<|.jmp 0 false [.v 1]
theorem zie:zad cx 12 117=some ze7.erase:=by kernel_rfl
theorem zoX:FnOk cx 12 noC 117 zfb.fn:=ztg (t:=ze7) zie (fun _=>rfl) (zaw [] (by kernel_rfl) .nil) (fun x=>by kernel_rfl)
def zdT (p0:Int):Option (List Int) :=
 (shrO .u32 p0 (24:Int)).bind fun v1=>(shrO .u32 p0 (16:Int)).bind fun v3=>(shrO .u32 p0 (8:Int)).bind fun v5=>some (([wu8 v1,wu8 v3,wu8 v5,wu8 p0]:List Int))
def zbP:FnT:=⟨[.int .u32],[.sl (.int .u8)],fun x=>zdT x⟩
def zhF:TA :=
 .prim (.bin .shr) [.v 0,.c (.int .u64 24)]<|.prim (.conv .u8) [.v 1]<|.prim (.bin .shr) [.v 0,.c (.int .u64 16)]<|.prim (.conv .u8) [.v 3]<|.prim (.bin .shr) [.v 0,.c (.int .u64 8)]<|.prim (.conv .u8) [.v 5]<|.prim (.conv .u8) [.v 0]<|.mkL (.int .u8) [.v 2,.v 4,.v 6,.v 7]<|.jmp 0 false [.v 8]
theorem zlM:zad cx 12 119=some zhF.erase:=by kernel_rfl
theorem zg0:FnOk cx 12 noC 119 zbP:=zaB (t:=zhF) zlM (fun _=>rfl) (zaw [] (by kernel_rfl) .nil) (fun x=>by kernel_rfl)
def zqP (p0:List Bool) (p1:Int) (p2:Bool):Option (List Bool) :=
 (appO 1 ([]:List Bool) p0).bind fun v3=>(idxO (List.length v3:Int) p1).bind fun v4=>(setO v3 v4 p2).bind fun v5=>some (v5)
def zmU:FnT:=⟨[.sl .bool,.int .i64,.bool],[.sl .bool],fun x=>zqP x.1 x.2.1 x.2.2⟩
def zn6:TA :=
 .primH (.app 1) (.sl .bool) [.c (.sl []),.v 0]<|.prim .idx [.v 3,.v 1]<|.prim .set [.v 3,.v 4,.v 2]<|.jmp 0 false [.v 5]
theorem zry:zad cx 12 124=some zn6.erase:=by kernel_rfl
theorem zwo:FnOk cx 12 noC 124 zmU:=zaB (t:=zn6) zry (fun _=>rfl) (zaw [] (by kernel_rfl) .nil) (fun x=>by kernel_rfl)
def zq7 (p0:Pool) (p1:List Int):Option (Pool×Int) :=
 if decide ((64:Int)≤(List.length (Pool.Frames p0):Int)) then
 some ((p0,(6:Int)))
 else
 (appO 24 ([]:List (List Int)) (Pool.Frames p0)).bind fun v6=>(appO 24 v6 ([p1]:List (List Int))).bind fun v8=>some ((Pool.mk v8,(0:Int)))
def znK:FnT:=⟨[zaI,.sl (.int .u8)],[zaI,.int .i64],fun x=>zq7 x.1 x.2⟩
def znb:TA :=
 .prim (.fld 0) [.v 0]<|.prim .len [.v 2]<|.prim (.bin .geq) [.v 3,.c (.int .i64 64)]<|.ite (.v 4) (.jmp 0 false [.v 0,.c (.int .i64 6)]) (.prim (.fld 0) [.v 0]<|.primH (.app 24) (.sl (.sl (.int .u8))) [.c (.sl []),.v 5]<|.mkL (.sl (.int .u8)) [.v 1]<|.prim (.app 24) [.v 6,.v 7]<|.mkS zb7 [.v 8]<|.jmp 0 false [.v 9,.c (.int .i64 0)])
theorem zsm:zad cx 12 126=some znb.erase:=by kernel_rfl
theorem zwx:FnOk cx 12 noC 126 znK:=zaB (t:=znb) zsm (fun _=>rfl) (zaw [] (by kernel_rfl) .nil) (fun x=>by kernel_rfl)
def zaj (x0:List Bool) (x1:Bool) (x2:Int) (s:Int):Option (Int⊕Unit⊕Int) :=
 if decide (s<x2) then
 (getO x0 s).bind fun v5=>if decide (x1=v5) then
 some (Sum.inr (Sum.inr (s)))
 else
 some (Sum.inl (w64 (s + (1:Int))))
 else
 some (Sum.inr (Sum.inl ()))
def zaR (p0:List Bool) (p1:Bool):Option Int :=
 let v2:Int:=(List.length p0:Int)
 zaG (zai (zaj p0 p1 v2) (0:Int):Option (Unit⊕Int)) fun v3=>some ((-1:Int))
def zbl:FnT:=⟨[.sl .bool,.bool],[.int .i64],fun x=>zaR x.1 x.2⟩
def zbt:TA :=
 .prim .len [.v 0]<|.sub1 [] (.loop [.int .i64] [.c (.int .i64 0)] (.prim (.bin .lss) [.v 3,.v 2]<|.ite (.v 4) (.prim .get [.v 0,.v 3]<|.prim (.bin .eql) [.v 1,.v 5]<|.ite (.v 6) (.jmp 2 false [.v 3]) (.prim (.bin .add) [.v 3,.c (.int .i64 1)]<|.jmp 0 true [.v 7])) (.jmp 1 false []))) 0<|.jmp 0 false [.c (.int .i64 (-1))]
theorem zcB:zad cx 12 130=some zbt.erase:=by kernel_rfl
theorem zfs:FnOk cx 12 noC 130 zbl:=zaB (t:=zbt) zcB (fun _=>rfl) (zaw [] (by kernel_rfl) .nil) (fun x=>by kernel_rfl)
def zhX (x6:List Int) (s:Int):Option (Int⊕Unit⊕Bool) :=
 if decide (s<(5:Int)) then
 ((idxO (5:Int) s).bind fun v9=>(getO x6 v9).bind fun v10=>if decide (v10<(0:Int)) then
 some (true)
 else
 (idxO (5:Int) s).bind fun v12=>(getO x6 v12).bind fun v13=>some ((decide ((255:Int)<v13))):Option Bool).bind fun v9=>if v9 then
 some (Sum.inr (Sum.inr (false)))
 else
 some (Sum.inl (w64 (s + (1:Int))))
 else
 some (Sum.inr (Sum.inl ()))
def zqV (p0:Msg):Option Bool :=
 let v6:List Int:=([Msg.From p0,Msg.To p0,Msg.Line p0,Msg.For p0,Msg.Acks p0]:List Int)
 zaG (zai (zhX v6) (0:Int):Option (Unit⊕Bool)) fun v7=>some (((decide ((0:Int)<(Msg.Kind p0)))&&(decide ((Msg.Kind p0)<(12:Int)))))
def znP:FnT:=⟨[tMsg],[.bool],fun x=>zqV x⟩
def zor:TA :=
 .prim (.fld 1) [.v 0]<|.prim (.fld 2) [.v 0]<|.prim (.fld 3) [.v 0]<|.prim (.fld 4) [.v 0]<|.prim (.fld 5) [.v 0]<|.mkA 5 (.int .i64) [.v 1,.v 2,.v 3,.v 4,.v 5]<|.sub1 [] (.loop [.int .i64] [.c (.int .i64 0)] (.prim (.bin .lss) [.v 7,.c (.int .i64 5)]<|.ite (.v 8) (.sub0 [.bool] (.prim (.idxn 5) [.v 7]<|.prim .get [.v 6,.v 9]<|.prim (.bin .lss) [.v 10,.c (.int .i64 0)]<|.ite (.v 11) (.jmp 0 false [.c (.bool true)]) (.prim (.idxn 5) [.v 7]<|.prim .get [.v 6,.v 12]<|.prim (.bin .gtr) [.v 13,.c (.int .i64 255)]<|.jmp 0 false [.v 14])) 1<|.ite (.v 9) (.jmp 2 false [.c (.bool false)]) (.prim (.bin .add) [.v 7,.c (.int .i64 1)]<|.jmp 0 true [.v 10])) (.jmp 1 false []))) 0<|.subp [.bool] (.prim (.fld 0) [.v 0]<|.prim (.bin .gtr) [.v 7,.c (.int .i64 0)]<|.ite (.v 8) (.prim (.fld 0) [.v 0]<|.prim (.bin .lss) [.v 9,.c (.int .i64 12)]<|.jmp 0 false [.v 10]) (.jmp 0 false [.c (.bool false)])) 1<|.jmp 0 false [.v 7]
theorem zr9:zad cx 12 131=some zor.erase:=by kernel_rfl
theorem zxq:FnOk cx 12 noC 131 znP:=zaB (t:=zor) zr9 (fun _=>rfl) (zaw [] (by kernel_rfl) .nil) (fun x=>by kernel_rfl)
def zeG (x0:Proto) (s:Int):Option (Int⊕Unit⊕Bool) :=
 if decide (s<(List.length (Proto.Dir x0):Int)) then
 (getO (Proto.Dir x0) s).bind fun v7=>if decide ((20:Int)<(List.length (Entry.Share v7):Int)) then
 some (Sum.inr (Sum.inr (false)))
 else
 some (Sum.inl (w64 (s + (1:Int))))
 else
 some (Sum.inr (Sum.inl ()))
def zeK (x0:Proto) (s:Int):Option (Int⊕Unit⊕Bool) :=
 if decide (s<(List.length (Proto.Val x0):Int)) then
 (getO (Proto.Val x0) s).bind fun v7=>if decide ((20:Int)<(List.length v7:Int)) then
 some (Sum.inr (Sum.inr (false)))
 else
 some (Sum.inl (w64 (s + (1:Int))))
 else
 some (Sum.inr (Sum.inl ()))
def zeO (x0:Proto) (s:Int):Option (Int⊕Unit⊕Bool) :=
 if decide (s<(List.length (Proto.State x0):Int)) then
 (getO (Proto.State x0) s).bind fun v7=>if decide ((20:Int)<(List.length v7:Int)) then
 some (Sum.inr (Sum.inr (false)))
 else
 some (Sum.inl (w64 (s + (1:Int))))
 else
 some (Sum.inr (Sum.inl ()))
def zka (p0:Proto):Option Bool :=
 (if decide ((6:Int)<(List.length (Proto.State p0):Int)) then
 some (true)
 else
 if decide ((6:Int)<(List.length (Proto.Val p0):Int)) then
 some (true)
 else
 if decide ((6:Int)<(List.length (Proto.Wait p0):Int)) then
 some (true)
 else
 if decide ((20:Int)<(List.length (Proto.Home p0):Int)) then
 some (true)
 else
 if decide ((20:Int)<(List.length (Proto.Dir p0):Int)) then
 some (true)
 else
 if decide ((20:Int)<(List.length (Proto.Busy p0):Int)) then
 some (true)
 else
 (zkv (Proto.Pool p0)).bind fun v20=>some ((!v20)):Option Bool).bind fun v1=>if v1 then
 some (false)
 else
 zaG (zai (zeO p0) (0:Int):Option (Unit⊕Bool)) fun v2=>zaG (zai (zeK p0) (0:Int):Option (Unit⊕Bool)) fun v2=>zaG (zai (zeG p0) (0:Int):Option (Unit⊕Bool)) fun v2=>some (true)
def ziT:FnT:=⟨[zac],[.bool],fun x=>zka x⟩
def ziP:TA :=
 .sub0 [.bool] (.prim (.fld 0) [.v 0]<|.prim .len [.v 1]<|.prim (.bin .gtr) [.v 2,.c (.int .i64 6)]<|.ite (.v 3) (.jmp 0 false [.c (.bool true)]) (.prim (.fld 1) [.v 0]<|.prim .len [.v 4]<|.prim (.bin .gtr) [.v 5,.c (.int .i64 6)]<|.ite (.v 6) (.jmp 0 false [.c (.bool true)]) (.prim (.fld 2) [.v 0]<|.prim .len [.v 7]<|.prim (.bin .gtr) [.v 8,.c (.int .i64 6)]<|.ite (.v 9) (.jmp 0 false [.c (.bool true)]) (.prim (.fld 3) [.v 0]<|.prim .len [.v 10]<|.prim (.bin .gtr) [.v 11,.c (.int .i64 20)]<|.ite (.v 12) (.jmp 0 false [.c (.bool true)]) (.prim (.fld 4) [.v 0]<|.prim .len [.v 13]<|.prim (.bin .gtr) [.v 14,.c (.int .i64 20)]<|.ite (.v 15) (.jmp 0 false [.c (.bool true)]) (.prim (.fld 5) [.v 0]<|.prim .len [.v 16]<|.prim (.bin .gtr) [.v 17,.c (.int .i64 20)]<|.ite (.v 18) (.jmp 0 false [.c (.bool true)]) (.prim (.fld 6) [.v 0]<|.call 25 ziu [.v 19] 1<|.prim (.un .not) [.v 20]<|.jmp 0 false [.v 21]))))))) 1<|.ite (.v 1) (.jmp 0 false [.c (.bool false)]) (.sub1 [] (.loop [.int .i64] [.c (.int .i64 0)] (.prim (.fld 0) [.v 0]<|.prim .len [.v 3]<|.prim (.bin .lss) [.v 2,.v 4]<|.ite (.v 5) (.prim (.fld 0) [.v 0]<|.prim .get [.v 6,.v 2]<|.prim .len [.v 7]<|.prim (.bin .gtr) [.v 8,.c (.int .i64 20)]<|.ite (.v 9) (.jmp 2 false [.c (.bool false)]) (.prim (.bin .add) [.v 2,.c (.int .i64 1)]<|.jmp 0 true [.v 10])) (.jmp 1 false []))) 0<|.sub1 [] (.loop [.int .i64] [.c (.int .i64 0)] (.prim (.fld 1) [.v 0]<|.prim .len [.v 3]<|.prim (.bin .lss) [.v 2,.v 4]<|.ite (.v 5) (.prim (.fld 1) [.v 0]<|.prim .get [.v 6,.v 2]<|.prim .len [.v 7]<|.prim (.bin .gtr) [.v 8,.c (.int .i64 20)]<|.ite (.v 9) (.jmp 2 false [.c (.bool false)]) (.prim (.bin .add) [.v 2,.c (.int .i64 1)]<|.jmp 0 true [.v 10])) (.jmp 1 false []))) 0<|.sub1 [] (.loop [.int .i64] [.c (.int .i64 0)] (.prim (.fld 4) [.v 0]<|.prim .len [.v 3]<|.prim (.bin .lss) [.v 2,.v 4]<|.ite (.v 5) (.prim (.fld 4) [.v 0]<|.prim .get [.v 6,.v 2]<|.prim (.fld 1) [.v 7]<|.prim .len [.v 8]<|.prim (.bin .gtr) [.v 9,.c (.int .i64 20)]<|.ite (.v 10) (.jmp 2 false [.c (.bool false)]) (.prim (.bin .add) [.v 2,.c (.int .i64 1)]<|.jmp 0 true [.v 11])) (.jmp 1 false []))) 0<|.jmp 0 false [.c (.bool true)])
theorem zn0:zad cx 12 6=some ziP.erase:=by kernel_rfl
theorem zt6:FnOk cx 12 noC 6 ziT:=zaB (t:=ziP) zn0 (fun _=>rfl) (zaw [(25,ziu)] (by kernel_rfl) (.cons zul .nil)) (fun x=>by kernel_rfl)
def zgj (x0:Proto) (x1:Proto) (s:Int):Option (Int⊕Unit⊕Bool) :=
 if decide (s<(List.length (Proto.Dir x0):Int)) then
 (getO (Proto.Dir x0) s).bind fun v8=>(getO (Proto.Dir x1) s).bind fun v10=>(zml v8 v10).bind fun v11=>if !v11 then
 some (Sum.inr (Sum.inr (false)))
 else
 some (Sum.inl (w64 (s + (1:Int))))
 else
 some (Sum.inr (Sum.inl ()))
def zgr (x0:Proto) (x1:Proto) (s:Int):Option (Int⊕Unit⊕Bool) :=
 if decide (s<(List.length (Proto.Val x0):Int)) then
 (getO (Proto.Val x0) s).bind fun v8=>(getO (Proto.Val x1) s).bind fun v10=>(zj7 v8 v10).bind fun v11=>if !v11 then
 some (Sum.inr (Sum.inr (false)))
 else
 some (Sum.inl (w64 (s + (1:Int))))
 else
 some (Sum.inr (Sum.inl ()))
def zfZ (x0:Proto) (x1:Proto) (s:Int):Option (Int⊕Unit⊕Bool) :=
 if decide (s<(List.length (Proto.State x0):Int)) then
 (getO (Proto.State x0) s).bind fun v8=>(getO (Proto.State x1) s).bind fun v10=>(zjF v8 v10).bind fun v11=>if !v11 then
 some (Sum.inr (Sum.inr (false)))
 else
 some (Sum.inl (w64 (s + (1:Int))))
 else
 some (Sum.inr (Sum.inl ()))
def zgz (x0:Proto) (x1:Proto) (s:Int):Option (Int⊕Unit⊕Bool) :=
 if decide (s<(List.length (Proto.Wait x0):Int)) then
 (getO (Proto.Wait x0) s).bind fun v8=>(getO (Proto.Wait x1) s).bind fun v10=>if !(@decide (v8=v10) (Ty.dec zcg _ _)) then
 some (Sum.inr (Sum.inr (false)))
 else
 some (Sum.inl (w64 (s + (1:Int))))
 else
 some (Sum.inr (Sum.inl ()))
def zfY (p0:Proto) (p1:Proto):Option Bool :=
 (if !decide ((List.length (Proto.State p0):Int)=(List.length (Proto.State p1):Int)) then
 some (true)
 else
 if !decide ((List.length (Proto.Val p0):Int)=(List.length (Proto.Val p1):Int)) then
 some (true)
 else
 if !decide ((List.length (Proto.Wait p0):Int)=(List.length (Proto.Wait p1):Int)) then
 some (true)
 else
 if !decide ((List.length (Proto.Home p0):Int)=(List.length (Proto.Home p1):Int)) then
 some (true)
 else
 if !decide ((List.length (Proto.Dir p0):Int)=(List.length (Proto.Dir p1):Int)) then
 some (true)
 else
 (zjF (Proto.Busy p0) (Proto.Busy p1)).bind fun v29=>if !v29 then
 some (true)
 else
 (zmn (Proto.Pool p0) (Proto.Pool p1)).bind fun v33=>some ((!v33)):Option Bool).bind fun v2=>if v2 then
 some (false)
 else
 zaG (zai (zgz p0 p1) (0:Int):Option (Unit⊕Bool)) fun v3=>zaG (zai (zfZ p0 p1) (0:Int):Option (Unit⊕Bool)) fun v3=>zaG (zai (zgr p0 p1) (0:Int):Option (Unit⊕Bool)) fun v3=>zaG (zai (zgj p0 p1) (0:Int):Option (Unit⊕Bool)) fun v3=>(zj7 (Proto.Home p0) (Proto.Home p1)).bind fun v5=>some (v5)
def zbX:FnT:=⟨[zac,zac],[.bool],fun x=>zfY x.1 x.2⟩
def zkz:TA :=
 .sub0 [.bool] (.prim (.fld 0) [.v 0]<|.prim .len [.v 2]<|.prim (.fld 0) [.v 1]<|.prim .len [.v 4]<|.prim (.bin .neq) [.v 3,.v 5]<|.ite (.v 6) (.jmp 0 false [.c (.bool true)]) (.prim (.fld 1) [.v 0]<|.prim .len [.v 7]<|.prim (.fld 1) [.v 1]<|.prim .len [.v 9]<|.prim (.bin .neq) [.v 8,.v 10]<|.ite (.v 11) (.jmp 0 false [.c (.bool true)]) (.prim (.fld 2) [.v 0]<|.prim .len [.v 12]<|.prim (.fld 2) [.v 1]<|.prim .len [.v 14]<|.prim (.bin .neq) [.v 13,.v 15]<|.ite (.v 16) (.jmp 0 false [.c (.bool true)]) (.prim (.fld 3) [.v 0]<|.prim .len [.v 17]<|.prim (.fld 3) [.v 1]<|.prim .len [.v 19]<|.prim (.bin .neq) [.v 18,.v 20]<|.ite (.v 21) (.jmp 0 false [.c (.bool true)]) (.prim (.fld 4) [.v 0]<|.prim .len [.v 22]<|.prim (.fld 4) [.v 1]<|.prim .len [.v 24]<|.prim (.bin .neq) [.v 23,.v 25]<|.ite (.v 26) (.jmp 0 false [.c (.bool true)]) (.prim (.fld 5) [.v 0]<|.prim (.fld 5) [.v 1]<|.call 35 zfd [.v 27,.v 28] 1<|.prim (.un .not) [.v 29]<|.ite (.v 30) (.jmp 0 false [.c (.bool true)]) (.prim (.fld 6) [.v 0]<|.prim (.fld 6) [.v 1]<|.call 36 zkU [.v 31,.v 32] 1<|.prim (.un .not) [.v 33]<|.jmp 0 false [.v 34]))))))) 1<|.ite (.v 2) (.jmp 0 false [.c (.bool false)]) (.sub1 [] (.loop [.int .i64] [.c (.int .i64 0)] (.prim (.fld 2) [.v 0]<|.prim .len [.v 4]<|.prim (.bin .lss) [.v 3,.v 5]<|.ite (.v 6) (.prim (.fld 2) [.v 0]<|.prim .get [.v 7,.v 3]<|.prim (.fld 2) [.v 1]<|.prim .get [.v 9,.v 3]<|.prim .eqv [.v 8,.v 10]<|.prim (.un .not) [.v 11]<|.ite (.v 12) (.jmp 2 false [.c (.bool false)]) (.prim (.bin .add) [.v 3,.c (.int .i64 1)]<|.jmp 0 true [.v 13])) (.jmp 1 false []))) 0<|.sub1 [] (.loop [.int .i64] [.c (.int .i64 0)] (.prim (.fld 0) [.v 0]<|.prim .len [.v 4]<|.prim (.bin .lss) [.v 3,.v 5]<|.ite (.v 6) (.prim (.fld 0) [.v 0]<|.prim .get [.v 7,.v 3]<|.prim (.fld 0) [.v 1]<|.prim .get [.v 9,.v 3]<|.call 35 zfd [.v 8,.v 10] 1<|.prim (.un .not) [.v 11]<|.ite (.v 12) (.jmp 2 false [.c (.bool false)]) (.prim (.bin .add) [.v 3,.c (.int .i64 1)]<|.jmp 0 true [.v 13])) (.jmp 1 false []))) 0<|.sub1 [] (.loop [.int .i64] [.c (.int .i64 0)] (.prim (.fld 1) [.v 0]<|.prim .len [.v 4]<|.prim (.bin .lss) [.v 3,.v 5]<|.ite (.v 6) (.prim (.fld 1) [.v 0]<|.prim .get [.v 7,.v 3]<|.prim (.fld 1) [.v 1]<|.prim .get [.v 9,.v 3]<|.call 37 zdX [.v 8,.v 10] 1<|.prim (.un .not) [.v 11]<|.ite (.v 12) (.jmp 2 false [.c (.bool false)]) (.prim (.bin .add) [.v 3,.c (.int .i64 1)]<|.jmp 0 true [.v 13])) (.jmp 1 false []))) 0<|.sub1 [] (.loop [.int .i64] [.c (.int .i64 0)] (.prim (.fld 4) [.v 0]<|.prim .len [.v 4]<|.prim (.bin .lss) [.v 3,.v 5]<|.ite (.v 6) (.prim (.fld 4) [.v 0]<|.prim .get [.v 7,.v 3]<|.prim (.fld 4) [.v 1]<|.prim .get [.v 9,.v 3]<|.call 38 zk9 [.v 8,.v 10] 1<|.prim (.un .not) [.v 11]<|.ite (.v 12) (.jmp 2 false [.c (.bool false)]) (.prim (.bin .add) [.v 3,.c (.int .i64 1)]<|.jmp 0 true [.v 13])) (.jmp 1 false []))) 0<|.prim (.fld 3) [.v 0]<|.prim (.fld 3) [.v 1]<|.call 37 zdX [.v 3,.v 4] 1<|.jmp 0 false [.v 5])
theorem zp8:zad cx 12 9=some zkz.erase:=by kernel_rfl
theorem zh2:FnOk cx 12 noC 9 zbX:=zaB (t:=zkz) zp8 (fun _=>rfl) (zaw [(35,zfd),(36,zkU),(35,zfd),(37,zdX),(38,zk9),(37,zdX)] (by kernel_rfl) (.cons zpH (.cons zvr (.cons zpH (.cons zoj (.cons zvT (.cons zoj .nil))))))) (fun x=>by kernel_rfl)
def zdk (x0:Proto) (x2:Int) (x4:Int) (s:Int):Option (Int⊕Unit⊕Bool) :=
 if decide (s<x4) then
 ((getO (Proto.Dir x0) s).bind fun v9=>(znM v9 x2).bind fun v10=>if !v10 then
 some (true)
 else
 (getO (Proto.Busy x0) s).bind fun v13=>if decide (v13<(0:Int)) then
 some (true)
 else
 (getO (Proto.Busy x0) s).bind fun v16=>some ((decide (x2<v16))):Option Bool).bind fun v8=>if v8 then
 some (Sum.inr (Sum.inr (false)))
 else
 some (Sum.inl (w64 (s + (1:Int))))
 else
 some (Sum.inr (Sum.inl ()))
def zeH (x0:Proto) (x4:Int) (x6:Int) (s:Int):Option (Int⊕Unit⊕Int⊕Unit⊕Bool) :=
 if decide (s<x4) then
 ((getO (Proto.State x0) x6).bind fun v14=>(getO v14 s).bind fun v15=>if decide (v15<(0:Int)) then
 some (true)
 else
 (getO (Proto.State x0) x6).bind fun v18=>(getO v18 s).bind fun v19=>some ((decide ((4:Int)<v19))):Option Bool).bind fun v13=>if v13 then
 some (Sum.inr (Sum.inr (Sum.inr (Sum.inr (false)))))
 else
 some (Sum.inl (w64 (s + (1:Int))))
 else
 some (Sum.inr (Sum.inl ()))
def zeC (x0:Proto) (x2:Int) (x4:Int) (s:Int):Option (Int⊕Unit⊕Bool) :=
 if decide (s<x2) then
 (getO (Proto.Wait x0) s).bind fun v9=>((getO (Proto.State x0) s).bind fun v11=>if !decide ((List.length v11:Int)=x4) then
 some (true)
 else
 (getO (Proto.Val x0) s).bind fun v15=>if !decide ((List.length v15:Int)=x4) then
 some (true)
 else
 if decide ((Wait.Line v9)<(0:Int)) then
 some (true)
 else
 if decide (x4<(Wait.Line v9)) then
 some (true)
 else
 if decide ((Wait.Need v9)<(0:Int)) then
 some (true)
 else
 if decide ((255:Int)<(Wait.Need v9)) then
 some (true)
 else
 if decide ((Wait.Got v9)<(0:Int)) then
 some (true)
 else
 some ((decide ((255:Int)<(Wait.Got v9)))):Option Bool).bind fun v10=>if v10 then
 some (Sum.inr (Sum.inr (false)))
 else
 zaG (zai (zeH x0 x4 s) (0:Int):Option (Unit⊕Int⊕Unit⊕Bool)) fun v11=>some (Sum.inl (w64 (s + (1:Int))))
 else
 some (Sum.inr (Sum.inl ()))
def zek (p0:Proto):Option Bool :=
 let v2:Int:=(List.length (Proto.Wait p0):Int)
 let v4:Int:=(List.length (Proto.Home p0):Int)
 (if decide (v2<(1:Int)) then
 some (true)
 else
 if decide ((4:Int)<v2) then
 some (true)
 else
 if decide (v4<(1:Int)) then
 some (true)
 else
 if decide ((16:Int)<v4) then
 some (true)
 else
 if !decide ((List.length (Proto.State p0):Int)=v2) then
 some (true)
 else
 if !decide ((List.length (Proto.Val p0):Int)=v2) then
 some (true)
 else
 if !decide ((List.length (Proto.Dir p0):Int)=v4) then
 some (true)
 else
 if !decide ((List.length (Proto.Busy p0):Int)=v4) then
 some (true)
 else
 (zfC (Proto.Pool p0)).bind fun v22=>some ((!v22)):Option Bool).bind fun v5=>if v5 then
 some (false)
 else
 zaG (zai (zeC p0 v2 v4) (0:Int):Option (Unit⊕Bool)) fun v6=>zaG (zai (zdk p0 v2 v4) (0:Int):Option (Unit⊕Bool)) fun v6=>some (true)
def zcx:FnT:=⟨[zac],[.bool],fun x=>zek x⟩
def ziQ:TA :=
 .prim (.fld 2) [.v 0]<|.prim .len [.v 1]<|.prim (.fld 3) [.v 0]<|.prim .len [.v 3]<|.sub0 [.bool] (.prim (.bin .lss) [.v 2,.c (.int .i64 1)]<|.ite (.v 5) (.jmp 0 false [.c (.bool true)]) (.prim (.bin .gtr) [.v 2,.c (.int .i64 4)]<|.ite (.v 6) (.jmp 0 false [.c (.bool true)]) (.prim (.bin .lss) [.v 4,.c (.int .i64 1)]<|.ite (.v 7) (.jmp 0 false [.c (.bool true)]) (.prim (.bin .gtr) [.v 4,.c (.int .i64 16)]<|.ite (.v 8) (.jmp 0 false [.c (.bool true)]) (.prim (.fld 0) [.v 0]<|.prim .len [.v 9]<|.prim (.bin .neq) [.v 10,.v 2]<|.ite (.v 11) (.jmp 0 false [.c (.bool true)]) (.prim (.fld 1) [.v 0]<|.prim .len [.v 12]<|.prim (.bin .neq) [.v 13,.v 2]<|.ite (.v 14) (.jmp 0 false [.c (.bool true)]) (.prim (.fld 4) [.v 0]<|.prim .len [.v 15]<|.prim (.bin .neq) [.v 16,.v 4]<|.ite (.v 17) (.jmp 0 false [.c (.bool true)]) (.prim (.fld 5) [.v 0]<|.prim .len [.v 18]<|.prim (.bin .neq) [.v 19,.v 4]<|.ite (.v 20) (.jmp 0 false [.c (.bool true)]) (.prim (.fld 6) [.v 0]<|.call 53 zcw [.v 21] 1<|.prim (.un .not) [.v 22]<|.jmp 0 false [.v 23]))))))))) 1<|.ite (.v 5) (.jmp 0 false [.c (.bool false)]) (.sub1 [] (.loop [.int .i64] [.c (.int .i64 0)] (.prim (.bin .lss) [.v 6,.v 2]<|.ite (.v 7) (.prim (.fld 2) [.v 0]<|.prim .get [.v 8,.v 6]<|.sub0 [.bool] (.prim (.fld 0) [.v 0]<|.prim .get [.v 10,.v 6]<|.prim .len [.v 11]<|.prim (.bin .neq) [.v 12,.v 4]<|.ite (.v 13) (.jmp 0 false [.c (.bool true)]) (.prim (.fld 1) [.v 0]<|.prim .get [.v 14,.v 6]<|.prim .len [.v 15]<|.prim (.bin .neq) [.v 16,.v 4]<|.ite (.v 17) (.jmp 0 false [.c (.bool true)]) (.prim (.fld 0) [.v 9]<|.prim (.bin .lss) [.v 18,.c (.int .i64 0)]<|.ite (.v 19) (.jmp 0 false [.c (.bool true)]) (.prim (.fld 0) [.v 9]<|.prim (.bin .gtr) [.v 20,.v 4]<|.ite (.v 21) (.jmp 0 false [.c (.bool true)]) (.prim (.fld 6) [.v 9]<|.prim (.bin .lss) [.v 22,.c (.int .i64 0)]<|.ite (.v 23) (.jmp 0 false [.c (.bool true)]) (.prim (.fld 6) [.v 9]<|.prim (.bin .gtr) [.v 24,.c (.int .i64 255)]<|.ite (.v 25) (.jmp 0 false [.c (.bool true)]) (.prim (.fld 7) [.v 9]<|.prim (.bin .lss) [.v 26,.c (.int .i64 0)]<|.ite (.v 27) (.jmp 0 false [.c (.bool true)]) (.prim (.fld 7) [.v 9]<|.prim (.bin .gtr) [.v 28,.c (.int .i64 255)]<|.jmp 0 false [.v 29])))))))) 1<|.ite (.v 10) (.jmp 2 false [.c (.bool false)]) (.sub1 [] (.loop [.int .i64] [.c (.int .i64 0)] (.prim (.bin .lss) [.v 11,.v 4]<|.ite (.v 12) (.sub0 [.bool] (.prim (.fld 0) [.v 0]<|.prim .get [.v 13,.v 6]<|.prim .get [.v 14,.v 11]<|.prim (.bin .lss) [.v 15,.c (.int .i64 0)]<|.ite (.v 16) (.jmp 0 false [.c (.bool true)]) (.prim (.fld 0) [.v 0]<|.prim .get [.v 17,.v 6]<|.prim .get [.v 18,.v 11]<|.prim (.bin .gtr) [.v 19,.c (.int .i64 4)]<|.jmp 0 false [.v 20])) 1<|.ite (.v 13) (.jmp 4 false [.c (.bool false)]) (.prim (.bin .add) [.v 11,.c (.int .i64 1)]<|.jmp 0 true [.v 14])) (.jmp 1 false []))) 0<|.prim (.bin .add) [.v 6,.c (.int .i64 1)]<|.jmp 0 true [.v 11])) (.jmp 1 false []))) 0<|.sub1 [] (.loop [.int .i64] [.c (.int .i64 0)] (.prim (.bin .lss) [.v 6,.v 4]<|.ite (.v 7) (.sub0 [.bool] (.prim (.fld 4) [.v 0]<|.prim .get [.v 8,.v 6]<|.call 54 zhk [.v 9,.v 2] 1<|.prim (.un .not) [.v 10]<|.ite (.v 11) (.jmp 0 false [.c (.bool true)]) (.prim (.fld 5) [.v 0]<|.prim .get [.v 12,.v 6]<|.prim (.bin .lss) [.v 13,.c (.int .i64 0)]<|.ite (.v 14) (.jmp 0 false [.c (.bool true)]) (.prim (.fld 5) [.v 0]<|.prim .get [.v 15,.v 6]<|.prim (.bin .gtr) [.v 16,.v 2]<|.jmp 0 false [.v 17]))) 1<|.ite (.v 8) (.jmp 2 false [.c (.bool false)]) (.prim (.bin .add) [.v 6,.c (.int .i64 1)]<|.jmp 0 true [.v 9])) (.jmp 1 false []))) 0<|.jmp 0 false [.c (.bool true)])
theorem znX:zad cx 12 20=some ziQ.erase:=by kernel_rfl
theorem ziJ:FnOk cx 12 noC 20 zcx:=zaB (t:=ziQ) znX (fun _=>rfl) (zaw [(53,zcw),(54,zhk)] (by kernel_rfl) (.cons zjy (.cons zs7 .nil))) (fun x=>by kernel_rfl)
def zmG:TA :=
 .subp [.bool] (.prim (.bin .lss) [.v 0,.c (.int .i64 1)]<|.ite (.v 2) (.jmp 0 false [.c (.bool true)]) (.prim (.bin .gtr) [.v 0,.c (.int .i64 4)]<|.ite (.v 3) (.jmp 0 false [.c (.bool true)]) (.prim (.bin .lss) [.v 1,.c (.int .i64 1)]<|.ite (.v 4) (.jmp 0 false [.c (.bool true)]) (.prim (.bin .gtr) [.v 1,.c (.int .i64 16)]<|.jmp 0 false [.v 5])))) 1<|.ite (.v 2) (.jmp 0 false [.c (.agg [.nil,.nil,.nil,.nil,.nil,.nil,(.agg [.nil])]),.c (.int .i64 1)]) (.primH (.rep (.agg [(.int .i64 0),(.bool false),(.bool false),(.bool false),(.bool false),(.bool false),(.int .i64 0),(.int .i64 0),(.int .u32 0)]) 40) (.sl zcg) [.v 0,.v 0]<|.primH (.rep (.int .u32 0) 4) (.sl (.int .u32)) [.v 1,.v 1]<|.primH (.rep (.int .i64 0) 8) (.sl (.int .i64)) [.v 1,.v 1]<|.sub0 [.sl (.sl (.int .i64)),.sl (.sl (.int .u32))] (.loop [.int .i64,.sl (.sl (.int .i64)),.sl (.sl (.int .u32))] [.c (.int .i64 0),.c .nil,.c .nil] (.prim (.bin .lss) [.v 6,.v 0]<|.ite (.v 9) (.primH (.rep (.int .i64 0) 8) (.sl (.int .i64)) [.v 1,.v 1]<|.mkL (.sl (.int .i64)) [.v 10]<|.prim (.app 24) [.v 7,.v 11]<|.primH (.rep (.int .u32 0) 4) (.sl (.int .u32)) [.v 1,.v 1]<|.mkL (.sl (.int .u32)) [.v 13]<|.prim (.app 24) [.v 8,.v 14]<|.prim (.bin .add) [.v 6,.c (.int .i64 1)]<|.jmp 0 true [.v 16,.v 12,.v 15]) (.jmp 1 false [.v 7,.v 8]))) 2<|.sub0 [.sl zas] (.loop [.int .i64,.sl zas] [.c (.int .i64 0),.c .nil] (.prim (.bin .lss) [.v 8,.v 1]<|.ite (.v 10) (.call 55 zug [.v 0] 2<|.mkL zas [.v 11]<|.prim (.app 32) [.v 9,.v 13]<|.prim (.bin .add) [.v 8,.c (.int .i64 1)]<|.jmp 0 true [.v 15,.v 14]) (.jmp 1 false [.v 9]))) 1<|.mkS za8 [.v 6,.v 7,.v 3,.v 4,.v 8,.v 5,.c (.agg [.nil])]<|.jmp 0 false [.v 9,.c (.int .i64 0)])
theorem ztu:zad cx 12 21=some zmG.erase:=by kernel_rfl
def zeQ (p0:Proto):Option Bool :=
 let v2:Int:=(List.length (Proto.Wait p0):Int)
 let v4:Int:=(List.length (Proto.Home p0):Int)
 if (decide (v2<(1:Int)))||((decide ((4:Int)<v2))||((decide (v4<(1:Int)))||(decide ((16:Int)<v4)))) then
 some (false)
 else
 ((zdb (Proto.State p0) v2 v4).bind fun v7=>if v7 then
 (zc0 (Proto.Val p0) v2 v4).bind fun v9=>if v9 then
 if decide ((List.length (Proto.Dir p0):Int)=v4) then
 some ((decide ((List.length (Proto.Busy p0):Int)=v4)))
 else
 some (false)
 else
 some (false)
 else
 some (false):Option Bool).bind fun v6=>some (v6)
def ze1:FnT:=⟨[zac],[.bool],fun x=>zeQ x⟩
def ze2:TA :=
 .prim (.fld 2) [.v 0]<|.prim .len [.v 1]<|.prim (.fld 3) [.v 0]<|.prim .len [.v 3]<|.subp [.bool] (.prim (.bin .lss) [.v 2,.c (.int .i64 1)]<|.ite (.v 5) (.jmp 0 false [.c (.bool true)]) (.prim (.bin .gtr) [.v 2,.c (.int .i64 4)]<|.ite (.v 6) (.jmp 0 false [.c (.bool true)]) (.prim (.bin .lss) [.v 4,.c (.int .i64 1)]<|.ite (.v 7) (.jmp 0 false [.c (.bool true)]) (.prim (.bin .gtr) [.v 4,.c (.int .i64 16)]<|.jmp 0 false [.v 8])))) 1<|.ite (.v 5) (.jmp 0 false [.c (.bool false)]) (.sub0 [.bool] (.prim (.fld 0) [.v 0]<|.call 82 zdA [.v 6,.v 2,.v 4] 1<|.ite (.v 7) (.prim (.fld 1) [.v 0]<|.call 83 zcp [.v 8,.v 2,.v 4] 1<|.ite (.v 9) (.prim (.fld 4) [.v 0]<|.prim .len [.v 10]<|.prim (.bin .eql) [.v 11,.v 4]<|.ite (.v 12) (.prim (.fld 5) [.v 0]<|.prim .len [.v 13]<|.prim (.bin .eql) [.v 14,.v 4]<|.jmp 0 false [.v 15]) (.jmp 0 false [.c (.bool false)])) (.jmp 0 false [.c (.bool false)])) (.jmp 0 false [.c (.bool false)])) 1<|.jmp 0 false [.v 6])
theorem zil:zad cx 12 47=some ze2.erase:=by kernel_rfl
theorem zoM:FnOk cx 12 noC 47 ze1:=zaB (t:=ze2) zil (fun _=>rfl) (zaw [(82,zdA),(83,zcp)] (by kernel_rfl) (.cons zmf (.cons ziV .nil))) (fun x=>by kernel_rfl)
def zdP (x4:List (List Int)) (x5:Int) (s:Int):Option (Int⊕Unit⊕Int) :=
 if decide (s<x5) then
 (getO x4 s).bind fun v8=>if zht v8 then
 some (Sum.inr (Sum.inr (s)))
 else
 some (Sum.inl (w64 (s + (1:Int))))
 else
 some (Sum.inr (Sum.inl ()))
def zcR (p0:Pool):Option Bool :=
 (if decide ((List.length (Pool.Frames p0):Int)≤(64:Int)) then
 ((let v5:Int:=(List.length (Pool.Frames p0):Int)
 zaG (zai (zdP (Pool.Frames p0) v5) (0:Int):Option (Unit⊕Int)) fun v6=>some ((-1:Int)):Option Int).bind fun v5=>some ((decide ((0:Int)≤v5))):Option Bool).bind fun v5=>some ((!v5))
 else
 some (false):Option Bool).bind fun v1=>some (v1)
def zbi:FnT:=⟨[zaI],[.bool],fun x=>zcR x⟩
def zhc:TA :=
 .sub0 [.bool] (.prim (.fld 0) [.v 0]<|.prim .len [.v 1]<|.prim (.bin .leq) [.v 2,.c (.int .i64 64)]<|.ite (.v 3) (.prim (.fld 0) [.v 0]<|.sub0 [.bool] (.sub0 [.int .i64] (.prim .len [.v 4]<|.sub1 [] (.loop [.int .i64] [.c (.int .i64 0)] (.prim (.bin .lss) [.v 6,.v 5]<|.ite (.v 7) (.prim .get [.v 4,.v 6]<|.callp 85 zeW [.v 8] 1<|.ite (.v 9) (.jmp 2 false [.v 6]) (.prim (.bin .add) [.v 6,.c (.int .i64 1)]<|.jmp 0 true [.v 10])) (.jmp 1 false []))) 0<|.jmp 0 false [.c (.int .i64 (-1))]) 1<|.prim (.bin .geq) [.v 5,.c (.int .i64 0)]<|.jmp 0 false [.v 6]) 1<|.prim (.un .not) [.v 5]<|.jmp 0 false [.v 6]) (.jmp 0 false [.c (.bool false)])) 1<|.jmp 0 false [.v 1]
theorem zl2:zad cx 12 48=some zhc.erase:=by kernel_rfl
theorem zeD:FnOk cx 12 noC 48 zbi:=zaB (t:=zhc) zl2 (fun _=>rfl) (zaw [(85,zeW.fn)] (by kernel_rfl) (.cons zoS .nil)) (fun x=>by kernel_rfl)
def zdO (p0:Int):Bool :=
 !(zau p0 (5:Int))
def zef:PnT:=⟨[.int .i64],[.bool],fun x=>zdO x⟩
def zd9:TA :=
 .callp 49 zav [.v 0,.c (.int .i64 5)] 1<|.prim (.un .not) [.v 1]<|.jmp 0 false [.v 2]
theorem zhd:zad cx 12 51=some zd9.erase:=by kernel_rfl
theorem zoo:FnOk cx 12 noC 51 zef.fn:=ztg (t:=zd9) zhd (fun _=>rfl) (zaw [(49,zav.fn)] (by kernel_rfl) (.cons zbj .nil)) (fun x=>by kernel_rfl)
def zhz (p0:Pool) (p1:Int):Option Int :=
 (zfC p0).bind fun v2=>if !v2 then
 some ((1:Int))
 else
 if (decide (p1<(0:Int)))||(decide ((List.length (Pool.Frames p0):Int)≤p1)) then
 some ((7:Int))
 else
 some ((0:Int))
def zee:FnT:=⟨[zaI,.int .i64],[.int .i64],fun x=>zhz x.1 x.2⟩
def zi4:TA :=
 .call 53 zcw [.v 0] 1<|.prim (.un .not) [.v 2]<|.ite (.v 3) (.jmp 0 false [.c (.int .i64 1)]) (.subp [.bool] (.prim (.bin .lss) [.v 1,.c (.int .i64 0)]<|.ite (.v 4) (.jmp 0 false [.c (.bool true)]) (.prim (.fld 0) [.v 0]<|.prim .len [.v 5]<|.prim (.bin .geq) [.v 1,.v 6]<|.jmp 0 false [.v 7])) 1<|.ite (.v 4) (.jmp 0 false [.c (.int .i64 7)]) (.jmp 0 false [.c (.int .i64 0)]))
theorem zn3:zad cx 12 72=some zi4.erase:=by kernel_rfl
theorem zn4:FnOk cx 12 noC 72 zee:=zaB (t:=zi4) zn3 (fun _=>rfl) (zaw [(53,zcw)] (by kernel_rfl) (.cons zjy .nil)) (fun x=>by kernel_rfl)
def zmv (p0:List Int):Option (Msg×Int) :=
 if decide ((List.length p0:Int)<(19:Int)) then
 some (((Msg.mk (0:Int) (0:Int) (0:Int) (0:Int) (0:Int) (0:Int) false (0:Int) (0:Int)),(3:Int)))
 else
 if decide ((19:Int)<(List.length p0:Int)) then
 some (((Msg.mk (0:Int) (0:Int) (0:Int) (0:Int) (0:Int) (0:Int) false (0:Int) (0:Int)),(4:Int)))
 else
 (subO p0 (0:Int) (15:Int)).bind fun v6=>(zln v6).bind fun v7=>(zev v7).bind fun v8=>(b2sO v8).bind fun v9=>(subO p0 (15:Int) (List.length p0:Int)).bind fun v11=>(b2sO v11).bind fun v12=>if !decide (v9=v12) then
 some (((Msg.mk (0:Int) (0:Int) (0:Int) (0:Int) (0:Int) (0:Int) false (0:Int) (0:Int)),(5:Int)))
 else
 ((getO p0 (0:Int)).bind fun v14=>if decide (v14=(0:Int)) then
 some (true)
 else
 (getO p0 (0:Int)).bind fun v16=>if decide ((11:Int)<v16) then
 some (true)
 else
 (getO p0 (6:Int)).bind fun v18=>some ((decide ((1:Int)<v18))):Option Bool).bind fun v14=>if v14 then
 some (((Msg.mk (0:Int) (0:Int) (0:Int) (0:Int) (0:Int) (0:Int) false (0:Int) (0:Int)),(2:Int)))
 else
 (getO p0 (0:Int)).bind fun v15=>(getO p0 (1:Int)).bind fun v17=>(getO p0 (2:Int)).bind fun v19=>(getO p0 (3:Int)).bind fun v21=>(getO p0 (4:Int)).bind fun v23=>(getO p0 (5:Int)).bind fun v25=>(getO p0 (6:Int)).bind fun v27=>(subO p0 (7:Int) (11:Int)).bind fun v30=>(zrS v30).bind fun v31=>(subO p0 (11:Int) (15:Int)).bind fun v33=>(zrS v33).bind fun v34=>some ((Msg.mk (w64 v15) (w64 v17) (w64 v19) (w64 v21) (w64 v23) (w64 v25) (decide (v27=(1:Int))) v31 v34,(0:Int)))
def zlf:FnT:=⟨[.sl (.int .u8)],[tMsg,.int .i64],fun x=>zmv x⟩
def zlt:TA :=
 .prim .len [.v 0]<|.prim (.bin .lss) [.v 1,.c (.int .i64 19)]<|.ite (.v 2) (.jmp 0 false [.c (.agg [(.int .i64 0),(.int .i64 0),(.int .i64 0),(.int .i64 0),(.int .i64 0),(.int .i64 0),(.bool false),(.int .u32 0),(.int .u32 0)]),.c (.int .i64 3)]) (.prim .len [.v 0]<|.prim (.bin .gtr) [.v 3,.c (.int .i64 19)]<|.ite (.v 4) (.jmp 0 false [.c (.agg [(.int .i64 0),(.int .i64 0),(.int .i64 0),(.int .i64 0),(.int .i64 0),(.int .i64 0),(.bool false),(.int .u32 0),(.int .u32 0)]),.c (.int .i64 4)]) (.prim .len [.v 0]<|.prim .sub [.v 0,.c (.int .i64 0),.c (.int .i64 15)]<|.call 103 zha [.v 6] 1<|.call 102 zbu [.v 7] 1<|.prim .b2s [.v 8]<|.prim .len [.v 0]<|.prim .sub [.v 0,.c (.int .i64 15),.v 10]<|.prim .b2s [.v 11]<|.prim (.bin .neq) [.v 9,.v 12]<|.ite (.v 13) (.jmp 0 false [.c (.agg [(.int .i64 0),(.int .i64 0),(.int .i64 0),(.int .i64 0),(.int .i64 0),(.int .i64 0),(.bool false),(.int .u32 0),(.int .u32 0)]),.c (.int .i64 5)]) (.sub0 [.bool] (.prim .get [.v 0,.c (.int .i64 0)]<|.prim (.bin .eql) [.v 14,.c (.int .u8 0)]<|.ite (.v 15) (.jmp 0 false [.c (.bool true)]) (.prim .get [.v 0,.c (.int .i64 0)]<|.prim (.bin .gtr) [.v 16,.c (.int .u8 11)]<|.ite (.v 17) (.jmp 0 false [.c (.bool true)]) (.prim .get [.v 0,.c (.int .i64 6)]<|.prim (.bin .gtr) [.v 18,.c (.int .u8 1)]<|.jmp 0 false [.v 19]))) 1<|.ite (.v 14) (.jmp 0 false [.c (.agg [(.int .i64 0),(.int .i64 0),(.int .i64 0),(.int .i64 0),(.int .i64 0),(.int .i64 0),(.bool false),(.int .u32 0),(.int .u32 0)]),.c (.int .i64 2)]) (.prim .get [.v 0,.c (.int .i64 0)]<|.prim (.conv .i64) [.v 15]<|.prim .get [.v 0,.c (.int .i64 1)]<|.prim (.conv .i64) [.v 17]<|.prim .get [.v 0,.c (.int .i64 2)]<|.prim (.conv .i64) [.v 19]<|.prim .get [.v 0,.c (.int .i64 3)]<|.prim (.conv .i64) [.v 21]<|.prim .get [.v 0,.c (.int .i64 4)]<|.prim (.conv .i64) [.v 23]<|.prim .get [.v 0,.c (.int .i64 5)]<|.prim (.conv .i64) [.v 25]<|.prim .get [.v 0,.c (.int .i64 6)]<|.prim (.bin .eql) [.v 27,.c (.int .u8 1)]<|.prim .len [.v 0]<|.prim .sub [.v 0,.c (.int .i64 7),.c (.int .i64 11)]<|.call 104 zkw [.v 30] 1<|.prim .len [.v 0]<|.prim .sub [.v 0,.c (.int .i64 11),.c (.int .i64 15)]<|.call 104 zkw [.v 33] 1<|.mkS zcv [.v 16,.v 18,.v 20,.v 22,.v 24,.v 26,.v 28,.v 31,.v 34]<|.jmp 0 false [.v 35,.c (.int .i64 0)]))))
theorem zph:zad cx 12 74=some zlt.erase:=by kernel_rfl
theorem zwf:FnOk cx 12 noC 74 zlf:=zaB (t:=zlt) zph (fun _=>rfl) (zaw [(103,zha),(102,zbu),(104,zkw),(104,zkw)] (by kernel_rfl) (.cons zsX (.cons zgv (.cons zuB (.cons zuB .nil))))) (fun x=>by kernel_rfl)
def zeM (x20:List (List Int)) (x25:Int) (s:(Int×Int×(List Int))):Option ((Int×Int×(List Int))⊕(Int×(List Int))) :=
 if decide (s.2.1<x25) then
 (idxO (List.length x20:Int) s.2.1).bind fun v30=>(getO x20 v30).bind fun v31=>(zqY 1 s.2.2 s.1 v31).bind fun v32=>some (Sum.inl (s.1 + (List.length v31:Int),w64 (s.2.1 + (1:Int)),v32))
 else
 some (Sum.inr ((s.1,s.2.2)))
def zey (x20:List (List Int)) (x21:Int) (s:(Int×Int)):Option ((Int×Int)⊕Int) :=
 if decide (s.2<x21) then
 (idxO (List.length x20:Int) s.2).bind fun v25=>(getO x20 v25).bind fun v26=>let v28:Int:=w64 (s.1 + (List.length v26:Int))
 if decide (v28<(0:Int)) then
 none
 else
 some (Sum.inl (v28,w64 (s.2 + (1:Int))))
 else
 some (Sum.inr (s.1))
def zfv (p0:Msg):Option (List Int) :=
 (zdT (Msg.Num p0)).bind fun v17=>(zdT (Msg.Val p0)).bind fun v19=>let v20:List (List Int):=([([wu8 (Msg.Kind p0),wu8 (Msg.From p0),wu8 (Msg.To p0),wu8 (Msg.Line p0),wu8 (Msg.For p0),wu8 (Msg.Acks p0),bif Msg.Own p0 then (1:Int) else (0:Int)]:List Int),v17,v19]:List (List Int))
 (let v21:Int:=(List.length v20:Int)
 (zai (zey v20 v21) ((0:Int),(0:Int)):Option Int).bind fun v22=>(if decide (v22<(0:Int)) then
 none
 else
 let v24:Int:=w64 (v22 - (0:Int))
 (if decide ((0:Int)<v24) then
 (zv2 (0:Int) 1 ([]:List Int) v24).bind fun v26=>(rngO (List.length v26:Int) (0:Int) (0:Int)).bind fun v28=>some ((v28,v26))
 else
 some (((0:Int),([]:List Int))):Option (Int×(List Int))).bind fun v26=>some ((v26.1,v26.2)):Option (Int×(List Int))).bind fun v23=>let v25:Int:=(List.length v20:Int)
 (zai (zeM v20 v25) (v23.1,(0:Int),v23.2):Option (Int×(List Int))).bind fun v26=>some ((v26.1,v26.2)):Option (Int×(List Int))).bind fun v21=>(subO v21.2 (0:Int) v21.1).bind fun v23=>(zeq v23).bind fun v24=>(zdT v24).bind fun v25=>(zqY 1 v21.2 v21.1 v25).bind fun v26=>(subO v26 (0:Int) (v21.1 + (List.length v25:Int))).bind fun v29=>some (v29)
def zeg:FnT:=⟨[tMsg],[.sl (.int .u8)],fun x=>zfv x⟩
def ziM:TA :=
 .prim (.fld 6) [.v 0]<|.subp [.int .u8] (.ite (.v 1) (.jmp 0 false [.c (.int .u8 1)]) (.jmp 0 false [.c (.int .u8 0)])) 1<|.prim (.fld 0) [.v 0]<|.prim (.conv .u8) [.v 3]<|.prim (.fld 1) [.v 0]<|.prim (.conv .u8) [.v 5]<|.prim (.fld 2) [.v 0]<|.prim (.conv .u8) [.v 7]<|.prim (.fld 3) [.v 0]<|.prim (.conv .u8) [.v 9]<|.prim (.fld 4) [.v 0]<|.prim (.conv .u8) [.v 11]<|.prim (.fld 5) [.v 0]<|.prim (.conv .u8) [.v 13]<|.mkL (.int .u8) [.v 4,.v 6,.v 8,.v 10,.v 12,.v 14,.v 2]<|.prim (.fld 7) [.v 0]<|.call 119 zbP [.v 16] 1<|.prim (.fld 8) [.v 0]<|.call 119 zbP [.v 18] 1<|.mkL (.sl (.int .u8)) [.v 15,.v 17,.v 19]<|.sub0 [.int .i64,.sl (.int .u8)] (.prim .len [.v 20]<|.sub0 [.int .i64] (.loop [.int .i64,.int .i64] [.c (.int .i64 0),.c (.int .i64 0)] (.prim (.bin .lss) [.v 23,.v 21]<|.ite (.v 24) (.prim .idx [.v 20,.v 23]<|.prim .get [.v 20,.v 25]<|.prim .len [.v 26]<|.prim (.bin .add) [.v 22,.v 27]<|.prim (.bin .lss) [.v 28,.c (.int .i64 0)]<|.ite (.v 29) (.fail 153) (.prim (.bin .add) [.v 23,.c (.int .i64 1)]<|.jmp 0 true [.v 28,.v 30])) (.jmp 1 false [.v 22]))) 1<|.sub0 [.int .i64,.sl (.int .u8)] (.prim (.bin .lss) [.v 22,.c (.int .i64 0)]<|.ite (.v 23) (.fail 153) (.prim (.bin .sub) [.v 22,.c (.int .i64 0)]<|.prim (.bin .gtr) [.v 24,.c (.int .i64 0)]<|.sub0 [.int .i64,.sl (.int .u8)] (.ite (.v 25) (.primH (.zext (.int .u8 0) 1) (.sl (.int .u8)) [.c .nil,.v 24]<|.prim .len [.v 26]<|.prim .rng [.v 26,.c (.int .i64 0),.c (.int .i64 0)]<|.jmp 0 false [.v 28,.v 26]) (.jmp 0 false [.c (.int .i64 0),.c .nil])) 2<|.jmp 0 false [.v 26,.v 27])) 2<|.prim .len [.v 20]<|.sub0 [.int .i64,.sl (.int .u8)] (.loop [.int .i64,.int .i64,.sl (.int .u8)] [.v 23,.c (.int .i64 0),.v 24] (.prim (.bin .lss) [.v 27,.v 25]<|.ite (.v 29) (.prim .idx [.v 20,.v 27]<|.prim .get [.v 20,.v 30]<|.prim (.appv 1) [.v 28,.v 26,.v 31]<|.prim .len [.v 31]<|.prim .vadd [.v 26,.v 33]<|.prim (.bin .add) [.v 27,.c (.int .i64 1)]<|.jmp 0 true [.v 34,.v 35,.v 32]) (.jmp 1 false [.v 26,.v 28]))) 2<|.jmp 0 false [.v 26,.v 27]) 2<|.prim .sub [.v 22,.c (.int .i64 0),.v 21]<|.call 92 zen [.v 23] 1<|.call 119 zbP [.v 24] 1<|.prim (.appv 1) [.v 22,.v 21,.v 25]<|.prim .len [.v 25]<|.prim .vadd [.v 21,.v 27]<|.prim .sub [.v 26,.c (.int .i64 0),.v 28]<|.jmp 0 false [.v 29]
theorem zny:zad cx 12 95=some ziM.erase:=by kernel_rfl
theorem zn7:FnOk cx 12 noC 95 zeg:=zaB (t:=ziM) zny (fun _=>rfl) (zaw [(119,zbP),(119,zbP),(92,zen),(119,zbP)] (by kernel_rfl) (.cons zg0 (.cons zg0 (.cons znz (.cons zg0 .nil))))) (fun x=>by kernel_rfl)
def zfA (p0:Entry) (p1:Int):Option Bool :=
 ((zfr p0 (List.length (Entry.Share p0):Int)).bind fun v4=>if v4 then
 if decide ((0:Int)≤p1) then
 some ((decide (p1<(List.length (Entry.Share p0):Int))))
 else
 some (false)
 else
 some (false):Option Bool).bind fun v2=>some (v2)
def zct:FnT:=⟨[zas,.int .i64],[.bool],fun x=>zfA x.1 x.2⟩
def ziw:TA :=
 .sub0 [.bool] (.prim (.fld 1) [.v 0]<|.prim .len [.v 2]<|.call 52 zco [.v 0,.v 3] 1<|.ite (.v 4) (.prim (.bin .geq) [.v 1,.c (.int .i64 0)]<|.ite (.v 5) (.prim (.fld 1) [.v 0]<|.prim .len [.v 6]<|.prim (.bin .lss) [.v 1,.v 7]<|.jmp 0 false [.v 8]) (.jmp 0 false [.c (.bool false)])) (.jmp 0 false [.c (.bool false)])) 1<|.jmp 0 false [.v 2]
theorem znj:zad cx 12 101=some ziw.erase:=by kernel_rfl
theorem ziL:FnOk cx 12 noC 101 zct:=zaB (t:=ziw) znj (fun _=>rfl) (zaw [(52,zco)] (by kernel_rfl) (.cons ziW .nil)) (fun x=>by kernel_rfl)
def zkN (p0:Entry) (p1:Int):Option Bool :=
 ((znM p0 (List.length (Entry.Share p0):Int)).bind fun v4=>if v4 then
 if decide ((0:Int)≤p1) then
 some ((decide (p1<(List.length (Entry.Share p0):Int))))
 else
 some (false)
 else
 some (false):Option Bool).bind fun v2=>some (v2)
def zd5:FnT:=⟨[zas,.int .i64],[.bool],fun x=>zkN x.1 x.2⟩
def zne:TA :=
 .sub0 [.bool] (.prim (.fld 1) [.v 0]<|.prim .len [.v 2]<|.call 54 zhk [.v 0,.v 3] 1<|.ite (.v 4) (.prim (.bin .geq) [.v 1,.c (.int .i64 0)]<|.ite (.v 5) (.prim (.fld 1) [.v 0]<|.prim .len [.v 6]<|.prim (.bin .lss) [.v 1,.v 7]<|.jmp 0 false [.v 8]) (.jmp 0 false [.c (.bool false)])) (.jmp 0 false [.c (.bool false)])) 1<|.jmp 0 false [.v 2]
theorem zsw:zad cx 12 109=some zne.erase:=by kernel_rfl
theorem zna:FnOk cx 12 noC 109 zd5:=zaB (t:=zne) zsw (fun _=>rfl) (zaw [(54,zhk)] (by kernel_rfl) (.cons zs7 .nil)) (fun x=>by kernel_rfl)
def zix (p0:Int):Bool :=
 !(zaa p0)
def zfR:PnT:=⟨[.int .i64],[.bool],fun x=>zix x⟩
def zgy:TA :=
 .callp 117 zfb [.v 0] 1<|.prim (.un .not) [.v 1]<|.jmp 0 false [.v 2]
theorem zko:zad cx 12 116=some zgy.erase:=by kernel_rfl
theorem zq8:FnOk cx 12 noC 116 zfR.fn:=ztg (t:=zgy) zko (fun _=>rfl) (zaw [(117,zfb.fn)] (by kernel_rfl) (.cons zoX .nil)) (fun x=>by kernel_rfl)
def zaW (p0:List Bool) (p1:Bool):Option Bool :=
 (zaR p0 p1).bind fun v2=>some ((decide ((0:Int)≤v2)))
def zba:FnT:=⟨[.sl .bool,.bool],[.bool],fun x=>zaW x.1 x.2⟩
def za9:TA :=
 .call 130 zbl [.v 0,.v 1] 1<|.prim (.bin .geq) [.v 2,.c (.int .i64 0)]<|.jmp 0 false [.v 3]
theorem zbQ:zad cx 12 123=some za9.erase:=by kernel_rfl
theorem zd2:FnOk cx 12 noC 123 zba:=zaB (t:=za9) zbQ (fun _=>rfl) (zaw [(130,zbl)] (by kernel_rfl) (.cons zfs .nil)) (fun x=>by kernel_rfl)
def zlz (p0:Msg):Option ((List Int)×Int) :=
 (zqV p0).bind fun v1=>if !v1 then
 some ((([]:List Int),(1:Int)))
 else
 let v15:List Int:=([wu8 (Msg.Kind p0),wu8 (Msg.From p0),wu8 (Msg.To p0),wu8 (Msg.Line p0),wu8 (Msg.For p0),wu8 (Msg.Acks p0),(0:Int)]:List Int)
 (if Msg.Own p0 then
 (idxO (List.length v15:Int) (6:Int)).bind fun v17=>(setO v15 v17 (1:Int)).bind fun v18=>some (v18)
 else
 some (v15):Option (List Int)).bind fun v17=>(zev (Msg.Num p0)).bind fun v19=>(appO 1 v17 v19).bind fun v20=>(zev (Msg.Val p0)).bind fun v22=>(appO 1 v20 v22).bind fun v23=>(zln v23).bind fun v24=>(zev v24).bind fun v25=>(appO 1 v23 v25).bind fun v26=>some ((v26,(0:Int)))
def zon:FnT:=⟨[tMsg],[.sl (.int .u8),.int .i64],fun x=>zlz x⟩
def zoB:TA :=
 .call 131 znP [.v 0] 1<|.prim (.un .not) [.v 1]<|.ite (.v 2) (.jmp 0 false [.c .nil,.c (.int .i64 1)]) (.prim (.fld 0) [.v 0]<|.prim (.conv .u8) [.v 3]<|.prim (.fld 1) [.v 0]<|.prim (.conv .u8) [.v 5]<|.prim (.fld 2) [.v 0]<|.prim (.conv .u8) [.v 7]<|.prim (.fld 3) [.v 0]<|.prim (.conv .u8) [.v 9]<|.prim (.fld 4) [.v 0]<|.prim (.conv .u8) [.v 11]<|.prim (.fld 5) [.v 0]<|.prim (.conv .u8) [.v 13]<|.mkL (.int .u8) [.v 4,.v 6,.v 8,.v 10,.v 12,.v 14,.c (.int .u8 0)]<|.prim (.fld 6) [.v 0]<|.sub0 [.sl (.int .u8)] (.ite (.v 16) (.prim .idx [.v 15,.c (.int .i64 6)]<|.prim .set [.v 15,.v 17,.c (.int .u8 1)]<|.jmp 0 false [.v 18]) (.jmp 0 false [.v 15])) 1<|.prim (.fld 7) [.v 0]<|.call 102 zbu [.v 18] 1<|.prim (.app 1) [.v 17,.v 19]<|.prim (.fld 8) [.v 0]<|.call 102 zbu [.v 21] 1<|.prim (.app 1) [.v 20,.v 22]<|.call 103 zha [.v 23] 1<|.call 102 zbu [.v 24] 1<|.prim (.app 1) [.v 23,.v 25]<|.jmp 0 false [.v 26,.c (.int .i64 0)])
theorem zsM:zad cx 12 125=some zoB.erase:=by kernel_rfl
theorem zxs:FnOk cx 12 noC 125 zon:=zaB (t:=zoB) zsM (fun _=>rfl) (zaw [(131,znP),(102,zbu),(102,zbu),(103,zha),(102,zbu)] (by kernel_rfl) (.cons zxq (.cons zgv (.cons zgv (.cons zsX (.cons zgv .nil)))))) (fun x=>by kernel_rfl)
def zch (x0:Proto) (x3:Int) (x8:List Entry) (x9:Int) (s:Int):Option (Int⊕Unit⊕Bool) :=
 if decide (s<x9) then
 (getO x8 s).bind fun v12=>((zfr v12 x3).bind fun v13=>if !v13 then
 some (true)
 else
 (getO (Proto.Busy x0) s).bind fun v16=>some ((!(zau v16 (w64 (x3 + (1:Int)))))):Option Bool).bind fun v13=>if v13 then
 some (Sum.inr (Sum.inr (false)))
 else
 some (Sum.inl (w64 (s + (1:Int))))
 else
 some (Sum.inr (Sum.inl ()))
def zc9 (x13:List Int) (x14:Int) (s:Int):Option (Int⊕Unit⊕Int) :=
 if decide (s<x14) then
 (getO x13 s).bind fun v17=>if zdO v17 then
 some (Sum.inr (Sum.inr (s)))
 else
 some (Sum.inl (w64 (s + (1:Int))))
 else
 some (Sum.inr (Sum.inl ()))
def zc6 (x0:Proto) (x5:Int) (x6:List Wait) (x7:Int) (s:Int):Option (Int⊕Unit⊕Bool) :=
 if decide (s<x7) then
 (getO x6 s).bind fun v10=>if (!(zau (Wait.Line v10) (w64 (x5 + (1:Int)))))||((!(zau (Wait.Need v10) (256:Int)))||(!(zau (Wait.Got v10) (256:Int)))) then
 some (Sum.inr (Sum.inr (false)))
 else
 (getO (Proto.State x0) s).bind fun v13=>((let v14:Int:=(List.length v13:Int)
 zaG (zai (zc9 v13 v14) (0:Int):Option (Unit⊕Int)) fun v15=>some ((-1:Int)):Option Int).bind fun v14=>some ((decide ((0:Int)≤v14))):Option Bool).bind fun v14=>if v14 then
 some (Sum.inr (Sum.inr (false)))
 else
 some (Sum.inl (w64 (s + (1:Int))))
 else
 some (Sum.inr (Sum.inl ()))
def zcs (p0:Proto):Option Bool :=
 ((zeQ p0).bind fun v1=>if !v1 then
 some (true)
 else
 (zcR (Proto.Pool p0)).bind fun v4=>some ((!v4)):Option Bool).bind fun v1=>if v1 then
 some (false)
 else
 let v3:Int:=(List.length (Proto.Wait p0):Int)
 let v5:Int:=(List.length (Proto.Home p0):Int)
 let v7:Int:=(List.length (Proto.Wait p0):Int)
 zaG (zai (zc6 p0 v5 (Proto.Wait p0) v7) (0:Int):Option (Unit⊕Bool)) fun v8=>let v9:Int:=(List.length (Proto.Dir p0):Int)
 zaG (zai (zch p0 v3 (Proto.Dir p0) v9) (0:Int):Option (Unit⊕Bool)) fun v10=>some (true)
def zbw:FnT:=⟨[zac],[.bool],fun x=>zcs x⟩
def zf3:TA :=
 .sub0 [.bool] (.call 47 ze1 [.v 0] 1<|.prim (.un .not) [.v 1]<|.ite (.v 2) (.jmp 0 false [.c (.bool true)]) (.prim (.fld 6) [.v 0]<|.call 48 zbi [.v 3] 1<|.prim (.un .not) [.v 4]<|.jmp 0 false [.v 5])) 1<|.ite (.v 1) (.jmp 0 false [.c (.bool false)]) (.prim (.fld 2) [.v 0]<|.prim .len [.v 2]<|.prim (.fld 3) [.v 0]<|.prim .len [.v 4]<|.prim (.fld 2) [.v 0]<|.prim .len [.v 6]<|.sub1 [] (.loop [.int .i64] [.c (.int .i64 0)] (.prim (.bin .lss) [.v 8,.v 7]<|.ite (.v 9) (.prim .get [.v 6,.v 8]<|.subp [.bool] (.prim (.fld 0) [.v 10]<|.prim (.bin .add) [.v 5,.c (.int .i64 1)]<|.callp 49 zav [.v 11,.v 12] 1<|.prim (.un .not) [.v 13]<|.ite (.v 14) (.jmp 0 false [.c (.bool true)]) (.prim (.fld 6) [.v 10]<|.callp 49 zav [.v 15,.c (.int .i64 256)] 1<|.prim (.un .not) [.v 16]<|.ite (.v 17) (.jmp 0 false [.c (.bool true)]) (.prim (.fld 7) [.v 10]<|.callp 49 zav [.v 18,.c (.int .i64 256)] 1<|.prim (.un .not) [.v 19]<|.jmp 0 false [.v 20]))) 1<|.ite (.v 11) (.jmp 2 false [.c (.bool false)]) (.prim (.fld 0) [.v 0]<|.prim .get [.v 12,.v 8]<|.sub0 [.bool] (.sub0 [.int .i64] (.prim .len [.v 13]<|.sub1 [] (.loop [.int .i64] [.c (.int .i64 0)] (.prim (.bin .lss) [.v 15,.v 14]<|.ite (.v 16) (.prim .get [.v 13,.v 15]<|.callp 51 zef [.v 17] 1<|.ite (.v 18) (.jmp 2 false [.v 15]) (.prim (.bin .add) [.v 15,.c (.int .i64 1)]<|.jmp 0 true [.v 19])) (.jmp 1 false []))) 0<|.jmp 0 false [.c (.int .i64 (-1))]) 1<|.prim (.bin .geq) [.v 14,.c (.int .i64 0)]<|.jmp 0 false [.v 15]) 1<|.ite (.v 14) (.jmp 2 false [.c (.bool false)]) (.prim (.bin .add) [.v 8,.c (.int .i64 1)]<|.jmp 0 true [.v 15]))) (.jmp 1 false []))) 0<|.prim (.fld 4) [.v 0]<|.prim .len [.v 8]<|.sub1 [] (.loop [.int .i64] [.c (.int .i64 0)] (.prim (.bin .lss) [.v 10,.v 9]<|.ite (.v 11) (.prim .get [.v 8,.v 10]<|.sub0 [.bool] (.call 52 zco [.v 12,.v 3] 1<|.prim (.un .not) [.v 13]<|.ite (.v 14) (.jmp 0 false [.c (.bool true)]) (.prim (.fld 5) [.v 0]<|.prim .get [.v 15,.v 10]<|.prim (.bin .add) [.v 3,.c (.int .i64 1)]<|.callp 49 zav [.v 16,.v 17] 1<|.prim (.un .not) [.v 18]<|.jmp 0 false [.v 19])) 1<|.ite (.v 13) (.jmp 2 false [.c (.bool false)]) (.prim (.bin .add) [.v 10,.c (.int .i64 1)]<|.jmp 0 true [.v 14])) (.jmp 1 false []))) 0<|.jmp 0 false [.c (.bool true)])
theorem zj9:zad cx 12 19=some zf3.erase:=by kernel_rfl
theorem zgu:FnOk cx 12 noC 19 zbw:=zaB (t:=zf3) zj9 (fun _=>rfl) (zaw [(47,ze1),(48,zbi),(49,zav.fn),(49,zav.fn),(49,zav.fn),(51,zef.fn),(52,zco),(49,zav.fn)] (by kernel_rfl) (.cons zoM (.cons zeD (.cons zbj (.cons zbj (.cons zbj (.cons zoo (.cons ziW (.cons zbj .nil))))))))) (fun x=>by kernel_rfl)
def zcN (p0:Pool):Option Int :=
 (zcR p0).bind fun v1=>if !v1 then
 some ((0:Int))
 else
 some ((w64 ((64:Int) - (List.length (Pool.Frames p0):Int))))
def zby:FnT:=⟨[zaI],[.int .i64],fun x=>zcN x⟩
def ziA:TA :=
 .call 48 zbi [.v 0] 1<|.prim (.un .not) [.v 1]<|.ite (.v 2) (.jmp 0 false [.c (.int .i64 0)]) (.prim (.fld 0) [.v 0]<|.prim .len [.v 3]<|.prim (.bin .sub) [.c (.int .i64 64),.v 4]<|.jmp 0 false [.v 5])
theorem znV:zad cx 12 28=some ziA.erase:=by kernel_rfl
theorem zgl:FnOk cx 12 noC 28 zby:=zaB (t:=ziA) znV (fun _=>rfl) (zaw [(48,zbi)] (by kernel_rfl) (.cons zeD .nil)) (fun x=>by kernel_rfl)
def zdZ (p0:Proto) (p1:Int) (p2:Int):Option Bool :=
 ((zek p0).bind fun v3=>if v3 then
 if decide ((0:Int)≤p1) then
 if decide (p1<(List.length (Proto.Wait p0):Int)) then
 if decide ((0:Int)≤p2) then
 some ((decide (p2<(List.length (Proto.Home p0):Int))))
 else
 some (false)
 else
 some (false)
 else
 some (false)
 else
 some (false):Option Bool).bind fun v3=>some (v3)
def zbC:FnT:=⟨[zac,.int .i64,.int .i64],[.bool],fun x=>zdZ x.1 x.2.1 x.2.2⟩
def zjj:TA :=
 .sub0 [.bool] (.call 20 zcx [.v 0] 1<|.ite (.v 3) (.prim (.bin .geq) [.v 1,.c (.int .i64 0)]<|.ite (.v 4) (.prim (.fld 2) [.v 0]<|.prim .len [.v 5]<|.prim (.bin .lss) [.v 1,.v 6]<|.ite (.v 7) (.prim (.bin .geq) [.v 2,.c (.int .i64 0)]<|.ite (.v 8) (.prim (.fld 3) [.v 0]<|.prim .len [.v 9]<|.prim (.bin .lss) [.v 2,.v 10]<|.jmp 0 false [.v 11]) (.jmp 0 false [.c (.bool false)])) (.jmp 0 false [.c (.bool false)])) (.jmp 0 false [.c (.bool false)])) (.jmp 0 false [.c (.bool false)])) 1<|.jmp 0 false [.v 3]
theorem znU:zad cx 12 42=some zjj.erase:=by kernel_rfl
theorem zgp:FnOk cx 12 noC 42 zbC:=zaB (t:=zjj) znU (fun _=>rfl) (zaw [(20,zcx)] (by kernel_rfl) (.cons ziJ .nil)) (fun x=>by kernel_rfl)
def zfB (p0:Entry) (p1:Int):Option (Entry×Int) :=
 ((zaD 1 (Entry.Share p0)).bind fun v3=>some ((Entry.Owner p0,v3)):Option (Int×(List Bool))).bind fun v2=>(zfA (Entry.mk v2.1 v2.2) p1).bind fun v5=>if !v5 then
 some ((Entry.mk v2.1 v2.2,(1:Int)))
 else
 if !decide (v2.1=(w64 (p1 + (1:Int)))) then
 some ((Entry.mk v2.1 v2.2,(7:Int)))
 else
 some ((Entry.mk (0:Int) v2.2,(0:Int)))
def zgJ:FnT:=⟨[zas,.int .i64],[zas,.int .i64],fun x=>zfB x.1 x.2⟩
def zhl:TA :=
 .sub0 [.int .i64,.sl .bool] (.prim (.fld 1) [.v 0]<|.prim (.clone 1) [.v 2]<|.prim (.fld 0) [.v 0]<|.prim (.fld 1) [.v 0]<|.jmp 0 false [.v 4,.v 3]) 2<|.mkS zbm [.v 2,.v 3]<|.call 101 zct [.v 4,.v 1] 1<|.prim (.un .not) [.v 5]<|.ite (.v 6) (.mkS zbm [.v 2,.v 3]<|.jmp 0 false [.v 7,.c (.int .i64 1)]) (.prim (.bin .add) [.v 1,.c (.int .i64 1)]<|.prim (.bin .neq) [.v 2,.v 7]<|.ite (.v 8) (.mkS zbm [.v 2,.v 3]<|.jmp 0 false [.v 9,.c (.int .i64 7)]) (.mkS zbm [.c (.int .i64 0),.v 3]<|.jmp 0 false [.v 9,.c (.int .i64 0)]))
theorem zlX:zad cx 12 71=some zhl.erase:=by kernel_rfl
theorem zro:FnOk cx 12 noC 71 zgJ:=zaB (t:=zhl) zlX (fun _=>rfl) (zaw [(101,zct)] (by kernel_rfl) (.cons ziL .nil)) (fun x=>by kernel_rfl)
end Go.Proofs.YtdfohlonacbelaaGreat
