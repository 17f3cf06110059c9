import Derived.Test.YtdfohlonacbelaaGreatProg
import Derived.Test.YtdfohlonacbelaaGreatLim
import Derived.KernelRfl
set_option linter.unusedVariables false
set_option maxRecDepth 100000
noncomputable section
namespace Go.Proofs.YtdfohlonacbelaaGreat
open Go.SX
abbrev zhn:List Ty:=[.int .i64,.int .i64,.bool,.int .u8]
abbrev zdJ:Ty:=.st zhn
abbrev zdK:List Ty:=[.str,.int .u64]
abbrev zbW:Ty:=.st zdK
abbrev zps:List Ty:=[.int .i64,.bool,.bool,.bool,.bool,.bool,.int .i64,.int .i64,.int .u32]
abbrev zbX:Ty:=.st zps
abbrev Wait:Type:=Int×Bool×Bool×Bool×Bool×Bool×Int×Int×Int
def Wait.mk (Line:Int) (Write:Bool) (Back:Bool) (Came:Bool) (Own:Bool) (Keep:Bool) (Need:Int) (Got:Int) (Val:Int):Wait:=(Line,Write,Back,Came,Own,Keep,Need,Got,Val)
def Wait.Line (x:Wait):Int:=x.1
def Wait.Write (x:Wait):Bool:=x.2.1
def Wait.Back (x:Wait):Bool:=x.2.2.1
def Wait.Came (x:Wait):Bool:=x.2.2.2.1
def Wait.Own (x:Wait):Bool:=x.2.2.2.2.1
def Wait.Keep (x:Wait):Bool:=x.2.2.2.2.2.1
def Wait.Need (x:Wait):Int:=x.2.2.2.2.2.2.1
def Wait.Got (x:Wait):Int:=x.2.2.2.2.2.2.2.1
def Wait.Val (x:Wait):Int:=x.2.2.2.2.2.2.2.2
def Wait.setCame (x:Wait) (v:Bool):Wait:=(x.1,x.2.1,x.2.2.1,v,x.2.2.2.2.1,x.2.2.2.2.2.1,x.2.2.2.2.2.2.1,x.2.2.2.2.2.2.2.1,x.2.2.2.2.2.2.2.2)
def Wait.setOwn (x:Wait) (v:Bool):Wait:=(x.1,x.2.1,x.2.2.1,x.2.2.2.1,v,x.2.2.2.2.2.1,x.2.2.2.2.2.2.1,x.2.2.2.2.2.2.2.1,x.2.2.2.2.2.2.2.2)
def Wait.setKeep (x:Wait) (v:Bool):Wait:=(x.1,x.2.1,x.2.2.1,x.2.2.2.1,x.2.2.2.2.1,v,x.2.2.2.2.2.2.1,x.2.2.2.2.2.2.2.1,x.2.2.2.2.2.2.2.2)
def Wait.setNeed (x:Wait) (v:Int):Wait:=(x.1,x.2.1,x.2.2.1,x.2.2.2.1,x.2.2.2.2.1,x.2.2.2.2.2.1,v,x.2.2.2.2.2.2.2.1,x.2.2.2.2.2.2.2.2)
def Wait.setGot (x:Wait) (v:Int):Wait:=(x.1,x.2.1,x.2.2.1,x.2.2.2.1,x.2.2.2.2.1,x.2.2.2.2.2.1,x.2.2.2.2.2.2.1,v,x.2.2.2.2.2.2.2.2)
def Wait.setVal (x:Wait) (v:Int):Wait:=(x.1,x.2.1,x.2.2.1,x.2.2.2.1,x.2.2.2.2.1,x.2.2.2.2.2.1,x.2.2.2.2.2.2.1,x.2.2.2.2.2.2.2.1,v)
@[simp] theorem Wait.Line_mk (Line:Int) (Write:Bool) (Back:Bool) (Came:Bool) (Own:Bool) (Keep:Bool) (Need:Int) (Got:Int) (Val:Int):Wait.Line (Wait.mk Line Write Back Came Own Keep Need Got Val)=Line:=rfl
@[simp] theorem Wait.Write_mk (Line:Int) (Write:Bool) (Back:Bool) (Came:Bool) (Own:Bool) (Keep:Bool) (Need:Int) (Got:Int) (Val:Int):Wait.Write (Wait.mk Line Write Back Came Own Keep Need Got Val)=Write:=rfl
@[simp] theorem Wait.Back_mk (Line:Int) (Write:Bool) (Back:Bool) (Came:Bool) (Own:Bool) (Keep:Bool) (Need:Int) (Got:Int) (Val:Int):Wait.Back (Wait.mk Line Write Back Came Own Keep Need Got Val)=Back:=rfl
@[simp] theorem Wait.Came_mk (Line:Int) (Write:Bool) (Back:Bool) (Came:Bool) (Own:Bool) (Keep:Bool) (Need:Int) (Got:Int) (Val:Int):Wait.Came (Wait.mk Line Write Back Came Own Keep Need Got Val)=Came:=rfl
@[simp] theorem Wait.Own_mk (Line:Int) (Write:Bool) (Back:Bool) (Came:Bool) (Own:Bool) (Keep:Bool) (Need:Int) (Got:Int) (Val:Int):Wait.Own (Wait.mk Line Write Back Came Own Keep Need Got Val)=Own:=rfl
@[simp] theorem Wait.Keep_mk (Line:Int) (Write:Bool) (Back:Bool) (Came:Bool) (Own:Bool) (Keep:Bool) (Need:Int) (Got:Int) (Val:Int):Wait.Keep (Wait.mk Line Write Back Came Own Keep Need Got Val)=Keep:=rfl
@[simp] theorem Wait.Need_mk (Line:Int) (Write:Bool) (Back:Bool) (Came:Bool) (Own:Bool) (Keep:Bool) (Need:Int) (Got:Int) (Val:Int):Wait.Need (Wait.mk Line Write Back Came Own Keep Need Got Val)=Need:=rfl
@[simp] theorem Wait.Got_mk (Line:Int) (Write:Bool) (Back:Bool) (Came:Bool) (Own:Bool) (Keep:Bool) (Need:Int) (Got:Int) (Val:Int):Wait.Got (Wait.mk Line Write Back Came Own Keep Need Got Val)=Got:=rfl
@[simp] theorem Wait.Val_mk (Line:Int) (Write:Bool) (Back:Bool) (Came:Bool) (Own:Bool) (Keep:Bool) (Need:Int) (Got:Int) (Val:Int):Wait.Val (Wait.mk Line Write Back Came Own Keep Need Got Val)=Val:=rfl
@[simp] theorem Wait.setCame_eq (x:Wait) (v:Bool):Wait.setCame x v=Wait.mk (Wait.Line x) (Wait.Write x) (Wait.Back x) v (Wait.Own x) (Wait.Keep x) (Wait.Need x) (Wait.Got x) (Wait.Val x):=rfl
@[simp] theorem Wait.setOwn_eq (x:Wait) (v:Bool):Wait.setOwn x v=Wait.mk (Wait.Line x) (Wait.Write x) (Wait.Back x) (Wait.Came x) v (Wait.Keep x) (Wait.Need x) (Wait.Got x) (Wait.Val x):=rfl
@[simp] theorem Wait.setKeep_eq (x:Wait) (v:Bool):Wait.setKeep x v=Wait.mk (Wait.Line x) (Wait.Write x) (Wait.Back x) (Wait.Came x) (Wait.Own x) v (Wait.Need x) (Wait.Got x) (Wait.Val x):=rfl
@[simp] theorem Wait.setNeed_eq (x:Wait) (v:Int):Wait.setNeed x v=Wait.mk (Wait.Line x) (Wait.Write x) (Wait.Back x) (Wait.Came x) (Wait.Own x) (Wait.Keep x) v (Wait.Got x) (Wait.Val x):=rfl
@[simp] theorem Wait.setGot_eq (x:Wait) (v:Int):Wait.setGot x v=Wait.mk (Wait.Line x) (Wait.Write x) (Wait.Back x) (Wait.Came x) (Wait.Own x) (Wait.Keep x) (Wait.Need x) v (Wait.Val x):=rfl
@[simp] theorem Wait.setVal_eq (x:Wait) (v:Int):Wait.setVal x v=Wait.mk (Wait.Line x) (Wait.Write x) (Wait.Back x) (Wait.Came x) (Wait.Own x) (Wait.Keep x) (Wait.Need x) (Wait.Got x) v:=rfl
@[simp] theorem Wait.eta (x:Wait):Wait.mk (Wait.Line x) (Wait.Write x) (Wait.Back x) (Wait.Came x) (Wait.Own x) (Wait.Keep x) (Wait.Need x) (Wait.Got x) (Wait.Val x)=x:=rfl
abbrev zcy:List Ty:=[.int .i64,.int .i64,.int .i64,.int .i64,.int .i64,.int .i64,.bool,.int .u32,.int .u32]
abbrev zAR:Ty:=.st zcy
abbrev Msg:Type:=Int×Int×Int×Int×Int×Int×Bool×Int×Int
def Msg.mk (Kind:Int) (From:Int) (To:Int) (Line:Int) (For:Int) (Acks:Int) (Own:Bool) (Num:Int) (Val:Int):Msg:=(Kind,From,To,Line,For,Acks,Own,Num,Val)
def Msg.Kind (x:Msg):Int:=x.1
def Msg.From (x:Msg):Int:=x.2.1
def Msg.To (x:Msg):Int:=x.2.2.1
def Msg.Line (x:Msg):Int:=x.2.2.2.1
def Msg.For (x:Msg):Int:=x.2.2.2.2.1
def Msg.Acks (x:Msg):Int:=x.2.2.2.2.2.1
def Msg.Own (x:Msg):Bool:=x.2.2.2.2.2.2.1
def Msg.Num (x:Msg):Int:=x.2.2.2.2.2.2.2.1
def Msg.Val (x:Msg):Int:=x.2.2.2.2.2.2.2.2
def Msg.setKind (x:Msg) (v:Int):Msg:=(v,x.2.1,x.2.2.1,x.2.2.2.1,x.2.2.2.2.1,x.2.2.2.2.2.1,x.2.2.2.2.2.2.1,x.2.2.2.2.2.2.2.1,x.2.2.2.2.2.2.2.2)
def Msg.setFor (x:Msg) (v:Int):Msg:=(x.1,x.2.1,x.2.2.1,x.2.2.2.1,v,x.2.2.2.2.2.1,x.2.2.2.2.2.2.1,x.2.2.2.2.2.2.2.1,x.2.2.2.2.2.2.2.2)
def Msg.setVal (x:Msg) (v:Int):Msg:=(x.1,x.2.1,x.2.2.1,x.2.2.2.1,x.2.2.2.2.1,x.2.2.2.2.2.1,x.2.2.2.2.2.2.1,x.2.2.2.2.2.2.2.1,v)
@[simp] theorem Msg.Kind_mk (Kind:Int) (From:Int) (To:Int) (Line:Int) (For:Int) (Acks:Int) (Own:Bool) (Num:Int) (Val:Int):Msg.Kind (Msg.mk Kind From To Line For Acks Own Num Val)=Kind:=rfl
@[simp] theorem Msg.From_mk (Kind:Int) (From:Int) (To:Int) (Line:Int) (For:Int) (Acks:Int) (Own:Bool) (Num:Int) (Val:Int):Msg.From (Msg.mk Kind From To Line For Acks Own Num Val)=From:=rfl
@[simp] theorem Msg.To_mk (Kind:Int) (From:Int) (To:Int) (Line:Int) (For:Int) (Acks:Int) (Own:Bool) (Num:Int) (Val:Int):Msg.To (Msg.mk Kind From To Line For Acks Own Num Val)=To:=rfl
@[simp] theorem Msg.Line_mk (Kind:Int) (From:Int) (To:Int) (Line:Int) (For:Int) (Acks:Int) (Own:Bool) (Num:Int) (Val:Int):Msg.Line (Msg.mk Kind From To Line For Acks Own Num Val)=Line:=rfl
@[simp] theorem Msg.For_mk (Kind:Int) (From:Int) (To:Int) (Line:Int) (For:Int) (Acks:Int) (Own:Bool) (Num:Int) (Val:Int):Msg.For (Msg.mk Kind From To Line For Acks Own Num Val)=For:=rfl
@[simp] theorem Msg.Acks_mk (Kind:Int) (From:Int) (To:Int) (Line:Int) (For:Int) (Acks:Int) (Own:Bool) (Num:Int) (Val:Int):Msg.Acks (Msg.mk Kind From To Line For Acks Own Num Val)=Acks:=rfl
@[simp] theorem Msg.Own_mk (Kind:Int) (From:Int) (To:Int) (Line:Int) (For:Int) (Acks:Int) (Own:Bool) (Num:Int) (Val:Int):Msg.Own (Msg.mk Kind From To Line For Acks Own Num Val)=Own:=rfl
@[simp] theorem Msg.Num_mk (Kind:Int) (From:Int) (To:Int) (Line:Int) (For:Int) (Acks:Int) (Own:Bool) (Num:Int) (Val:Int):Msg.Num (Msg.mk Kind From To Line For Acks Own Num Val)=Num:=rfl
@[simp] theorem Msg.Val_mk (Kind:Int) (From:Int) (To:Int) (Line:Int) (For:Int) (Acks:Int) (Own:Bool) (Num:Int) (Val:Int):Msg.Val (Msg.mk Kind From To Line For Acks Own Num Val)=Val:=rfl
@[simp] theorem Msg.setKind_eq (x:Msg) (v:Int):Msg.setKind x v=Msg.mk v (Msg.From x) (Msg.To x) (Msg.Line x) (Msg.For x) (Msg.Acks x) (Msg.Own x) (Msg.Num x) (Msg.Val x):=rfl
@[simp] theorem Msg.setFor_eq (x:Msg) (v:Int):Msg.setFor x v=Msg.mk (Msg.Kind x) (Msg.From x) (Msg.To x) (Msg.Line x) v (Msg.Acks x) (Msg.Own x) (Msg.Num x) (Msg.Val x):=rfl
@[simp] theorem Msg.setVal_eq (x:Msg) (v:Int):Msg.setVal x v=Msg.mk (Msg.Kind x) (Msg.From x) (Msg.To x) (Msg.Line x) (Msg.For x) (Msg.Acks x) (Msg.Own x) (Msg.Num x) v:=rfl
@[simp] theorem Msg.eta (x:Msg):Msg.mk (Msg.Kind x) (Msg.From x) (Msg.To x) (Msg.Line x) (Msg.For x) (Msg.Acks x) (Msg.Own x) (Msg.Num x) (Msg.Val x)=x:=rfl
abbrev zxM:List Ty:=[.int .u8,.int .u8,.int .u8,.int .u8,.bool,.int .u32]
abbrev zhW:Ty:=.st zxM
abbrev l10_Act:Type:=Int×Int×Int×Int×Bool×Int
def l10_Act.mk (Kind:Int) (N:Int) (Line:Int) (At:Int) (Write:Bool) (Val:Int):l10_Act:=(Kind,N,Line,At,Write,Val)
def l10_Act.Kind (x:l10_Act):Int:=x.1
def l10_Act.N (x:l10_Act):Int:=x.2.1
def l10_Act.Line (x:l10_Act):Int:=x.2.2.1
def l10_Act.At (x:l10_Act):Int:=x.2.2.2.1
def l10_Act.Write (x:l10_Act):Bool:=x.2.2.2.2.1
def l10_Act.Val (x:l10_Act):Int:=x.2.2.2.2.2
@[simp] theorem l10_Act.Kind_mk (Kind:Int) (N:Int) (Line:Int) (At:Int) (Write:Bool) (Val:Int):l10_Act.Kind (l10_Act.mk Kind N Line At Write Val)=Kind:=rfl
@[simp] theorem l10_Act.N_mk (Kind:Int) (N:Int) (Line:Int) (At:Int) (Write:Bool) (Val:Int):l10_Act.N (l10_Act.mk Kind N Line At Write Val)=N:=rfl
@[simp] theorem l10_Act.Line_mk (Kind:Int) (N:Int) (Line:Int) (At:Int) (Write:Bool) (Val:Int):l10_Act.Line (l10_Act.mk Kind N Line At Write Val)=Line:=rfl
@[simp] theorem l10_Act.At_mk (Kind:Int) (N:Int) (Line:Int) (At:Int) (Write:Bool) (Val:Int):l10_Act.At (l10_Act.mk Kind N Line At Write Val)=At:=rfl
@[simp] theorem l10_Act.Write_mk (Kind:Int) (N:Int) (Line:Int) (At:Int) (Write:Bool) (Val:Int):l10_Act.Write (l10_Act.mk Kind N Line At Write Val)=Write:=rfl
@[simp] theorem l10_Act.Val_mk (Kind:Int) (N:Int) (Line:Int) (At:Int) (Write:Bool) (Val:Int):l10_Act.Val (l10_Act.mk Kind N Line At Write Val)=Val:=rfl
@[simp] theorem l10_Act.eta (x:l10_Act):l10_Act.mk (l10_Act.Kind x) (l10_Act.N x) (l10_Act.Line x) (l10_Act.At x) (l10_Act.Write x) (l10_Act.Val x)=x:=rfl
abbrev zbl:List Ty:=[.int .i64,.sl .bool]
abbrev zan:Ty:=.st zbl
abbrev Entry:Type:=Int×(List Bool)
def Entry.mk (Owner:Int) (Share:List Bool):Entry:=(Owner,Share)
def Entry.Owner (x:Entry):Int:=x.1
def Entry.Share (x:Entry):List Bool:=x.2
@[simp] theorem Entry.Owner_mk (Owner:Int) (Share:List Bool):Entry.Owner (Entry.mk Owner Share)=Owner:=rfl
@[simp] theorem Entry.Share_mk (Owner:Int) (Share:List Bool):Entry.Share (Entry.mk Owner Share)=Share:=rfl
@[simp] theorem Entry.eta (x:Entry):Entry.mk (Entry.Owner x) (Entry.Share x)=x:=rfl
abbrev zb6:List Ty:=[.sl (.sl (.int .u8))]
abbrev zaJ:Ty:=.st zb6
abbrev Pool:Type:=List (List Int)
def Pool.mk (Frames:List (List Int)):Pool:=Frames
def Pool.Frames (x:Pool):List (List Int):=x
@[simp] theorem Pool.Frames_mk (Frames:List (List Int)):Pool.Frames (Pool.mk Frames)=Frames:=rfl
@[simp] theorem Pool.eta (x:Pool):Pool.mk (Pool.Frames x)=x:=rfl
abbrev za7:List Ty:=[.sl (.sl (.int .i64)),.sl (.sl (.int .u32)),.sl zbX,.sl (.int .u32),.sl zan,.sl (.int .i64),zaJ]
abbrev zab:Ty:=.st za7
abbrev Proto:Type:=(List (List Int))×(List (List Int))×(List YtdfohlonacbelaaGreat.Wait)×(List Int)×(List YtdfohlonacbelaaGreat.Entry)×(List Int)×YtdfohlonacbelaaGreat.Pool
def Proto.mk (State:List (List Int)) (Val:List (List Int)) (Wait:List YtdfohlonacbelaaGreat.Wait) (Home:List Int) (Dir:List YtdfohlonacbelaaGreat.Entry) (Busy:List Int) (Pool:YtdfohlonacbelaaGreat.Pool):Proto:=(State,Val,Wait,Home,Dir,Busy,Pool)
def Proto.State (x:Proto):List (List Int):=x.1
def Proto.Val (x:Proto):List (List Int):=x.2.1
def Proto.Wait (x:Proto):List YtdfohlonacbelaaGreat.Wait:=x.2.2.1
def Proto.Home (x:Proto):List Int:=x.2.2.2.1
def Proto.Dir (x:Proto):List YtdfohlonacbelaaGreat.Entry:=x.2.2.2.2.1
def Proto.Busy (x:Proto):List Int:=x.2.2.2.2.2.1
def Proto.Pool (x:Proto):YtdfohlonacbelaaGreat.Pool:=x.2.2.2.2.2.2
def Proto.setPool (x:Proto) (v:YtdfohlonacbelaaGreat.Pool):Proto:=(x.1,x.2.1,x.2.2.1,x.2.2.2.1,x.2.2.2.2.1,x.2.2.2.2.2.1,v)
@[simp] theorem Proto.State_mk (State:List (List Int)) (Val:List (List Int)) (Wait:List YtdfohlonacbelaaGreat.Wait) (Home:List Int) (Dir:List YtdfohlonacbelaaGreat.Entry) (Busy:List Int) (Pool:YtdfohlonacbelaaGreat.Pool):Proto.State (Proto.mk State Val Wait Home Dir Busy Pool)=State:=rfl
@[simp] theorem Proto.Val_mk (State:List (List Int)) (Val:List (List Int)) (Wait:List YtdfohlonacbelaaGreat.Wait) (Home:List Int) (Dir:List YtdfohlonacbelaaGreat.Entry) (Busy:List Int) (Pool:YtdfohlonacbelaaGreat.Pool):Proto.Val (Proto.mk State Val Wait Home Dir Busy Pool)=Val:=rfl
@[simp] theorem Proto.Wait_mk (State:List (List Int)) (Val:List (List Int)) (Wait:List YtdfohlonacbelaaGreat.Wait) (Home:List Int) (Dir:List YtdfohlonacbelaaGreat.Entry) (Busy:List Int) (Pool:YtdfohlonacbelaaGreat.Pool):Proto.Wait (Proto.mk State Val Wait Home Dir Busy Pool)=Wait:=rfl
@[simp] theorem Proto.Home_mk (State:List (List Int)) (Val:List (List Int)) (Wait:List YtdfohlonacbelaaGreat.Wait) (Home:List Int) (Dir:List YtdfohlonacbelaaGreat.Entry) (Busy:List Int) (Pool:YtdfohlonacbelaaGreat.Pool):Proto.Home (Proto.mk State Val Wait Home Dir Busy Pool)=Home:=rfl
@[simp] theorem Proto.Dir_mk (State:List (List Int)) (Val:List (List Int)) (Wait:List YtdfohlonacbelaaGreat.Wait) (Home:List Int) (Dir:List YtdfohlonacbelaaGreat.Entry) (Busy:List Int) (Pool:YtdfohlonacbelaaGreat.Pool):Proto.Dir (Proto.mk State Val Wait Home Dir Busy Pool)=Dir:=rfl
@[simp] theorem Proto.Busy_mk (State:List (List Int)) (Val:List (List Int)) (Wait:List YtdfohlonacbelaaGreat.Wait) (Home:List Int) (Dir:List YtdfohlonacbelaaGreat.Entry) (Busy:List Int) (Pool:YtdfohlonacbelaaGreat.Pool):Proto.Busy (Proto.mk State Val Wait Home Dir Busy Pool)=Busy:=rfl
@[simp] theorem Proto.Pool_mk (State:List (List Int)) (Val:List (List Int)) (Wait:List YtdfohlonacbelaaGreat.Wait) (Home:List Int) (Dir:List YtdfohlonacbelaaGreat.Entry) (Busy:List Int) (Pool:YtdfohlonacbelaaGreat.Pool):Proto.Pool (Proto.mk State Val Wait Home Dir Busy Pool)=Pool:=rfl
@[simp] theorem Proto.setPool_eq (x:Proto) (v:YtdfohlonacbelaaGreat.Pool):Proto.setPool x v=Proto.mk (Proto.State x) (Proto.Val x) (Proto.Wait x) (Proto.Home x) (Proto.Dir x) (Proto.Busy x) v:=rfl
@[simp] theorem Proto.eta (x:Proto):Proto.mk (Proto.State x) (Proto.Val x) (Proto.Wait x) (Proto.Home x) (Proto.Dir x) (Proto.Busy x) (Proto.Pool x)=x:=rfl
abbrev zpd:List Ty:=[zab]
abbrev zj7:Ty:=.st zpd
def tys:List Ty:=[.no,.no,.int .i64,.int .i64,.bool,.int .u8,.int .u8,zdJ,zdJ,.str,.str,.str,.int .u64,zbW,zbW,.no,.no,.no,.no,.no,.no,.int .i32,.sl (.sl (.int .i64)),.sl (.sl (.int .u32)),.sl zbX,.sl (.int .u32),.sl zan,.sl (.int .i64),.sl (.sl (.int .u8)),zaJ,zaJ,zab,zab,.int .u32,.no,.no,.int .i64,.no,.no,.no,.no,.no,.no,.no,.no,.no,.no,.no,.no,.no,.no,.no,.sl zhW,.no,.no,.no,zhW,zhW,.no,.no,.no,.sl .bool,zan,zan,.no,.no,zj7,zj7,zAR,zAR,.no,.no,.no,.no,.no,.no,.no,.no,.no,.no,.no,.no,zbX,zbX,.no,.no,.no,.no,.no,.no,.no,.no,.no,.no,.no,.no,.no,.no,.no,.no,.sl (.int .u8),.no,.no,.no,.no,.no,.no,.no,.no,.no,.no,.no,.no,.no,.no,.no,.no,.no,.no,.no,.no,.no,.no,.no,.no,.no,.no,.no,.no,.no,.no,.no,.no,.no,.no,.no,.no,.no,.no,.no,.no,.no,.no,.no,.no,.no,.no,.no,.no,.no,.no,.no,.no,.no,.no,.no,.arr 4 (.int .u8),.int .u64,.no,.no,.no,.no,.no,.no,.no,.no,.no,.no,.no,.no,.no,.arr 5 (.int .i64),.no,.no,.no,.no,.no,.no,.no,.int .u8,.int .u8,.no,.no,.int .i32,.int .i32,.no,.no,.no]
def cx:Cx:={ P:=Tryz.prog,ty:=tys,own:=[],inl:=[26,57,58,59,60,61,62,63,87,89,90,100,115,118,121,122,129],keepL:=[],absL:=[26,57,58,63,89,95,100,120,125],lendL:=[],freshL:=[],owL:=[45,46],heads:=[(9,[(3,60,⟨4,0,zcT 148 0 [(2,.p zab zab 0 []),(3,.p zab zab 1 []),(4,.d .bool (.c (.bool false))),(5,.d (.int .i64) (.v 3))],[.box zab (.d zab (.v 0)),.box zab (.d zab (.v 1))]⟩),
 (3,92,⟨4,0,zcT 148 0 [(2,.p zab zab 0 []),(3,.p zab zab 1 []),(4,.d .bool (.c (.bool false))),(6,.d (.int .i64) (.v 3))],[.box zab (.d zab (.v 0)),.box zab (.d zab (.v 1))]⟩),
 (3,156,⟨4,0,zcT 148 0 [(2,.p zab zab 0 []),(3,.p zab zab 1 []),(4,.d .bool (.c (.bool false))),(7,.d (.int .i64) (.v 3))],[.box zab (.d zab (.v 0)),.box zab (.d zab (.v 1))]⟩),
 (3,284,⟨4,0,zcT 148 0 [(2,.p zab zab 0 []),(3,.p zab zab 1 []),(4,.d .bool (.c (.bool false))),(8,.d (.int .i64) (.v 3))],[.box zab (.d zab (.v 0)),.box zab (.d zab (.v 1))]⟩)]),
 (20,[(6,95216831761137083744415218616928460264924859192049726,⟨7,0,zcT 177 0 [(1,.p zab zab 0 []),(2,.d .bool (.c (.bool false))),(3,.d (.int .i64) (.v 2)),(4,.d (.int .i64) (.v 4)),(5,.d (.int .i64) (.v 6))],[.box zab (.d zab (.v 0))]⟩),
 (11,95216831761137083744415218616928460264924859192049854,⟨12,0,zcT 177 0 [(1,.p zab zab 0 []),(2,.d .bool (.c (.bool false))),(3,.d (.int .i64) (.v 2)),(4,.d (.int .i64) (.v 4)),(5,.d (.int .i64) (.v 6)),(7,.d (.int .i64) (.v 11))],[.box zab (.d zab (.v 0))]⟩),
 (6,95216831672108325120970066851465838730584005174886686,⟨7,0,zcT 177 0 [(1,.p zab zab 0 []),(2,.d .bool (.c (.bool false))),(3,.d (.int .i64) (.v 2)),(4,.d (.int .i64) (.v 4)),(8,.d (.int .i64) (.v 6))],[.box zab (.d zab (.v 0))]⟩)]),
 (75,[(20,4533471823554859405148924,⟨22,0,zcT 128 0 [(2,.p zab zab 0 []),(3,.p zAR zAR 1 []),(4,.p zab zab 2 []),(5,.d (.sl (.int .i64)) (.v 15)),(6,.p zan zan 3 []),(7,.d (.int .i64) (.v 16)),(9,.d (.int .i64) (.v 20))],[.box zab (.d zab (.v 21)),.box zAR (.d zAR (.v 1)),.box zab (.d zab (.c (.agg [.nil,.nil,.nil,.nil,.nil,.nil,(.agg [.nil])]))),.box zan (.d zan (.v 17))]⟩)]),
 (92,[(2,908,⟨4,0,zcT 31 0 [(2,.d (.int .u32) (.c (.int .u32 0))),(3,.d (.int .u32) (.v 2)),(7,.d (.sl (.int .u8)) (.v 0)),(8,.d (.int .i64) (.v 1)),(9,.d (.int .i64) (.v 3))],[]⟩),
 (8,131980,⟨10,0,zcT 31 0 [(2,.d (.int .u32) (.c (.int .u32 0))),(3,.d (.int .u32) (.v 8)),(7,.d (.sl (.int .u8)) (.v 0)),(8,.d (.int .i64) (.v 1)),(9,.d (.int .i64) (.v 3)),(17,.d (.int .i64) (.v 9))],[]⟩)]),
 (103,[(1,29,⟨3,0,zcT 33 0 [(0,.d (.sl (.int .u8)) (.v 0)),(2,.d (.int .u32) (.c (.int .u32 0))),(3,.d (.int .u32) (.v 1)),(4,.d (.int .i64) (.v 2))],[]⟩),
 (8,61,⟨10,0,zcT 33 0 [(0,.d (.sl (.int .u8)) (.v 0)),(2,.d (.int .u32) (.c (.int .u32 0))),(3,.d (.int .u32) (.v 8)),(4,.d (.int .i64) (.v 2)),(5,.d (.int .i64) (.v 9))],[]⟩)])] }
theorem zB8:TysOk cx:=zxI (by kernel_rfl)
theorem mixed:Tryz.prog.follows .mixedOrders=true:=by kernel_rfl
def noC:FuncId→List D→Option (List D):=fun _ _=>none
theorem zz8:CallsOk cx noC:=fun _ _ _ _ _ _ _ h=>by cases h
theorem zyG {f:FuncId}{ds rs:List D}(k d:Nat) (h:zdG cx k 12 noC d f ds=some rs):zv8 cx 12 noC f ds=some rs:=(zfe cx 12 noC).2 ⟨k,d,h⟩
def zcX (p0:Proto) (p1:Msg):Bool :=
 let v3:Int:=(List.length (Proto.Wait p0):Int)
 (decide ((Msg.Line p1)<(List.length (Proto.Home p0):Int)))&&((decide ((Msg.From p1)≤v3))&&((decide ((Msg.To p1)≤v3))&&(decide ((Msg.For p1)≤v3))))
def zhw:PnT:=⟨[zab,zAR],[.bool],fun x=>zcX x.1 x.2⟩
def zhx:TA :=
 .prim (.fld 2) [.v 0]<|.prim .len [.v 2]<|.subp [.bool] (.prim (.fld 3) [.v 1]<|.prim (.fld 3) [.v 0]<|.prim .len [.v 5]<|.prim (.bin .lss) [.v 4,.v 6]<|.ite (.v 7) (.prim (.fld 1) [.v 1]<|.prim (.bin .leq) [.v 8,.v 3]<|.ite (.v 9) (.prim (.fld 2) [.v 1]<|.prim (.bin .leq) [.v 10,.v 3]<|.ite (.v 11) (.prim (.fld 4) [.v 1]<|.prim (.bin .leq) [.v 12,.v 3]<|.jmp 0 false [.v 13]) (.jmp 0 false [.c (.bool false)])) (.jmp 0 false [.c (.bool false)])) (.jmp 0 false [.c (.bool false)])) 1<|.jmp 0 false [.v 4]
theorem zlJ:zad cx 12 29=some zhx.erase:=by kernel_rfl
theorem zti:zAH cx 12 noC 29 zhw.fn:=zt6 (t:=zhx) zlJ (fun _=>rfl) (zau [] (by kernel_rfl) .nil) (fun x=>by kernel_rfl)
def zbQ (x0:List Int) (x1:List Int) (s:Int):Option (Int⊕Unit⊕Bool) :=
 if decide (s<(x0.length:Int)) then
 (zAF x0 s).bind fun v8=>(zAF x1 s).bind fun v9=>if !decide (v8=v9) then
 some (Sum.inr (Sum.inr (false)))
 else
 some (Sum.inl (w64 (s + (1:Int))))
 else
 some (Sum.inr (Sum.inl ()))
def zj0 (p0:List Int) (p1:List Int):Option Bool :=
 if !decide ((p0.length:Int)=(p1.length:Int)) then
 some (false)
 else
 zaO (zaf (zbQ p0 p1) (0:Int):Option (Unit⊕Bool)) fun v5=>some (true)
def zfd:FnT:=⟨[.sl (.int .i64),.sl (.int .i64)],[.bool],fun x=>zj0 x.1 x.2⟩
def zkV:TA :=
 .prim .len [.v 0]<|.prim .len [.v 1]<|.prim (.bin .neq) [.v 2,.v 3]<|.ite (.v 4) (.jmp 0 false [.c (.bool false)]) (.sub1 [] (.loop [.int .i64] [.c (.int .i64 0)] (.prim .len [.v 0]<|.prim (.bin .lss) [.v 5,.v 6]<|.ite (.v 7) (.prim .get [.v 0,.v 5]<|.prim .get [.v 1,.v 5]<|.prim (.bin .neq) [.v 8,.v 9]<|.ite (.v 10) (.jmp 2 false [.c (.bool false)]) (.prim (.bin .add) [.v 5,.c (.int .i64 1)]<|.jmp 0 true [.v 11])) (.jmp 1 false []))) 0<|.jmp 0 false [.c (.bool true)])
theorem zqi:zad cx 12 35=some zkV.erase:=by kernel_rfl
theorem zpU:zAH cx 12 noC 35 zfd:=zaA (t:=zkV) zqi (fun _=>rfl) (zau [] (by kernel_rfl) .nil) (fun x=>by kernel_rfl)
def zfN (x0:Pool) (x1:Pool) (s:Int):Option (Int⊕Unit⊕Bool) :=
 if decide (s<(List.length (Pool.Frames x0):Int)) then
 (zAF (Pool.Frames x0) s).bind fun v12=>(zBb v12).bind fun v13=>(zAF (Pool.Frames x1) s).bind fun v15=>(zBb v15).bind fun v16=>if !decide (v13=v16) then
 some (Sum.inr (Sum.inr (false)))
 else
 some (Sum.inl (w64 (s + (1:Int))))
 else
 some (Sum.inr (Sum.inl ()))
def zmE (p0:Pool) (p1:Pool):Option Bool :=
 if !decide ((List.length (Pool.Frames p0):Int)=(List.length (Pool.Frames p1):Int)) then
 some (false)
 else
 zaO (zaf (zfN p0 p1) (0:Int):Option (Unit⊕Bool)) fun v7=>some (true)
def zlw:FnT:=⟨[zaJ,zaJ],[.bool],fun x=>zmE x.1 x.2⟩
def zls:TA :=
 .prim (.fld 0) [.v 0]<|.prim .len [.v 2]<|.prim (.fld 0) [.v 1]<|.prim .len [.v 4]<|.prim (.bin .neq) [.v 3,.v 5]<|.ite (.v 6) (.jmp 0 false [.c (.bool false)]) (.sub1 [] (.loop [.int .i64] [.c (.int .i64 0)] (.prim (.fld 0) [.v 0]<|.prim .len [.v 8]<|.prim (.bin .lss) [.v 7,.v 9]<|.ite (.v 10) (.prim (.fld 0) [.v 0]<|.prim .get [.v 11,.v 7]<|.prim .b2s [.v 12]<|.prim (.fld 0) [.v 1]<|.prim .get [.v 14,.v 7]<|.prim .b2s [.v 15]<|.prim (.bin .neq) [.v 13,.v 16]<|.ite (.v 17) (.jmp 2 false [.c (.bool false)]) (.prim (.bin .add) [.v 7,.c (.int .i64 1)]<|.jmp 0 true [.v 18])) (.jmp 1 false []))) 0<|.jmp 0 false [.c (.bool true)])
theorem zpJ:zad cx 12 36=some zls.erase:=by kernel_rfl
theorem zwa:zAH cx 12 noC 36 zlw:=zaA (t:=zls) zpJ (fun _=>rfl) (zau [] (by kernel_rfl) .nil) (fun x=>by kernel_rfl)
def zke (p0:List Int) (p1:List Int):Option Bool :=
 if !decide ((p0.length:Int)=(p1.length:Int)) then
 some (false)
 else
 zaO (zaf (zbQ p0 p1) (0:Int):Option (Unit⊕Bool)) fun v5=>some (true)
def zd4:FnT:=⟨[.sl (.int .u32),.sl (.int .u32)],[.bool],fun x=>zke x.1 x.2⟩
def zjc:TA :=
 .prim .len [.v 0]<|.prim .len [.v 1]<|.prim (.bin .neq) [.v 2,.v 3]<|.ite (.v 4) (.jmp 0 false [.c (.bool false)]) (.sub1 [] (.loop [.int .i64] [.c (.int .i64 0)] (.prim .len [.v 0]<|.prim (.bin .lss) [.v 5,.v 6]<|.ite (.v 7) (.prim .get [.v 0,.v 5]<|.prim .get [.v 1,.v 5]<|.prim (.bin .neq) [.v 8,.v 9]<|.ite (.v 10) (.jmp 2 false [.c (.bool false)]) (.prim (.bin .add) [.v 5,.c (.int .i64 1)]<|.jmp 0 true [.v 11])) (.jmp 1 false []))) 0<|.jmp 0 false [.c (.bool true)])
theorem zna:zad cx 12 37=some zjc.erase:=by kernel_rfl
theorem znt:zAH cx 12 noC 37 zd4:=zaA (t:=zjc) zna (fun _=>rfl) (zau [] (by kernel_rfl) .nil) (fun x=>by kernel_rfl)
def zcz (x0:Entry) (x1:Entry) (s:Int):Option (Int⊕Unit⊕Bool) :=
 if decide (s<(List.length (Entry.Share x0):Int)) then
 (zAF (Entry.Share x0) s).bind fun v8=>(zAF (Entry.Share x1) s).bind fun v10=>if !decide (v8=v10) then
 some (Sum.inr (Sum.inr (false)))
 else
 some (Sum.inl (w64 (s + (1:Int))))
 else
 some (Sum.inr (Sum.inl ()))
def zml (p0:Entry) (p1:Entry):Option Bool :=
 if (!decide ((Entry.Owner p0)=(Entry.Owner p1)))||(!decide ((List.length (Entry.Share p0):Int)=(List.length (Entry.Share p1):Int))) then
 some (false)
 else
 zaO (zaf (zcz p0 p1) (0:Int):Option (Unit⊕Bool)) fun v3=>some (true)
def zlm:FnT:=⟨[zan,zan],[.bool],fun x=>zml x.1 x.2⟩
def zk2:TA :=
 .subp [.bool] (.prim (.fld 0) [.v 0]<|.prim (.fld 0) [.v 1]<|.prim (.bin .neq) [.v 2,.v 3]<|.ite (.v 4) (.jmp 0 false [.c (.bool true)]) (.prim (.fld 1) [.v 0]<|.prim .len [.v 5]<|.prim (.fld 1) [.v 1]<|.prim .len [.v 7]<|.prim (.bin .neq) [.v 6,.v 8]<|.jmp 0 false [.v 9])) 1<|.ite (.v 2) (.jmp 0 false [.c (.bool false)]) (.sub1 [] (.loop [.int .i64] [.c (.int .i64 0)] (.prim (.fld 1) [.v 0]<|.prim .len [.v 4]<|.prim (.bin .lss) [.v 3,.v 5]<|.ite (.v 6) (.prim (.fld 1) [.v 0]<|.prim .get [.v 7,.v 3]<|.prim (.fld 1) [.v 1]<|.prim .get [.v 9,.v 3]<|.prim (.bin .neq) [.v 8,.v 10]<|.ite (.v 11) (.jmp 2 false [.c (.bool false)]) (.prim (.bin .add) [.v 3,.c (.int .i64 1)]<|.jmp 0 true [.v 12])) (.jmp 1 false []))) 0<|.jmp 0 false [.c (.bool true)])
theorem zpR:zad cx 12 38=some zk2.erase:=by kernel_rfl
theorem zvM:zAH cx 12 noC 38 zlm:=zaA (t:=zk2) zpR (fun _=>rfl) (zau [] (by kernel_rfl) .nil) (fun x=>by kernel_rfl)
def zgV (p0:Proto) (p1:Int) (p2:Int) (p3:Bool):Option Bool :=
 (zAF (Proto.State p0) p1).bind fun v5=>(zAF v5 p2).bind fun v6=>(zAF (Proto.Wait p0) p1).bind fun v8=>if decide ((Wait.Line v8)=(w64 (p2 + (1:Int)))) then
 some (false)
 else
 if p3 then
 some (((decide (v6=(2:Int)))||(decide (v6=(3:Int)))))
 else
 some ((!decide (v6=(0:Int))))
def zcj:FnT:=⟨[zab,.int .i64,.int .i64,.bool],[.bool],fun x=>zgV x.1 x.2.1 x.2.2.1 x.2.2.2⟩
def zi9:TA :=
 .prim (.fld 0) [.v 0]<|.prim .get [.v 4,.v 1]<|.prim .get [.v 5,.v 2]<|.prim (.fld 2) [.v 0]<|.prim .get [.v 7,.v 1]<|.prim (.fld 0) [.v 8]<|.prim (.bin .add) [.v 2,.c (.int .i64 1)]<|.prim (.bin .eql) [.v 9,.v 10]<|.ite (.v 11) (.jmp 0 false [.c (.bool false)]) (.ite (.v 3) (.subp [.bool] (.prim (.bin .eql) [.v 6,.c (.int .i64 2)]<|.ite (.v 12) (.jmp 0 false [.c (.bool true)]) (.prim (.bin .eql) [.v 6,.c (.int .i64 3)]<|.jmp 0 false [.v 13])) 1<|.jmp 0 false [.v 12]) (.prim (.bin .neq) [.v 6,.c (.int .i64 0)]<|.jmp 0 false [.v 12]))
theorem znn:zad cx 12 40=some zi9.erase:=by kernel_rfl
theorem zns:zAH cx 12 noC 40 zcj:=zaA (t:=zi9) znn (fun _=>rfl) (zau [] (by kernel_rfl) .nil) (fun x=>by kernel_rfl)
def zc6 (p0:Proto) (p1:Int) (p2:Wait):Option Proto :=
 (zAK 40 ([]:List Wait) (Proto.Wait p0)).bind fun v4=>(zAG (v4.length:Int) p1).bind fun v5=>(zAI v4 v5 p2).bind fun v6=>some ((Proto.mk (Proto.State p0) (Proto.Val p0) v6 (Proto.Home p0) (Proto.Dir p0) (Proto.Busy p0) (Proto.Pool p0)))
def zaU:FnT:=⟨[zab,.int .i64,zbX],[zab],fun x=>zc6 x.1 x.2.1 x.2.2⟩
def zlD:TA :=
 .prim (.fld 2) [.v 0]<|.primH (.app 40) (.sl zbX) [.c (.sl []),.v 3]<|.prim .idx [.v 4,.v 1]<|.prim .set [.v 4,.v 5,.v 2]<|.prim (.fld 0) [.v 0]<|.prim (.fld 1) [.v 0]<|.prim (.fld 2) [.v 0]<|.prim (.fld 3) [.v 0]<|.prim (.fld 4) [.v 0]<|.prim (.fld 5) [.v 0]<|.prim (.fld 6) [.v 0]<|.mkS za7 [.v 7,.v 8,.v 6,.v 10,.v 11,.v 12,.v 13]<|.jmp 0 false [.v 14]
theorem zpW:zad cx 12 44=some zlD.erase:=by kernel_rfl
theorem zc0:zAH cx 12 noC 44 zaU:=zaA (t:=zlD) zpW (fun _=>rfl) (zau [] (by kernel_rfl) .nil) (fun x=>by kernel_rfl)
def zbO (p0:Proto) (p1:Int) (p2:Int) (p3:Int):Option Proto :=
 (zAK 24 ([]:List (List Int)) (Proto.State p0)).bind fun v5=>(zAG (v5.length:Int) p1).bind fun v6=>(zAF v5 v6).bind fun v7=>(zAK 8 ([]:List Int) v7).bind fun v8=>(zAG (v5.length:Int) p1).bind fun v9=>(zAF v5 v9).bind fun v10=>(zAG (v5.length:Int) p1).bind fun v11=>(zBG v11 v9).bind fun v12=>(zAG (v8.length:Int) p2).bind fun v13=>(zAI v8 v13 p3).bind fun v14=>(zAI v5 v9 v14).bind fun v15=>some ((Proto.mk v15 (Proto.Val p0) (Proto.Wait p0) (Proto.Home p0) (Proto.Dir p0) (Proto.Busy p0) (Proto.Pool p0)))
def zaM:FnT:=⟨[zab,.int .i64,.int .i64,.int .i64],[zab],fun x=>zbO x.1 x.2.1 x.2.2.1 x.2.2.2⟩
def ziy:TA :=
 .prim (.fld 0) [.v 0]<|.primH (.app 24) (.sl (.sl (.int .i64))) [.c (.sl []),.v 4]<|.prim .idx [.v 5,.v 1]<|.prim .get [.v 5,.v 6]<|.primH (.app 8) (.sl (.int .i64)) [.c (.sl []),.v 7]<|.prim .idx [.v 5,.v 1]<|.prim .get [.v 5,.v 9]<|.prim .idx [.v 5,.v 1]<|.prim .eqi [.v 11,.v 9]<|.prim .idx [.v 8,.v 2]<|.prim .set [.v 8,.v 13,.v 3]<|.prim .set [.v 5,.v 9,.v 14]<|.prim (.fld 0) [.v 0]<|.prim (.fld 1) [.v 0]<|.prim (.fld 2) [.v 0]<|.prim (.fld 3) [.v 0]<|.prim (.fld 4) [.v 0]<|.prim (.fld 5) [.v 0]<|.prim (.fld 6) [.v 0]<|.mkS za7 [.v 15,.v 17,.v 18,.v 19,.v 20,.v 21,.v 22]<|.jmp 0 false [.v 23]
theorem zog:zad cx 12 45=some ziy.erase:=by kernel_rfl
theorem zcu:zAH cx 12 noC 45 zaM:=zaA (t:=ziy) zog (fun _=>rfl) (zau [] (by kernel_rfl) .nil) (fun x=>by kernel_rfl)
def zkW (p0:Proto) (p1:Int) (p2:Int) (p3:Int):Option Proto :=
 (zAK 24 ([]:List (List Int)) (Proto.Val p0)).bind fun v5=>(zAG (v5.length:Int) p1).bind fun v6=>(zAF v5 v6).bind fun v7=>(zAK 4 ([]:List Int) v7).bind fun v8=>(zAG (v5.length:Int) p1).bind fun v9=>(zAF v5 v9).bind fun v10=>(zAG (v5.length:Int) p1).bind fun v11=>(zBG v11 v9).bind fun v12=>(zAG (v8.length:Int) p2).bind fun v13=>(zAI v8 v13 p3).bind fun v14=>(zAI v5 v9 v14).bind fun v15=>some ((Proto.mk (Proto.State p0) v15 (Proto.Wait p0) (Proto.Home p0) (Proto.Dir p0) (Proto.Busy p0) (Proto.Pool p0)))
def zhd:FnT:=⟨[zab,.int .i64,.int .i64,.int .u32],[zab],fun x=>zkW x.1 x.2.1 x.2.2.1 x.2.2.2⟩
def zmZ:TA :=
 .prim (.fld 1) [.v 0]<|.primH (.app 24) (.sl (.sl (.int .u32))) [.c (.sl []),.v 4]<|.prim .idx [.v 5,.v 1]<|.prim .get [.v 5,.v 6]<|.primH (.app 4) (.sl (.int .u32)) [.c (.sl []),.v 7]<|.prim .idx [.v 5,.v 1]<|.prim .get [.v 5,.v 9]<|.prim .idx [.v 5,.v 1]<|.prim .eqi [.v 11,.v 9]<|.prim .idx [.v 8,.v 2]<|.prim .set [.v 8,.v 13,.v 3]<|.prim .set [.v 5,.v 9,.v 14]<|.prim (.fld 0) [.v 0]<|.prim (.fld 1) [.v 0]<|.prim (.fld 2) [.v 0]<|.prim (.fld 3) [.v 0]<|.prim (.fld 4) [.v 0]<|.prim (.fld 5) [.v 0]<|.prim (.fld 6) [.v 0]<|.mkS za7 [.v 16,.v 15,.v 18,.v 19,.v 20,.v 21,.v 22]<|.jmp 0 false [.v 23]
theorem zsl:zad cx 12 46=some zmZ.erase:=by kernel_rfl
theorem zsz:zAH cx 12 noC 46 zhd:=zaA (t:=zmZ) zsl (fun _=>rfl) (zau [] (by kernel_rfl) .nil) (fun x=>by kernel_rfl)
def zav (p0:Int) (p1:Int):Bool :=
 (decide ((0:Int)≤p0))&&(decide (p0<p1))
def zaw:PnT:=⟨[.int .i64,.int .i64],[.bool],fun x=>zav x.1 x.2⟩
def zeR:TA :=
 .subp [.bool] (.prim (.bin .geq) [.v 0,.c (.int .i64 0)]<|.ite (.v 2) (.prim (.bin .lss) [.v 0,.v 1]<|.jmp 0 false [.v 3]) (.jmp 0 false [.c (.bool false)])) 1<|.jmp 0 false [.v 2]
theorem zim:zad cx 12 49=some zeR.erase:=by kernel_rfl
theorem zbn:zAH cx 12 noC 49 zaw.fn:=zt6 (t:=zeR) zim (fun _=>rfl) (zau [] (by kernel_rfl) .nil) (fun x=>by kernel_rfl)
def zfb (p0:Entry) (p1:Int):Option Bool :=
 if (decide (p1<(1:Int)))||((decide ((4:Int)<p1))||((!decide ((List.length (Entry.Share p0):Int)=p1))||((decide ((Entry.Owner p0)<(0:Int)))||(decide (p1<(Entry.Owner p0)))))) then
 some (false)
 else
 (if decide ((Entry.Owner p0)=(0:Int)) then
 some (true)
 else
 (zAF (Entry.Share p0) (w64 ((Entry.Owner p0) - (1:Int)))).bind fun v8=>some ((!v8)):Option Bool).bind fun v3=>some v3
def zct:FnT:=⟨[zan,.int .i64],[.bool],fun x=>zfb x.1 x.2⟩
def ziC:TA :=
 .subp [.bool] (.prim (.bin .lss) [.v 1,.c (.int .i64 1)]<|.ite (.v 2) (.jmp 0 false [.c (.bool true)]) (.prim (.bin .gtr) [.v 1,.c (.int .i64 4)]<|.ite (.v 3) (.jmp 0 false [.c (.bool true)]) (.prim (.fld 1) [.v 0]<|.prim .len [.v 4]<|.prim (.bin .neq) [.v 5,.v 1]<|.ite (.v 6) (.jmp 0 false [.c (.bool true)]) (.prim (.fld 0) [.v 0]<|.prim (.bin .lss) [.v 7,.c (.int .i64 0)]<|.ite (.v 8) (.jmp 0 false [.c (.bool true)]) (.prim (.fld 0) [.v 0]<|.prim (.bin .gtr) [.v 9,.v 1]<|.jmp 0 false [.v 10]))))) 1<|.ite (.v 2) (.jmp 0 false [.c (.bool false)]) (.sub0 [.bool] (.prim (.fld 0) [.v 0]<|.prim (.bin .eql) [.v 3,.c (.int .i64 0)]<|.ite (.v 4) (.jmp 0 false [.c (.bool true)]) (.prim (.fld 1) [.v 0]<|.prim (.fld 0) [.v 0]<|.prim (.bin .sub) [.v 6,.c (.int .i64 1)]<|.prim .get [.v 5,.v 7]<|.prim (.un .not) [.v 8]<|.jmp 0 false [.v 9])) 1<|.jmp 0 false [.v 3])
theorem zor:zad cx 12 52=some ziC.erase:=by kernel_rfl
theorem ziZ:zAH cx 12 noC 52 zct:=zaA (t:=ziC) zor (fun _=>rfl) (zau [] (by kernel_rfl) .nil) (fun x=>by kernel_rfl)
def zeD (x0:Pool) (s:Int):Option (Int⊕Unit⊕Bool) :=
 if decide (s<(List.length (Pool.Frames x0):Int)) then
 (if decide ((63:Int)<s) then
 some (true)
 else
 (zAF (Pool.Frames x0) s).bind fun v7=>some ((!decide ((v7.length:Int)=(19:Int)))):Option Bool).bind fun v5=>if v5 then
 some (Sum.inr (Sum.inr (false)))
 else
 some (Sum.inl (w64 (s + (1:Int))))
 else
 some (Sum.inr (Sum.inl ()))
def zfg (p0:Pool):Option Bool :=
 zaO (zaf (zeD p0) (0:Int):Option (Unit⊕Bool)) fun v1=>some (true)
def zcp:FnT:=⟨[zaJ],[.bool],fun x=>zfg x⟩
def zjr:TA :=
 .sub1 [] (.loop [.int .i64] [.c (.int .i64 0)] (.prim (.fld 0) [.v 0]<|.prim .len [.v 2]<|.prim (.bin .lss) [.v 1,.v 3]<|.ite (.v 4) (.sub0 [.bool] (.prim (.bin .gtr) [.v 1,.c (.int .i64 63)]<|.ite (.v 5) (.jmp 0 false [.c (.bool true)]) (.prim (.fld 0) [.v 0]<|.prim .get [.v 6,.v 1]<|.prim .len [.v 7]<|.prim (.bin .neq) [.v 8,.c (.int .i64 19)]<|.jmp 0 false [.v 9])) 1<|.ite (.v 5) (.jmp 2 false [.c (.bool false)]) (.prim (.bin .add) [.v 1,.c (.int .i64 1)]<|.jmp 0 true [.v 6])) (.jmp 1 false []))) 0<|.jmp 0 false [.c (.bool true)]
theorem zoN:zad cx 12 53=some zjr.erase:=by kernel_rfl
theorem zjm:zAH cx 12 noC 53 zcp:=zaA (t:=zjr) zoN (fun _=>rfl) (zau [] (by kernel_rfl) .nil) (fun x=>by kernel_rfl)
def zb1 (x0:Entry) (x1:Int) (s:Int):Option (Int⊕Unit⊕Bool) :=
 if decide (s<x1) then
 ((zAF (Entry.Share x0) s).bind fun v6=>if v6 then
 some ((decide ((Entry.Owner x0)=(w64 (s + (1:Int))))))
 else
 some (false):Option Bool).bind fun v5=>if v5 then
 some (Sum.inr (Sum.inr (false)))
 else
 some (Sum.inl (w64 (s + (1:Int))))
 else
 some (Sum.inr (Sum.inl ()))
def znC (p0:Entry) (p1:Int):Option Bool :=
 if (decide (p1<(1:Int)))||((decide ((4:Int)<p1))||((!decide ((List.length (Entry.Share p0):Int)=p1))||((decide ((Entry.Owner p0)<(0:Int)))||(decide (p1<(Entry.Owner p0)))))) then
 some (false)
 else
 zaO (zaf (zb1 p0 p1) (0:Int):Option (Unit⊕Bool)) fun v3=>some (true)
def zgI:FnT:=⟨[zan,.int .i64],[.bool],fun x=>znC x.1 x.2⟩
def zmU:TA :=
 .subp [.bool] (.prim (.bin .lss) [.v 1,.c (.int .i64 1)]<|.ite (.v 2) (.jmp 0 false [.c (.bool true)]) (.prim (.bin .gtr) [.v 1,.c (.int .i64 4)]<|.ite (.v 3) (.jmp 0 false [.c (.bool true)]) (.prim (.fld 1) [.v 0]<|.prim .len [.v 4]<|.prim (.bin .neq) [.v 5,.v 1]<|.ite (.v 6) (.jmp 0 false [.c (.bool true)]) (.prim (.fld 0) [.v 0]<|.prim (.bin .lss) [.v 7,.c (.int .i64 0)]<|.ite (.v 8) (.jmp 0 false [.c (.bool true)]) (.prim (.fld 0) [.v 0]<|.prim (.bin .gtr) [.v 9,.v 1]<|.jmp 0 false [.v 10]))))) 1<|.ite (.v 2) (.jmp 0 false [.c (.bool false)]) (.sub1 [] (.loop [.int .i64] [.c (.int .i64 0)] (.prim (.bin .lss) [.v 3,.v 1]<|.ite (.v 4) (.sub0 [.bool] (.prim (.fld 1) [.v 0]<|.prim .get [.v 5,.v 3]<|.ite (.v 6) (.prim (.fld 0) [.v 0]<|.prim (.bin .add) [.v 3,.c (.int .i64 1)]<|.prim (.bin .eql) [.v 7,.v 8]<|.jmp 0 false [.v 9]) (.jmp 0 false [.c (.bool false)])) 1<|.ite (.v 5) (.jmp 2 false [.c (.bool false)]) (.prim (.bin .add) [.v 3,.c (.int .i64 1)]<|.jmp 0 true [.v 6])) (.jmp 1 false []))) 0<|.jmp 0 false [.c (.bool true)])
theorem zr7:zad cx 12 54=some zmU.erase:=by kernel_rfl
theorem zta:zAH cx 12 noC 54 zgI:=zaA (t:=zmU) zr7 (fun _=>rfl) (zau [] (by kernel_rfl) .nil) (fun x=>by kernel_rfl)
def zj3 (p0:Int):Option (Entry×Int) :=
 if (decide (p0<(1:Int)))||(decide ((4:Int)<p0)) then
 some (((Entry.mk (0:Int) ([]:List Bool)),(1:Int)))
 else
 (zA2 false 1 p0 p0).bind fun v2=>some ((Entry.mk (0:Int) v2,(0:Int)))
def zje:FnT:=⟨[.int .i64],[zan,.int .i64],fun x=>zj3 x⟩
def zit:TA :=
 .subp [.bool] (.prim (.bin .lss) [.v 0,.c (.int .i64 1)]<|.ite (.v 1) (.jmp 0 false [.c (.bool true)]) (.prim (.bin .gtr) [.v 0,.c (.int .i64 4)]<|.jmp 0 false [.v 2])) 1<|.ite (.v 1) (.jmp 0 false [.c (.agg [(.int .i64 0),.nil]),.c (.int .i64 1)]) (.primH (.rep (.bool false) 1) (.sl .bool) [.v 0,.v 0]<|.mkS zbl [.c (.int .i64 0),.v 2]<|.jmp 0 false [.v 3,.c (.int .i64 0)])
theorem znj:zad cx 12 55=some zit.erase:=by kernel_rfl
theorem zt2:zAH cx 12 noC 55 zje:=zaA (t:=zit) znj (fun _=>rfl) (zau [] (by kernel_rfl) .nil) (fun x=>by kernel_rfl)
def zto (p0:Int):Option (Entry×Int) :=
 if (decide (p0<(1:Int)))||(decide ((4:Int)<p0)) then
 some (((Entry.mk (0:Int) ([]:List Bool)),(1:Int)))
 else
 (zA2 false 1 p0 p0).bind fun v2=>some ((Entry.mk (0:Int) v2,(0:Int)))
def zn5:FnT:=⟨[.int .i64],[zan,.int .i64],fun x=>zto x⟩
def zoh:TA :=
 .subp [.bool] (.prim (.bin .lss) [.v 0,.c (.int .i64 1)]<|.ite (.v 1) (.jmp 0 false [.c (.bool true)]) (.prim (.bin .gtr) [.v 0,.c (.int .i64 4)]<|.jmp 0 false [.v 2])) 1<|.ite (.v 1) (.jmp 0 false [.c (.agg [(.int .i64 0),.nil]),.c (.int .i64 1)]) (.primH (.rep (.bool false) 1) (.sl .bool) [.v 0,.v 0]<|.mkS zbl [.c (.int .i64 0),.v 2]<|.jmp 0 false [.v 3,.c (.int .i64 0)])
theorem zrM:zad cx 12 56=some zoh.erase:=by kernel_rfl
theorem zw9:zAH cx 12 noC 56 zn5:=zaA (t:=zoh) zrM (fun _=>rfl) (zau [] (by kernel_rfl) .nil) (fun x=>by kernel_rfl)
def zcU (p0:Int):Bool :=
 decide ((2:Int)≤p0)
def zdj:PnT:=⟨[.int .i64],[.bool],fun x=>zcU x⟩
def zhi:TA :=
 .prim (.bin .geq) [.v 0,.c (.int .i64 2)]<|.jmp 0 false [.v 1]
theorem zlQ:zad cx 12 69=some zhi.erase:=by kernel_rfl
theorem zma:zAH cx 12 noC 69 zdj.fn:=zt6 (t:=zhi) zlQ (fun _=>rfl) (zau [] (by kernel_rfl) .nil) (fun x=>by kernel_rfl)
def zmz (p0:Proto) (p1:Int) (p2:Int):Option Proto :=
 (zAK 4 ([]:List Int) (Proto.Home p0)).bind fun v4=>(zAG (v4.length:Int) p1).bind fun v5=>(zAI v4 v5 p2).bind fun v6=>some ((Proto.mk (Proto.State p0) (Proto.Val p0) (Proto.Wait p0) v6 (Proto.Dir p0) (Proto.Busy p0) (Proto.Pool p0)))
def zlb:FnT:=⟨[zab,.int .i64,.int .u32],[zab],fun x=>zmz x.1 x.2.1 x.2.2⟩
def zkF:TA :=
 .prim (.fld 3) [.v 0]<|.primH (.app 4) (.sl (.int .u32)) [.c (.sl []),.v 3]<|.prim .idx [.v 4,.v 1]<|.prim .set [.v 4,.v 5,.v 2]<|.prim (.fld 0) [.v 0]<|.prim (.fld 1) [.v 0]<|.prim (.fld 2) [.v 0]<|.prim (.fld 3) [.v 0]<|.prim (.fld 4) [.v 0]<|.prim (.fld 5) [.v 0]<|.prim (.fld 6) [.v 0]<|.mkS za7 [.v 7,.v 8,.v 9,.v 6,.v 11,.v 12,.v 13]<|.jmp 0 false [.v 14]
theorem zqk:zad cx 12 78=some zkF.erase:=by kernel_rfl
theorem zvP:zAH cx 12 noC 78 zlb:=zaA (t:=zkF) zqk (fun _=>rfl) (zau [] (by kernel_rfl) .nil) (fun x=>by kernel_rfl)
def zoa (p0:Proto) (p1:Int) (p2:Entry):Option Proto :=
 (zAK 32 ([]:List Entry) (Proto.Dir p0)).bind fun v4=>(zAG (v4.length:Int) p1).bind fun v5=>(zAI v4 v5 p2).bind fun v6=>some ((Proto.mk (Proto.State p0) (Proto.Val p0) (Proto.Wait p0) (Proto.Home p0) v6 (Proto.Busy p0) (Proto.Pool p0)))
def zhA:FnT:=⟨[zab,.int .i64,zan],[zab],fun x=>zoa x.1 x.2.1 x.2.2⟩
def zmN:TA :=
 .prim (.fld 4) [.v 0]<|.primH (.app 32) (.sl zan) [.c (.sl []),.v 3]<|.prim .idx [.v 4,.v 1]<|.prim .set [.v 4,.v 5,.v 2]<|.prim (.fld 0) [.v 0]<|.prim (.fld 1) [.v 0]<|.prim (.fld 2) [.v 0]<|.prim (.fld 3) [.v 0]<|.prim (.fld 4) [.v 0]<|.prim (.fld 5) [.v 0]<|.prim (.fld 6) [.v 0]<|.mkS za7 [.v 7,.v 8,.v 9,.v 10,.v 6,.v 12,.v 13]<|.jmp 0 false [.v 14]
theorem zsG:zad cx 12 79=some zmN.erase:=by kernel_rfl
theorem zr2:zAH cx 12 noC 79 zhA:=zaA (t:=zmN) zsG (fun _=>rfl) (zau [] (by kernel_rfl) .nil) (fun x=>by kernel_rfl)
def zjM (p0:Proto) (p1:Int) (p2:Int):Option Proto :=
 (zAK 8 ([]:List Int) (Proto.Busy p0)).bind fun v4=>(zAG (v4.length:Int) p1).bind fun v5=>(zAI v4 v5 p2).bind fun v6=>some ((Proto.mk (Proto.State p0) (Proto.Val p0) (Proto.Wait p0) (Proto.Home p0) (Proto.Dir p0) v6 (Proto.Pool p0)))
def zfj:FnT:=⟨[zab,.int .i64,.int .i64],[zab],fun x=>zjM x.1 x.2.1 x.2.2⟩
def zkQ:TA :=
 .prim (.fld 5) [.v 0]<|.primH (.app 8) (.sl (.int .i64)) [.c (.sl []),.v 3]<|.prim .idx [.v 4,.v 1]<|.prim .set [.v 4,.v 5,.v 2]<|.prim (.fld 0) [.v 0]<|.prim (.fld 1) [.v 0]<|.prim (.fld 2) [.v 0]<|.prim (.fld 3) [.v 0]<|.prim (.fld 4) [.v 0]<|.prim (.fld 5) [.v 0]<|.prim (.fld 6) [.v 0]<|.mkS za7 [.v 7,.v 8,.v 9,.v 10,.v 11,.v 6,.v 13]<|.jmp 0 false [.v 14]
theorem zpr:zad cx 12 80=some zkQ.erase:=by kernel_rfl
theorem zpP:zAH cx 12 noC 80 zfj:=zaA (t:=zkQ) zpr (fun _=>rfl) (zau [] (by kernel_rfl) .nil) (fun x=>by kernel_rfl)
def zbv (x0:List (List Int)) (x2:Int) (x5:Int) (s:Int):Option (Int⊕Unit⊕Int) :=
 if decide (s<x5) then
 (zAF x0 s).bind fun v8=>if !decide ((v8.length:Int)=x2) then
 some (Sum.inr (Sum.inr (s)))
 else
 some (Sum.inl (w64 (s + (1:Int))))
 else
 some (Sum.inr (Sum.inl ()))
def zde (p0:List (List Int)) (p1:Int) (p2:Int):Option Bool :=
 (if decide ((p0.length:Int)=p1) then
 ((let v5:Int:=(p0.length:Int)
 zaO (zaf (zbv p0 p2 v5) (0:Int):Option (Unit⊕Int)) fun v6=>some ((-1:Int)):Option Int).bind fun v5=>some ((decide ((0:Int)≤v5))):Option Bool).bind fun v5=>some ((!v5))
 else
 some (false):Option Bool).bind fun v3=>some v3
def zdI:FnT:=⟨[.sl (.sl (.int .i64)),.int .i64,.int .i64],[.bool],fun x=>zde x.1 x.2.1 x.2.2⟩
def zdH:TA :=
 .sub0 [.bool] (.prim .len [.v 0]<|.prim (.bin .eql) [.v 3,.v 1]<|.ite (.v 4) (.sub0 [.bool] (.sub0 [.int .i64] (.prim .len [.v 0]<|.sub1 [] (.loop [.int .i64] [.c (.int .i64 0)] (.prim (.bin .lss) [.v 6,.v 5]<|.ite (.v 7) (.prim .get [.v 0,.v 6]<|.subp [.bool] (.prim .len [.v 8]<|.prim (.bin .neq) [.v 9,.v 2]<|.jmp 0 false [.v 10]) 1<|.ite (.v 9) (.jmp 2 false [.v 6]) (.prim (.bin .add) [.v 6,.c (.int .i64 1)]<|.jmp 0 true [.v 10])) (.jmp 1 false []))) 0<|.jmp 0 false [.c (.int .i64 (-1))]) 1<|.prim (.bin .geq) [.v 5,.c (.int .i64 0)]<|.jmp 0 false [.v 6]) 1<|.prim (.un .not) [.v 5]<|.jmp 0 false [.v 6]) (.jmp 0 false [.c (.bool false)])) 1<|.jmp 0 false [.v 3]
theorem zgE:zad cx 12 82=some zdH.erase:=by kernel_rfl
theorem zmh:zAH cx 12 noC 82 zdI:=zaA (t:=zdH) zgE (fun _=>rfl) (zau [] (by kernel_rfl) .nil) (fun x=>by kernel_rfl)
def zcS (p0:List (List Int)) (p1:Int) (p2:Int):Option Bool :=
 (if decide ((p0.length:Int)=p1) then
 ((let v5:Int:=(p0.length:Int)
 zaO (zaf (zbv p0 p2 v5) (0:Int):Option (Unit⊕Int)) fun v6=>some ((-1:Int)):Option Int).bind fun v5=>some ((decide ((0:Int)≤v5))):Option Bool).bind fun v5=>some ((!v5))
 else
 some (false):Option Bool).bind fun v3=>some v3
def zcv:FnT:=⟨[.sl (.sl (.int .u32)),.int .i64,.int .i64],[.bool],fun x=>zcS x.1 x.2.1 x.2.2⟩
def zcx:TA :=
 .sub0 [.bool] (.prim .len [.v 0]<|.prim (.bin .eql) [.v 3,.v 1]<|.ite (.v 4) (.sub0 [.bool] (.sub0 [.int .i64] (.prim .len [.v 0]<|.sub1 [] (.loop [.int .i64] [.c (.int .i64 0)] (.prim (.bin .lss) [.v 6,.v 5]<|.ite (.v 7) (.prim .get [.v 0,.v 6]<|.subp [.bool] (.prim .len [.v 8]<|.prim (.bin .neq) [.v 9,.v 2]<|.jmp 0 false [.v 10]) 1<|.ite (.v 9) (.jmp 2 false [.v 6]) (.prim (.bin .add) [.v 6,.c (.int .i64 1)]<|.jmp 0 true [.v 10])) (.jmp 1 false []))) 0<|.jmp 0 false [.c (.int .i64 (-1))]) 1<|.prim (.bin .geq) [.v 5,.c (.int .i64 0)]<|.jmp 0 false [.v 6]) 1<|.prim (.un .not) [.v 5]<|.jmp 0 false [.v 6]) (.jmp 0 false [.c (.bool false)])) 1<|.jmp 0 false [.v 3]
theorem zd3:zad cx 12 83=some zcx.erase:=by kernel_rfl
theorem zju:zAH cx 12 noC 83 zcv:=zaA (t:=zcx) zd3 (fun _=>rfl) (zau [] (by kernel_rfl) .nil) (fun x=>by kernel_rfl)
def zhz (p0:List Int):Bool :=
 !decide ((p0.length:Int)=(19:Int))
def ze1:PnT:=⟨[.sl (.int .u8)],[.bool],fun x=>zhz x⟩
def zeS:TA :=
 .prim .len [.v 0]<|.prim (.bin .neq) [.v 1,.c (.int .i64 19)]<|.jmp 0 false [.v 2]
theorem zic:zad cx 12 85=some zeS.erase:=by kernel_rfl
theorem zo0:zAH cx 12 noC 85 ze1.fn:=zt6 (t:=zeS) zic (fun _=>rfl) (zau [] (by kernel_rfl) .nil) (fun x=>by kernel_rfl)
def zdV (x1:List Int) (s:(Int×Int)):Option ((Int×Int)⊕Int) :=
 if decide (s.2<(4:Int)) then
 (zAF x1 s.2).bind fun v5=>(zBI .u32 s.1 (8:Int)).bind fun v6=>some (Sum.inl (bOr .u32 v6 (zBe v5),w64 (s.2 + (1:Int))))
 else
 some (Sum.inr (s.1))
def zgu (p0:List Int):Option Int :=
 let v1:List Int:=zBH ([(0:Int),(0:Int),(0:Int),(0:Int)]:List Int) p0
 (zaf (zdV v1) ((0:Int),(0:Int)):Option Int).bind fun v2=>some v2
def zes:FnT:=⟨[.sl (.int .u8)],[.int .u32],fun x=>zgu x⟩
def znx:TA :=
 .primH .cpy (.arr 4 (.int .u8)) [.c (.agg [(.int .u8 0),(.int .u8 0),(.int .u8 0),(.int .u8 0)]),.v 0]<|.sub0 [.int .u32] (.loop [.int .u32,.int .i64] [.c (.int .u32 0),.c (.int .i64 0)] (.prim (.bin .lss) [.v 3,.c (.int .i64 4)]<|.ite (.v 4) (.prim .get [.v 1,.v 3]<|.prim (.bin .shl) [.v 2,.c (.int .u64 8)]<|.prim (.conv .u32) [.v 5]<|.prim (.bin .or) [.v 6,.v 7]<|.prim (.bin .add) [.v 3,.c (.int .i64 1)]<|.jmp 0 true [.v 8,.v 9]) (.jmp 1 false [.v 2]))) 1<|.jmp 0 false [.v 2]
theorem zsc:zad cx 12 91=some znx.erase:=by kernel_rfl
theorem zox:zAH cx 12 noC 91 zes:=zaA (t:=znx) zsc (fun _=>rfl) (zau [] (by kernel_rfl) .nil) (fun x=>by kernel_rfl)
def zdk (s:(Int×Int)):Option ((Int×Int)⊕Int) :=
 if decide (s.2<(8:Int)) then
 (zBj .u32 s.1 (1:Int)).bind fun v13=>some (Sum.inl (bif decide ((zBL .u32 s.1 (1:Int))=(1:Int)) then zBl .u32 v13 (3988292384:Int) else v13,w64 (s.2 + (1:Int))))
 else
 some (Sum.inr (s.1))
def zez (x0:List Int) (x1:Int) (s:(Int×Int)):Option ((Int×Int)⊕Int) :=
 if decide (s.2<x1) then
 (zAF x0 s.2).bind fun v5=>(zaf zdk (zBl .u32 s.1 (zBe v5),(0:Int)):Option Int).bind fun v8=>some (Sum.inl (v8,w64 (s.2 + (1:Int))))
 else
 some (Sum.inr (s.1))
def zd7 (p0:List Int):Option Int :=
 let v1:Int:=(p0.length:Int)
 (zaf (zez p0 v1) ((4294967295:Int),(0:Int)):Option Int).bind fun v2=>some ((zBK .u32 v2))
def zd8:FnT:=⟨[.sl (.int .u8)],[.int .u32],fun x=>zd7 x⟩
def ziH:TA :=
 .prim .len [.v 0]<|.sub0 [.int .u32] (.loop [.int .u32,.int .i64] [.c (.int .u32 4294967295),.c (.int .i64 0)] (.prim (.bin .lss) [.v 3,.v 1]<|.ite (.v 4) (.prim .get [.v 0,.v 3]<|.prim (.conv .u32) [.v 5]<|.prim (.bin .xor) [.v 2,.v 6]<|.sub0 [.int .u32] (.loop [.int .u32,.int .i64] [.v 7,.c (.int .i64 0)] (.prim (.bin .lss) [.v 9,.c (.int .i64 8)]<|.ite (.v 10) (.prim (.bin .and) [.v 8,.c (.int .u32 1)]<|.prim (.bin .eql) [.v 11,.c (.int .u32 1)]<|.prim (.bin .shr) [.v 8,.c (.int .u64 1)]<|.subp [.int .u32] (.ite (.v 12) (.prim (.bin .xor) [.v 13,.c (.int .u32 3988292384)]<|.jmp 0 false [.v 14]) (.jmp 0 false [.v 13])) 1<|.prim (.bin .add) [.v 9,.c (.int .i64 1)]<|.jmp 0 true [.v 14,.v 15]) (.jmp 1 false [.v 8]))) 1<|.prim (.bin .add) [.v 3,.c (.int .i64 1)]<|.jmp 0 true [.v 8,.v 9]) (.jmp 1 false [.v 2]))) 1<|.prim (.un .xor) [.v 2]<|.jmp 0 false [.v 3]
theorem zop:zad cx 12 92=some ziH.erase:=by kernel_rfl
theorem zoK:zAH cx 12 noC 92 zd8:=zaA (t:=ziH) zop (fun _=>rfl) (zau [] (by kernel_rfl) .nil) (fun x=>by kernel_rfl)
def bytes_Equal (p0:List Int) (p1:List Int):Option Bool :=
 (zBb p0).bind fun v2 =>
 (zBb p1).bind fun v3 =>
 some ((decide (v2=v3)))
def zf4:FnT:=⟨[.sl (.int .u8),.sl (.int .u8)],[.bool],fun x=>bytes_Equal x.1 x.2⟩
def zfT:TA :=
 .prim .b2s [.v 0]<|.prim .b2s [.v 1]<|.prim (.bin .eql) [.v 2,.v 3]<|.jmp 0 false [.v 4]
theorem zkk:zad cx 12 94=some zfT.erase:=by kernel_rfl
theorem zqs:zAH cx 12 noC 94 zf4:=zaA (t:=zfT) zkk (fun _=>rfl) (zau [] (by kernel_rfl) .nil) (fun x=>by kernel_rfl)
def zel (p0:Int):Option (List Int) :=
 (zBf .u32 p0 (16777216:Int)).bind fun v1=>(zBf .u32 p0 (65536:Int)).bind fun v3=>(zAX v3 (256:Int)).bind fun v4=>(zBf .u32 p0 (256:Int)).bind fun v6=>(zAX v6 (256:Int)).bind fun v7=>(zAX p0 (256:Int)).bind fun v9=>some (([wu8 v1,wu8 v4,wu8 v7,wu8 v9]:List Int))
def zbA:FnT:=⟨[.int .u32],[.sl (.int .u8)],fun x=>zel x⟩
def ziT:TA :=
 .prim (.bin .quo) [.v 0,.c (.int .u32 16777216)]<|.prim (.conv .u8) [.v 1]<|.prim (.bin .quo) [.v 0,.c (.int .u32 65536)]<|.prim (.bin .rem) [.v 3,.c (.int .u32 256)]<|.prim (.conv .u8) [.v 4]<|.prim (.bin .quo) [.v 0,.c (.int .u32 256)]<|.prim (.bin .rem) [.v 6,.c (.int .u32 256)]<|.prim (.conv .u8) [.v 7]<|.prim (.bin .rem) [.v 0,.c (.int .u32 256)]<|.prim (.conv .u8) [.v 9]<|.mkL (.int .u8) [.v 2,.v 5,.v 8,.v 10]<|.jmp 0 false [.v 11]
theorem znJ:zad cx 12 102=some ziT.erase:=by kernel_rfl
theorem zfX:zAH cx 12 noC 102 zbA:=zaA (t:=ziT) znJ (fun _=>rfl) (zau [] (by kernel_rfl) .nil) (fun x=>by kernel_rfl)
def zfa (s:(Int×Int)):Option ((Int×Int)⊕Int) :=
 if decide (s.2<(8:Int)) then
 (zAX s.1 (2:Int)).bind fun v11=>(if decide (v11=(1:Int)) then
 (zBf .u32 s.1 (2:Int)).bind fun v13=>some ((zBl .u32 v13 (3988292384:Int)))
 else
 (zBf .u32 s.1 (2:Int)).bind fun v13=>some (v13):Option Int).bind fun v13=>some (Sum.inl (v13,w64 (s.2 + (1:Int))))
 else
 some (Sum.inr (s.1))
def zhP (x0:List Int) (s:(Int×Int)):Option ((Int×Int)⊕Int) :=
 if decide (s.2<(x0.length:Int)) then
 (zAF x0 s.2).bind fun v5=>(zaf zfa (zBl .u32 s.1 (zBe v5),(0:Int)):Option Int).bind fun v8=>some (Sum.inl (v8,w64 (s.2 + (1:Int))))
 else
 some (Sum.inr (s.1))
def zk4 (p0:List Int):Option Int :=
 (zaf (zhP p0) ((4294967295:Int),(0:Int)):Option Int).bind fun v1=>some ((zBe ((4294967295:Int) - v1)))
def zhs:FnT:=⟨[.sl (.int .u8)],[.int .u32],fun x=>zk4 x⟩
def zoc:TA :=
 .sub0 [.int .u32] (.loop [.int .u32,.int .i64] [.c (.int .u32 4294967295),.c (.int .i64 0)] (.prim .len [.v 0]<|.prim (.bin .lss) [.v 2,.v 3]<|.ite (.v 4) (.prim .get [.v 0,.v 2]<|.prim (.conv .u32) [.v 5]<|.prim (.bin .xor) [.v 1,.v 6]<|.sub0 [.int .u32] (.loop [.int .u32,.int .i64] [.v 7,.c (.int .i64 0)] (.prim (.bin .lss) [.v 9,.c (.int .i64 8)]<|.ite (.v 10) (.prim (.bin .rem) [.v 8,.c (.int .u32 2)]<|.prim (.bin .eql) [.v 11,.c (.int .u32 1)]<|.sub0 [.int .u32] (.ite (.v 12) (.prim (.bin .quo) [.v 8,.c (.int .u32 2)]<|.prim (.bin .xor) [.v 13,.c (.int .u32 3988292384)]<|.jmp 0 false [.v 14]) (.prim (.bin .quo) [.v 8,.c (.int .u32 2)]<|.jmp 0 false [.v 13])) 1<|.prim (.bin .add) [.v 9,.c (.int .i64 1)]<|.jmp 0 true [.v 13,.v 14]) (.jmp 1 false [.v 8]))) 1<|.prim (.bin .add) [.v 2,.c (.int .i64 1)]<|.jmp 0 true [.v 8,.v 9]) (.jmp 1 false [.v 1]))) 1<|.prim (.bin .sub) [.c (.int .u32 4294967295),.v 1]<|.jmp 0 false [.v 2]
theorem zrP:zad cx 12 103=some zoc.erase:=by kernel_rfl
theorem zsE:zAH cx 12 noC 103 zhs:=zaA (t:=zoc) zrP (fun _=>rfl) (zau [] (by kernel_rfl) .nil) (fun x=>by kernel_rfl)
def zfu (x0:List Int) (s:(Int×Int)):Option ((Int×Int)⊕Int) :=
 if decide (s.2<(4:Int)) then
 let v4:Int:=zBe (s.1 * (256:Int))
 (if decide (s.2<(x0.length:Int)) then
 (zAF x0 s.2).bind fun v7=>some ((zBe (v4 + (zBe v7))))
 else
 some (v4):Option Int).bind fun v7=>some (Sum.inl (v7,w64 (s.2 + (1:Int))))
 else
 some (Sum.inr (s.1))
def zst (p0:List Int):Option Int :=
 (zaf (zfu p0) ((0:Int),(0:Int)):Option Int).bind fun v1=>some v1
def zkr:FnT:=⟨[.sl (.int .u8)],[.int .u32],fun x=>zst x⟩
def zqG:TA :=
 .sub0 [.int .u32] (.loop [.int .u32,.int .i64] [.c (.int .u32 0),.c (.int .i64 0)] (.prim (.bin .lss) [.v 2,.c (.int .i64 4)]<|.ite (.v 3) (.prim (.bin .mul) [.v 1,.c (.int .u32 256)]<|.prim .len [.v 0]<|.prim (.bin .lss) [.v 2,.v 5]<|.sub0 [.int .u32] (.ite (.v 6) (.prim .get [.v 0,.v 2]<|.prim (.conv .u32) [.v 7]<|.prim (.bin .add) [.v 4,.v 8]<|.jmp 0 false [.v 9]) (.jmp 0 false [.v 4])) 1<|.prim (.bin .add) [.v 2,.c (.int .i64 1)]<|.jmp 0 true [.v 7,.v 8]) (.jmp 1 false [.v 1]))) 1<|.jmp 0 false [.v 1]
theorem zvm:zad cx 12 104=some zqG.erase:=by kernel_rfl
theorem zuW:zAH cx 12 noC 104 zkr:=zaA (t:=zqG) zvm (fun _=>rfl) (zau [] (by kernel_rfl) .nil) (fun x=>by kernel_rfl)
def zbZ (x0:Entry) (x1:Int) (s:(Int×(List Int))):Option ((Int×(List Int))⊕(List Int)) :=
 if decide (s.1<(List.length (Entry.Share x0):Int)) then
 ((zAF (Entry.Share x0) s.1).bind fun v8=>if v8 then
 some ((!decide (s.1=x1)))
 else
 some (false):Option Bool).bind fun v7=>(if v7 then
 (zAK 8 s.2 ([s.1]:List Int)).bind fun v9=>some v9
 else
 some (s.2):Option (List Int)).bind fun v8=>some (Sum.inl (w64 (s.1 + (1:Int)),v8))
 else
 some (Sum.inr (s.2))
def zcD (p0:Entry) (p1:Int):Option (List Int) :=
 (zaf (zbZ p0 p1) ((0:Int),([]:List Int)):Option (List Int)).bind fun v2=>some v2
def zbP:FnT:=⟨[zan,.int .i64],[.sl (.int .i64)],fun x=>zcD x.1 x.2⟩
def zhC:TA :=
 .sub0 [.sl (.int .i64)] (.loop [.int .i64,.sl (.int .i64)] [.c (.int .i64 0),.c .nil] (.prim (.fld 1) [.v 0]<|.prim .len [.v 4]<|.prim (.bin .lss) [.v 2,.v 5]<|.ite (.v 6) (.sub0 [.bool] (.prim (.fld 1) [.v 0]<|.prim .get [.v 7,.v 2]<|.ite (.v 8) (.prim (.bin .neq) [.v 2,.v 1]<|.jmp 0 false [.v 9]) (.jmp 0 false [.c (.bool false)])) 1<|.sub0 [.sl (.int .i64)] (.ite (.v 7) (.mkL (.int .i64) [.v 2]<|.prim (.app 8) [.v 3,.v 8]<|.jmp 0 false [.v 9]) (.jmp 0 false [.v 3])) 1<|.prim (.bin .add) [.v 2,.c (.int .i64 1)]<|.jmp 0 true [.v 9,.v 8]) (.jmp 1 false [.v 3]))) 1<|.jmp 0 false [.v 2]
theorem zlY:zad cx 12 107=some zhC.erase:=by kernel_rfl
theorem zgK:zAH cx 12 noC 107 zbP:=zaA (t:=zhC) zlY (fun _=>rfl) (zau [] (by kernel_rfl) .nil) (fun x=>by kernel_rfl)
def zaa (p0:Int):Bool :=
 (decide ((0:Int)≤p0))&&(decide (p0≤(255:Int)))
def zeP:PnT:=⟨[.int .i64],[.bool],fun x=>zaa x⟩
def zeV:TA :=
 .subp [.bool] (.prim (.bin .geq) [.v 0,.c (.int .i64 0)]<|.ite (.v 1) (.prim (.bin .leq) [.v 0,.c (.int .i64 255)]<|.jmp 0 false [.v 2]) (.jmp 0 false [.c (.bool false)])) 1<|.jmp 0 false [.v 1]
theorem zh7:zad cx 12 117=some zeV.erase:=by kernel_rfl
theorem zo8:zAH cx 12 noC 117 zeP.fn:=zt6 (t:=zeV) zh7 (fun _=>rfl) (zau [] (by kernel_rfl) .nil) (fun x=>by kernel_rfl)
def zdS (p0:Int):Option (List Int) :=
 (zBj .u32 p0 (24:Int)).bind fun v1=>(zBj .u32 p0 (16:Int)).bind fun v3=>(zBj .u32 p0 (8:Int)).bind fun v5=>some (([wu8 v1,wu8 v3,wu8 v5,wu8 p0]:List Int))
def zbR:FnT:=⟨[.int .u32],[.sl (.int .u8)],fun x=>zdS x⟩
def zgT:TA :=
 .prim (.bin .shr) [.v 0,.c (.int .u64 24)]<|.prim (.conv .u8) [.v 1]<|.prim (.bin .shr) [.v 0,.c (.int .u64 16)]<|.prim (.conv .u8) [.v 3]<|.prim (.bin .shr) [.v 0,.c (.int .u64 8)]<|.prim (.conv .u8) [.v 5]<|.prim (.conv .u8) [.v 0]<|.mkL (.int .u8) [.v 2,.v 4,.v 6,.v 7]<|.jmp 0 false [.v 8]
theorem zlS:zad cx 12 119=some zgT.erase:=by kernel_rfl
theorem zhE:zAH cx 12 noC 119 zbR:=zaA (t:=zgT) zlS (fun _=>rfl) (zau [] (by kernel_rfl) .nil) (fun x=>by kernel_rfl)
def zqM (p0:List Bool) (p1:Int) (p2:Bool):Option (List Bool) :=
 (zAK 1 ([]:List Bool) p0).bind fun v3=>(zAG (v3.length:Int) p1).bind fun v4=>(zAI v3 v4 p2).bind fun v5=>some v5
def zm6:FnT:=⟨[.sl .bool,.int .i64,.bool],[.sl .bool],fun x=>zqM x.1 x.2.1 x.2.2⟩
def zol:TA :=
 .primH (.app 1) (.sl .bool) [.c (.sl []),.v 0]<|.prim .idx [.v 3,.v 1]<|.prim .set [.v 3,.v 4,.v 2]<|.jmp 0 false [.v 5]
theorem zsC:zad cx 12 124=some zol.erase:=by kernel_rfl
theorem zxD:zAH cx 12 noC 124 zm6:=zaA (t:=zol) zsC (fun _=>rfl) (zau [] (by kernel_rfl) .nil) (fun x=>by kernel_rfl)
def zq9 (p0:Pool) (p1:List Int):Option (Pool×Int) :=
 if decide ((64:Int)≤(List.length (Pool.Frames p0):Int)) then
 some (p0,6)
 else
 (zAK 24 ([]:List (List Int)) (Pool.Frames p0)).bind fun v6=>(zAK 24 v6 ([p1]:List (List Int))).bind fun v8=>some ((Pool.mk v8,(0:Int)))
def zoA:FnT:=⟨[zaJ,.sl (.int .u8)],[zaJ,.int .i64],fun x=>zq9 x.1 x.2⟩
def zmY:TA :=
 .prim (.fld 0) [.v 0]<|.prim .len [.v 2]<|.prim (.bin .geq) [.v 3,.c (.int .i64 64)]<|.ite (.v 4) (.jmp 0 false [.v 0,.c (.int .i64 6)]) (.prim (.fld 0) [.v 0]<|.primH (.app 24) (.sl (.sl (.int .u8))) [.c (.sl []),.v 5]<|.mkL (.sl (.int .u8)) [.v 1]<|.prim (.app 24) [.v 6,.v 7]<|.mkS zb6 [.v 8]<|.jmp 0 false [.v 9,.c (.int .i64 0)])
theorem zsA:zad cx 12 126=some zmY.erase:=by kernel_rfl
theorem zxc:zAH cx 12 noC 126 zoA:=zaA (t:=zmY) zsA (fun _=>rfl) (zau [] (by kernel_rfl) .nil) (fun x=>by kernel_rfl)
def zak (x0:List Bool) (x1:Bool) (x2:Int) (s:Int):Option (Int⊕Unit⊕Int) :=
 if decide (s<x2) then
 (zAF x0 s).bind fun v5=>if decide (x1=v5) then
 some (Sum.inr (Sum.inr (s)))
 else
 some (Sum.inl (w64 (s + (1:Int))))
 else
 some (Sum.inr (Sum.inl ()))
def zaT (p0:List Bool) (p1:Bool):Option Int :=
 let v2:Int:=(p0.length:Int)
 zaO (zaf (zak p0 p1 v2) (0:Int):Option (Unit⊕Int)) fun v3=>some ((-1:Int))
def zbt:FnT:=⟨[.sl .bool,.bool],[.int .i64],fun x=>zaT x.1 x.2⟩
def zbr:TA :=
 .prim .len [.v 0]<|.sub1 [] (.loop [.int .i64] [.c (.int .i64 0)] (.prim (.bin .lss) [.v 3,.v 2]<|.ite (.v 4) (.prim .get [.v 0,.v 3]<|.prim (.bin .eql) [.v 1,.v 5]<|.ite (.v 6) (.jmp 2 false [.v 3]) (.prim (.bin .add) [.v 3,.c (.int .i64 1)]<|.jmp 0 true [.v 7])) (.jmp 1 false []))) 0<|.jmp 0 false [.c (.int .i64 (-1))]
theorem zcC:zad cx 12 130=some zbr.erase:=by kernel_rfl
theorem zfy:zAH cx 12 noC 130 zbt:=zaA (t:=zbr) zcC (fun _=>rfl) (zau [] (by kernel_rfl) .nil) (fun x=>by kernel_rfl)
def zhR (x6:List Int) (s:Int):Option (Int⊕Unit⊕Bool) :=
 if decide (s<(5:Int)) then
 ((zAG (5:Int) s).bind fun v9=>(zAF x6 v9).bind fun v10=>if decide (v10<(0:Int)) then
 some (true)
 else
 (zAG (5:Int) s).bind fun v12=>(zAF x6 v12).bind fun v13=>some ((decide ((255:Int)<v13))):Option Bool).bind fun v9=>if v9 then
 some (Sum.inr (Sum.inr (false)))
 else
 some (Sum.inl (w64 (s + (1:Int))))
 else
 some (Sum.inr (Sum.inl ()))
def zro (p0:Msg):Option Bool :=
 let v6:List Int:=([Msg.From p0,Msg.To p0,Msg.Line p0,Msg.For p0,Msg.Acks p0]:List Int)
 zaO (zaf (zhR v6) (0:Int):Option (Unit⊕Bool)) fun v7=>some (((decide ((0:Int)<(Msg.Kind p0)))&&(decide ((Msg.Kind p0)<(12:Int)))))
def znL:FnT:=⟨[zAR],[.bool],fun x=>zro x⟩
def zmV:TA :=
 .prim (.fld 1) [.v 0]<|.prim (.fld 2) [.v 0]<|.prim (.fld 3) [.v 0]<|.prim (.fld 4) [.v 0]<|.prim (.fld 5) [.v 0]<|.mkA 5 (.int .i64) [.v 1,.v 2,.v 3,.v 4,.v 5]<|.sub1 [] (.loop [.int .i64] [.c (.int .i64 0)] (.prim (.bin .lss) [.v 7,.c (.int .i64 5)]<|.ite (.v 8) (.sub0 [.bool] (.prim (.idxn 5) [.v 7]<|.prim .get [.v 6,.v 9]<|.prim (.bin .lss) [.v 10,.c (.int .i64 0)]<|.ite (.v 11) (.jmp 0 false [.c (.bool true)]) (.prim (.idxn 5) [.v 7]<|.prim .get [.v 6,.v 12]<|.prim (.bin .gtr) [.v 13,.c (.int .i64 255)]<|.jmp 0 false [.v 14])) 1<|.ite (.v 9) (.jmp 2 false [.c (.bool false)]) (.prim (.bin .add) [.v 7,.c (.int .i64 1)]<|.jmp 0 true [.v 10])) (.jmp 1 false []))) 0<|.subp [.bool] (.prim (.fld 0) [.v 0]<|.prim (.bin .gtr) [.v 7,.c (.int .i64 0)]<|.ite (.v 8) (.prim (.fld 0) [.v 0]<|.prim (.bin .lss) [.v 9,.c (.int .i64 12)]<|.jmp 0 false [.v 10]) (.jmp 0 false [.c (.bool false)])) 1<|.jmp 0 false [.v 7]
theorem zsZ:zad cx 12 131=some zmV.erase:=by kernel_rfl
theorem zxR:zAH cx 12 noC 131 znL:=zaA (t:=zmV) zsZ (fun _=>rfl) (zau [] (by kernel_rfl) .nil) (fun x=>by kernel_rfl)
def zgv (x0:Proto) (x1:Proto) (s:Int):Option (Int⊕Unit⊕Bool) :=
 if decide (s<(List.length (Proto.Dir x0):Int)) then
 (zAF (Proto.Dir x0) s).bind fun v8=>(zAF (Proto.Dir x1) s).bind fun v10=>(zml v8 v10).bind fun v11=>if !v11 then
 some (Sum.inr (Sum.inr (false)))
 else
 some (Sum.inl (w64 (s + (1:Int))))
 else
 some (Sum.inr (Sum.inl ()))
def zf9 (x0:Proto) (x1:Proto) (s:Int):Option (Int⊕Unit⊕Bool) :=
 if decide (s<(List.length (Proto.Val x0):Int)) then
 (zAF (Proto.Val x0) s).bind fun v8=>(zAF (Proto.Val x1) s).bind fun v10=>(zke v8 v10).bind fun v11=>if !v11 then
 some (Sum.inr (Sum.inr (false)))
 else
 some (Sum.inl (w64 (s + (1:Int))))
 else
 some (Sum.inr (Sum.inl ()))
def zf3 (x0:Proto) (x1:Proto) (s:Int):Option (Int⊕Unit⊕Bool) :=
 if decide (s<(List.length (Proto.State x0):Int)) then
 (zAF (Proto.State x0) s).bind fun v8=>(zAF (Proto.State x1) s).bind fun v10=>(zj0 v8 v10).bind fun v11=>if !v11 then
 some (Sum.inr (Sum.inr (false)))
 else
 some (Sum.inl (w64 (s + (1:Int))))
 else
 some (Sum.inr (Sum.inl ()))
def zf1 (x0:Proto) (x1:Proto) (s:Int):Option (Int⊕Unit⊕Bool) :=
 if decide (s<(List.length (Proto.Wait x0):Int)) then
 (zAF (Proto.Wait x0) s).bind fun v8=>(zAF (Proto.Wait x1) s).bind fun v10=>if !(@decide (v8=v10) (Ty.dec zbX _ _)) then
 some (Sum.inr (Sum.inr (false)))
 else
 some (Sum.inl (w64 (s + (1:Int))))
 else
 some (Sum.inr (Sum.inl ()))
def zj4 (p0:Proto) (p1:Proto):Option Bool :=
 (if !decide ((List.length (Proto.State p0):Int)=(List.length (Proto.State p1):Int)) then
 some (true)
 else
 if !decide ((List.length (Proto.Val p0):Int)=(List.length (Proto.Val p1):Int)) then
 some (true)
 else
 if !decide ((List.length (Proto.Wait p0):Int)=(List.length (Proto.Wait p1):Int)) then
 some (true)
 else
 if !decide ((List.length (Proto.Home p0):Int)=(List.length (Proto.Home p1):Int)) then
 some (true)
 else
 if !decide ((List.length (Proto.Dir p0):Int)=(List.length (Proto.Dir p1):Int)) then
 some (true)
 else
 (zj0 (Proto.Busy p0) (Proto.Busy p1)).bind fun v29=>if !v29 then
 some (true)
 else
 (zmE (Proto.Pool p0) (Proto.Pool p1)).bind fun v33=>some ((!v33)):Option Bool).bind fun v2=>if v2 then
 some (false)
 else
 zaO (zaf (zf1 p0 p1) (0:Int):Option (Unit⊕Bool)) fun v3=>zaO (zaf (zf3 p0 p1) (0:Int):Option (Unit⊕Bool)) fun v3=>zaO (zaf (zf9 p0 p1) (0:Int):Option (Unit⊕Bool)) fun v3=>zaO (zaf (zgv p0 p1) (0:Int):Option (Unit⊕Bool)) fun v3=>(zke (Proto.Home p0) (Proto.Home p1)).bind fun v5=>some v5
def zfz:FnT:=⟨[zab,zab],[.bool],fun x=>zj4 x.1 x.2⟩
def zkO:TA :=
 .sub0 [.bool] (.prim (.fld 0) [.v 0]<|.prim .len [.v 2]<|.prim (.fld 0) [.v 1]<|.prim .len [.v 4]<|.prim (.bin .neq) [.v 3,.v 5]<|.ite (.v 6) (.jmp 0 false [.c (.bool true)]) (.prim (.fld 1) [.v 0]<|.prim .len [.v 7]<|.prim (.fld 1) [.v 1]<|.prim .len [.v 9]<|.prim (.bin .neq) [.v 8,.v 10]<|.ite (.v 11) (.jmp 0 false [.c (.bool true)]) (.prim (.fld 2) [.v 0]<|.prim .len [.v 12]<|.prim (.fld 2) [.v 1]<|.prim .len [.v 14]<|.prim (.bin .neq) [.v 13,.v 15]<|.ite (.v 16) (.jmp 0 false [.c (.bool true)]) (.prim (.fld 3) [.v 0]<|.prim .len [.v 17]<|.prim (.fld 3) [.v 1]<|.prim .len [.v 19]<|.prim (.bin .neq) [.v 18,.v 20]<|.ite (.v 21) (.jmp 0 false [.c (.bool true)]) (.prim (.fld 4) [.v 0]<|.prim .len [.v 22]<|.prim (.fld 4) [.v 1]<|.prim .len [.v 24]<|.prim (.bin .neq) [.v 23,.v 25]<|.ite (.v 26) (.jmp 0 false [.c (.bool true)]) (.prim (.fld 5) [.v 0]<|.prim (.fld 5) [.v 1]<|.call 35 zfd [.v 27,.v 28] 1<|.prim (.un .not) [.v 29]<|.ite (.v 30) (.jmp 0 false [.c (.bool true)]) (.prim (.fld 6) [.v 0]<|.prim (.fld 6) [.v 1]<|.call 36 zlw [.v 31,.v 32] 1<|.prim (.un .not) [.v 33]<|.jmp 0 false [.v 34]))))))) 1<|.ite (.v 2) (.jmp 0 false [.c (.bool false)]) (.sub1 [] (.loop [.int .i64] [.c (.int .i64 0)] (.prim (.fld 2) [.v 0]<|.prim .len [.v 4]<|.prim (.bin .lss) [.v 3,.v 5]<|.ite (.v 6) (.prim (.fld 2) [.v 0]<|.prim .get [.v 7,.v 3]<|.prim (.fld 2) [.v 1]<|.prim .get [.v 9,.v 3]<|.prim .eqv [.v 8,.v 10]<|.prim (.un .not) [.v 11]<|.ite (.v 12) (.jmp 2 false [.c (.bool false)]) (.prim (.bin .add) [.v 3,.c (.int .i64 1)]<|.jmp 0 true [.v 13])) (.jmp 1 false []))) 0<|.sub1 [] (.loop [.int .i64] [.c (.int .i64 0)] (.prim (.fld 0) [.v 0]<|.prim .len [.v 4]<|.prim (.bin .lss) [.v 3,.v 5]<|.ite (.v 6) (.prim (.fld 0) [.v 0]<|.prim .get [.v 7,.v 3]<|.prim (.fld 0) [.v 1]<|.prim .get [.v 9,.v 3]<|.call 35 zfd [.v 8,.v 10] 1<|.prim (.un .not) [.v 11]<|.ite (.v 12) (.jmp 2 false [.c (.bool false)]) (.prim (.bin .add) [.v 3,.c (.int .i64 1)]<|.jmp 0 true [.v 13])) (.jmp 1 false []))) 0<|.sub1 [] (.loop [.int .i64] [.c (.int .i64 0)] (.prim (.fld 1) [.v 0]<|.prim .len [.v 4]<|.prim (.bin .lss) [.v 3,.v 5]<|.ite (.v 6) (.prim (.fld 1) [.v 0]<|.prim .get [.v 7,.v 3]<|.prim (.fld 1) [.v 1]<|.prim .get [.v 9,.v 3]<|.call 37 zd4 [.v 8,.v 10] 1<|.prim (.un .not) [.v 11]<|.ite (.v 12) (.jmp 2 false [.c (.bool false)]) (.prim (.bin .add) [.v 3,.c (.int .i64 1)]<|.jmp 0 true [.v 13])) (.jmp 1 false []))) 0<|.sub1 [] (.loop [.int .i64] [.c (.int .i64 0)] (.prim (.fld 4) [.v 0]<|.prim .len [.v 4]<|.prim (.bin .lss) [.v 3,.v 5]<|.ite (.v 6) (.prim (.fld 4) [.v 0]<|.prim .get [.v 7,.v 3]<|.prim (.fld 4) [.v 1]<|.prim .get [.v 9,.v 3]<|.call 38 zlm [.v 8,.v 10] 1<|.prim (.un .not) [.v 11]<|.ite (.v 12) (.jmp 2 false [.c (.bool false)]) (.prim (.bin .add) [.v 3,.c (.int .i64 1)]<|.jmp 0 true [.v 13])) (.jmp 1 false []))) 0<|.prim (.fld 3) [.v 0]<|.prim (.fld 3) [.v 1]<|.call 37 zd4 [.v 3,.v 4] 1<|.jmp 0 false [.v 5])
theorem zpp:zad cx 12 9=some zkO.erase:=by kernel_rfl
theorem zp7:zAH cx 12 noC 9 zfz:=zaA (t:=zkO) zpp (fun _=>rfl) (zau [(35,zfd),(36,zlw),(35,zfd),(37,zd4),(38,zlm),(37,zd4)] (by kernel_rfl) (.cons zpU (.cons zwa (.cons zpU (.cons znt (.cons zvM (.cons znt .nil))))))) (fun x=>by kernel_rfl)
def zdm (x0:Proto) (x2:Int) (x4:Int) (s:Int):Option (Int⊕Unit⊕Bool) :=
 if decide (s<x4) then
 ((zAF (Proto.Dir x0) s).bind fun v9=>(znC v9 x2).bind fun v10=>if !v10 then
 some (true)
 else
 (zAF (Proto.Busy x0) s).bind fun v13=>if decide (v13<(0:Int)) then
 some (true)
 else
 (zAF (Proto.Busy x0) s).bind fun v16=>some ((decide (x2<v16))):Option Bool).bind fun v8=>if v8 then
 some (Sum.inr (Sum.inr (false)))
 else
 some (Sum.inl (w64 (s + (1:Int))))
 else
 some (Sum.inr (Sum.inl ()))
def zeH (x0:Proto) (x4:Int) (x6:Int) (s:Int):Option (Int⊕Unit⊕Int⊕Unit⊕Bool) :=
 if decide (s<x4) then
 ((zAF (Proto.State x0) x6).bind fun v14=>(zAF v14 s).bind fun v15=>if decide (v15<(0:Int)) then
 some (true)
 else
 (zAF (Proto.State x0) x6).bind fun v18=>(zAF v18 s).bind fun v19=>some ((decide ((4:Int)<v19))):Option Bool).bind fun v13=>if v13 then
 some (Sum.inr (Sum.inr (Sum.inr (Sum.inr (false)))))
 else
 some (Sum.inl (w64 (s + (1:Int))))
 else
 some (Sum.inr (Sum.inl ()))
def zeK (x0:Proto) (x2:Int) (x4:Int) (s:Int):Option (Int⊕Unit⊕Bool) :=
 if decide (s<x2) then
 (zAF (Proto.Wait x0) s).bind fun v9=>((zAF (Proto.State x0) s).bind fun v11=>if !decide ((v11.length:Int)=x4) then
 some (true)
 else
 (zAF (Proto.Val x0) s).bind fun v15=>if !decide ((v15.length:Int)=x4) then
 some (true)
 else
 if decide ((Wait.Line v9)<(0:Int)) then
 some (true)
 else
 if decide (x4<(Wait.Line v9)) then
 some (true)
 else
 if decide ((Wait.Need v9)<(0:Int)) then
 some (true)
 else
 if decide ((255:Int)<(Wait.Need v9)) then
 some (true)
 else
 if decide ((Wait.Got v9)<(0:Int)) then
 some (true)
 else
 some ((decide ((255:Int)<(Wait.Got v9)))):Option Bool).bind fun v10=>if v10 then
 some (Sum.inr (Sum.inr (false)))
 else
 zaO (zaf (zeH x0 x4 s) (0:Int):Option (Unit⊕Int⊕Unit⊕Bool)) fun v11=>some (Sum.inl (w64 (s + (1:Int))))
 else
 some (Sum.inr (Sum.inl ()))
def ze4 (p0:Proto):Option Bool :=
 let v2:Int:=(List.length (Proto.Wait p0):Int)
 let v4:Int:=(List.length (Proto.Home p0):Int)
 (if decide (v2<(1:Int)) then
 some (true)
 else
 if decide ((4:Int)<v2) then
 some (true)
 else
 if decide (v4<(1:Int)) then
 some (true)
 else
 if decide ((16:Int)<v4) then
 some (true)
 else
 if !decide ((List.length (Proto.State p0):Int)=v2) then
 some (true)
 else
 if !decide ((List.length (Proto.Val p0):Int)=v2) then
 some (true)
 else
 if !decide ((List.length (Proto.Dir p0):Int)=v4) then
 some (true)
 else
 if !decide ((List.length (Proto.Busy p0):Int)=v4) then
 some (true)
 else
 (zfg (Proto.Pool p0)).bind fun v22=>some ((!v22)):Option Bool).bind fun v5=>if v5 then
 some (false)
 else
 zaO (zaf (zeK p0 v2 v4) (0:Int):Option (Unit⊕Bool)) fun v6=>zaO (zaf (zdm p0 v2 v4) (0:Int):Option (Unit⊕Bool)) fun v6=>some (true)
def zeb:FnT:=⟨[zab],[.bool],fun x=>ze4 x⟩
def zi3:TA :=
 .prim (.fld 2) [.v 0]<|.prim .len [.v 1]<|.prim (.fld 3) [.v 0]<|.prim .len [.v 3]<|.sub0 [.bool] (.prim (.bin .lss) [.v 2,.c (.int .i64 1)]<|.ite (.v 5) (.jmp 0 false [.c (.bool true)]) (.prim (.bin .gtr) [.v 2,.c (.int .i64 4)]<|.ite (.v 6) (.jmp 0 false [.c (.bool true)]) (.prim (.bin .lss) [.v 4,.c (.int .i64 1)]<|.ite (.v 7) (.jmp 0 false [.c (.bool true)]) (.prim (.bin .gtr) [.v 4,.c (.int .i64 16)]<|.ite (.v 8) (.jmp 0 false [.c (.bool true)]) (.prim (.fld 0) [.v 0]<|.prim .len [.v 9]<|.prim (.bin .neq) [.v 10,.v 2]<|.ite (.v 11) (.jmp 0 false [.c (.bool true)]) (.prim (.fld 1) [.v 0]<|.prim .len [.v 12]<|.prim (.bin .neq) [.v 13,.v 2]<|.ite (.v 14) (.jmp 0 false [.c (.bool true)]) (.prim (.fld 4) [.v 0]<|.prim .len [.v 15]<|.prim (.bin .neq) [.v 16,.v 4]<|.ite (.v 17) (.jmp 0 false [.c (.bool true)]) (.prim (.fld 5) [.v 0]<|.prim .len [.v 18]<|.prim (.bin .neq) [.v 19,.v 4]<|.ite (.v 20) (.jmp 0 false [.c (.bool true)]) (.prim (.fld 6) [.v 0]<|.call 53 zcp [.v 21] 1<|.prim (.un .not) [.v 22]<|.jmp 0 false [.v 23]))))))))) 1<|.ite (.v 5) (.jmp 0 false [.c (.bool false)]) (.sub1 [] (.loop [.int .i64] [.c (.int .i64 0)] (.prim (.bin .lss) [.v 6,.v 2]<|.ite (.v 7) (.prim (.fld 2) [.v 0]<|.prim .get [.v 8,.v 6]<|.sub0 [.bool] (.prim (.fld 0) [.v 0]<|.prim .get [.v 10,.v 6]<|.prim .len [.v 11]<|.prim (.bin .neq) [.v 12,.v 4]<|.ite (.v 13) (.jmp 0 false [.c (.bool true)]) (.prim (.fld 1) [.v 0]<|.prim .get [.v 14,.v 6]<|.prim .len [.v 15]<|.prim (.bin .neq) [.v 16,.v 4]<|.ite (.v 17) (.jmp 0 false [.c (.bool true)]) (.prim (.fld 0) [.v 9]<|.prim (.bin .lss) [.v 18,.c (.int .i64 0)]<|.ite (.v 19) (.jmp 0 false [.c (.bool true)]) (.prim (.fld 0) [.v 9]<|.prim (.bin .gtr) [.v 20,.v 4]<|.ite (.v 21) (.jmp 0 false [.c (.bool true)]) (.prim (.fld 6) [.v 9]<|.prim (.bin .lss) [.v 22,.c (.int .i64 0)]<|.ite (.v 23) (.jmp 0 false [.c (.bool true)]) (.prim (.fld 6) [.v 9]<|.prim (.bin .gtr) [.v 24,.c (.int .i64 255)]<|.ite (.v 25) (.jmp 0 false [.c (.bool true)]) (.prim (.fld 7) [.v 9]<|.prim (.bin .lss) [.v 26,.c (.int .i64 0)]<|.ite (.v 27) (.jmp 0 false [.c (.bool true)]) (.prim (.fld 7) [.v 9]<|.prim (.bin .gtr) [.v 28,.c (.int .i64 255)]<|.jmp 0 false [.v 29])))))))) 1<|.ite (.v 10) (.jmp 2 false [.c (.bool false)]) (.sub1 [] (.loop [.int .i64] [.c (.int .i64 0)] (.prim (.bin .lss) [.v 11,.v 4]<|.ite (.v 12) (.sub0 [.bool] (.prim (.fld 0) [.v 0]<|.prim .get [.v 13,.v 6]<|.prim .get [.v 14,.v 11]<|.prim (.bin .lss) [.v 15,.c (.int .i64 0)]<|.ite (.v 16) (.jmp 0 false [.c (.bool true)]) (.prim (.fld 0) [.v 0]<|.prim .get [.v 17,.v 6]<|.prim .get [.v 18,.v 11]<|.prim (.bin .gtr) [.v 19,.c (.int .i64 4)]<|.jmp 0 false [.v 20])) 1<|.ite (.v 13) (.jmp 4 false [.c (.bool false)]) (.prim (.bin .add) [.v 11,.c (.int .i64 1)]<|.jmp 0 true [.v 14])) (.jmp 1 false []))) 0<|.prim (.bin .add) [.v 6,.c (.int .i64 1)]<|.jmp 0 true [.v 11])) (.jmp 1 false []))) 0<|.sub1 [] (.loop [.int .i64] [.c (.int .i64 0)] (.prim (.bin .lss) [.v 6,.v 4]<|.ite (.v 7) (.sub0 [.bool] (.prim (.fld 4) [.v 0]<|.prim .get [.v 8,.v 6]<|.call 54 zgI [.v 9,.v 2] 1<|.prim (.un .not) [.v 10]<|.ite (.v 11) (.jmp 0 false [.c (.bool true)]) (.prim (.fld 5) [.v 0]<|.prim .get [.v 12,.v 6]<|.prim (.bin .lss) [.v 13,.c (.int .i64 0)]<|.ite (.v 14) (.jmp 0 false [.c (.bool true)]) (.prim (.fld 5) [.v 0]<|.prim .get [.v 15,.v 6]<|.prim (.bin .gtr) [.v 16,.v 2]<|.jmp 0 false [.v 17]))) 1<|.ite (.v 8) (.jmp 2 false [.c (.bool false)]) (.prim (.bin .add) [.v 6,.c (.int .i64 1)]<|.jmp 0 true [.v 9])) (.jmp 1 false []))) 0<|.jmp 0 false [.c (.bool true)])
theorem zof:zad cx 12 20=some zi3.erase:=by kernel_rfl
theorem znc:zAH cx 12 noC 20 zeb:=zaA (t:=zi3) zof (fun _=>rfl) (zau [(53,zcp),(54,zgI)] (by kernel_rfl) (.cons zjm (.cons zta .nil))) (fun x=>by kernel_rfl)
def zdg (x0:Int) (x1:Int) (s:(Int×(List Entry))):Option ((Int×(List Entry))⊕(List Entry)) :=
 if decide (s.1<x1) then
 (zj3 x0).bind fun v11=>(zAK 32 s.2 ([v11.1]:List Entry)).bind fun v14=>some (Sum.inl (w64 (s.1 + (1:Int)),v14))
 else
 some (Sum.inr (s.2))
def zdp (x0:Int) (x1:Int) (s:(Int×(List (List Int))×(List (List Int)))):Option ((Int×(List (List Int))×(List (List Int)))⊕((List (List Int))×(List (List Int)))) :=
 if decide (s.1<x0) then
 (zA2 (0:Int) 8 x1 x1).bind fun v10=>(zAK 24 s.2.1 ([v10]:List (List Int))).bind fun v12=>(zA2 (0:Int) 4 x1 x1).bind fun v13=>(zAK 24 s.2.2 ([v13]:List (List Int))).bind fun v15=>some (Sum.inl (w64 (s.1 + (1:Int)),v12,v15))
 else
 some (Sum.inr ((s.2.1,s.2.2)))
def zhg (p0:Int) (p1:Int):Option (Proto×Int) :=
 if (decide (p0<(1:Int)))||((decide ((4:Int)<p0))||((decide (p1<(1:Int)))||(decide ((16:Int)<p1)))) then
 some (((Proto.mk ([]:List (List Int)) ([]:List (List Int)) ([]:List Wait) ([]:List Int) ([]:List Entry) ([]:List Int) (Pool.mk ([]:List (List Int)))),(1:Int)))
 else
 (zA2 (Wait.mk (0:Int) false false false false false (0:Int) (0:Int) (0:Int)) 40 p0 p0).bind fun v3=>(zA2 (0:Int) 4 p1 p1).bind fun v4=>(zA2 (0:Int) 8 p1 p1).bind fun v5=>(zaf (zdp p0 p1) ((0:Int),([]:List (List Int)),([]:List (List Int))):Option ((List (List Int))×(List (List Int)))).bind fun v6=>(zaf (zdg p0 p1) ((0:Int),([]:List Entry)):Option (List Entry)).bind fun v8=>some ((Proto.mk v6.1 v6.2 v3 v4 v8 v5 (Pool.mk ([]:List (List Int))),(0:Int)))
def zi4:FnT:=⟨[.int .i64,.int .i64],[zab,.int .i64],fun x=>zhg x.1 x.2⟩
def ziW:TA :=
 .subp [.bool] (.prim (.bin .lss) [.v 0,.c (.int .i64 1)]<|.ite (.v 2) (.jmp 0 false [.c (.bool true)]) (.prim (.bin .gtr) [.v 0,.c (.int .i64 4)]<|.ite (.v 3) (.jmp 0 false [.c (.bool true)]) (.prim (.bin .lss) [.v 1,.c (.int .i64 1)]<|.ite (.v 4) (.jmp 0 false [.c (.bool true)]) (.prim (.bin .gtr) [.v 1,.c (.int .i64 16)]<|.jmp 0 false [.v 5])))) 1<|.ite (.v 2) (.jmp 0 false [.c (.agg [.nil,.nil,.nil,.nil,.nil,.nil,(.agg [.nil])]),.c (.int .i64 1)]) (.primH (.rep (.agg [(.int .i64 0),(.bool false),(.bool false),(.bool false),(.bool false),(.bool false),(.int .i64 0),(.int .i64 0),(.int .u32 0)]) 40) (.sl zbX) [.v 0,.v 0]<|.primH (.rep (.int .u32 0) 4) (.sl (.int .u32)) [.v 1,.v 1]<|.primH (.rep (.int .i64 0) 8) (.sl (.int .i64)) [.v 1,.v 1]<|.sub0 [.sl (.sl (.int .i64)),.sl (.sl (.int .u32))] (.loop [.int .i64,.sl (.sl (.int .i64)),.sl (.sl (.int .u32))] [.c (.int .i64 0),.c .nil,.c .nil] (.prim (.bin .lss) [.v 6,.v 0]<|.ite (.v 9) (.primH (.rep (.int .i64 0) 8) (.sl (.int .i64)) [.v 1,.v 1]<|.mkL (.sl (.int .i64)) [.v 10]<|.prim (.app 24) [.v 7,.v 11]<|.primH (.rep (.int .u32 0) 4) (.sl (.int .u32)) [.v 1,.v 1]<|.mkL (.sl (.int .u32)) [.v 13]<|.prim (.app 24) [.v 8,.v 14]<|.prim (.bin .add) [.v 6,.c (.int .i64 1)]<|.jmp 0 true [.v 16,.v 12,.v 15]) (.jmp 1 false [.v 7,.v 8]))) 2<|.sub0 [.sl zan] (.loop [.int .i64,.sl zan] [.c (.int .i64 0),.c .nil] (.prim (.bin .lss) [.v 8,.v 1]<|.ite (.v 10) (.call 55 zje [.v 0] 2<|.mkL zan [.v 11]<|.prim (.app 32) [.v 9,.v 13]<|.prim (.bin .add) [.v 8,.c (.int .i64 1)]<|.jmp 0 true [.v 15,.v 14]) (.jmp 1 false [.v 9]))) 1<|.mkS za7 [.v 6,.v 7,.v 3,.v 4,.v 8,.v 5,.c (.agg [.nil])]<|.jmp 0 false [.v 9,.c (.int .i64 0)])
theorem znh:zad cx 12 21=some ziW.erase:=by kernel_rfl
theorem zuy:zAH cx 12 noC 21 zi4:=zaA (t:=ziW) znh (fun _=>rfl) (zau [(55,zje)] (by kernel_rfl) (.cons zt2 .nil)) (fun x=>by kernel_rfl)
def zfh (x0:Int) (x1:Int) (s:(Int×(List Int)×(List Entry)×(List Int))):Option ((Int×(List Int)×(List Entry)×(List Int))⊕((List Int)×(List Entry)×(List Int))) :=
 if decide (s.1<x1) then
 (zto x0).bind fun v11=>(zAK 32 s.2.2.1 ([v11.1]:List Entry)).bind fun v14=>(zAK 4 s.2.1 ([(0:Int)]:List Int)).bind fun v15=>(zAK 8 s.2.2.2 ([(0:Int)]:List Int)).bind fun v16=>some (Sum.inl (w64 (s.1 + (1:Int)),v15,v14,v16))
 else
 some (Sum.inr ((s.2.1,s.2.2.1,s.2.2.2)))
def zfn (x0:Int) (x1:Int) (s:(Int×(List (List Int))×(List (List Int))×(List Wait))):Option ((Int×(List (List Int))×(List (List Int))×(List Wait))⊕((List (List Int))×(List (List Int))×(List Wait))) :=
 if decide (s.1<x0) then
 (zA2 (0:Int) 8 x1 x1).bind fun v8=>(zAK 24 s.2.1 ([v8]:List (List Int))).bind fun v10=>(zA2 (0:Int) 4 x1 x1).bind fun v11=>(zAK 24 s.2.2.1 ([v11]:List (List Int))).bind fun v13=>(zAK 40 s.2.2.2 ([(Wait.mk (0:Int) false false false false false (0:Int) (0:Int) (0:Int))]:List Wait)).bind fun v14=>some (Sum.inl (w64 (s.1 + (1:Int)),v10,v13,v14))
 else
 some (Sum.inr ((s.2.1,s.2.2.1,s.2.2.2)))
def znB (p0:Int) (p1:Int):Option (Proto×Int) :=
 if (decide (p0<(1:Int)))||((decide ((4:Int)<p0))||((decide (p1<(1:Int)))||(decide ((16:Int)<p1)))) then
 some (((Proto.mk ([]:List (List Int)) ([]:List (List Int)) ([]:List Wait) ([]:List Int) ([]:List Entry) ([]:List Int) (Pool.mk ([]:List (List Int)))),(1:Int)))
 else
 (zaf (zfn p0 p1) ((0:Int),([]:List (List Int)),([]:List (List Int)),([]:List Wait)):Option ((List (List Int))×(List (List Int))×(List Wait))).bind fun v3=>(zaf (zfh p0 p1) ((0:Int),([]:List Int),([]:List Entry),([]:List Int)):Option ((List Int)×(List Entry)×(List Int))).bind fun v6=>some ((Proto.mk v3.1 v3.2.1 v3.2.2 v6.1 v6.2.1 v6.2.2 (Pool.mk ([]:List (List Int))),(0:Int)))
def zoi:FnT:=⟨[.int .i64,.int .i64],[zab,.int .i64],fun x=>znB x.1 x.2⟩
def zoH:TA :=
 .subp [.bool] (.prim (.bin .lss) [.v 0,.c (.int .i64 1)]<|.ite (.v 2) (.jmp 0 false [.c (.bool true)]) (.prim (.bin .gtr) [.v 0,.c (.int .i64 4)]<|.ite (.v 3) (.jmp 0 false [.c (.bool true)]) (.prim (.bin .lss) [.v 1,.c (.int .i64 1)]<|.ite (.v 4) (.jmp 0 false [.c (.bool true)]) (.prim (.bin .gtr) [.v 1,.c (.int .i64 16)]<|.jmp 0 false [.v 5])))) 1<|.ite (.v 2) (.jmp 0 false [.c (.agg [.nil,.nil,.nil,.nil,.nil,.nil,(.agg [.nil])]),.c (.int .i64 1)]) (.sub0 [.sl (.sl (.int .i64)),.sl (.sl (.int .u32)),.sl zbX] (.loop [.int .i64,.sl (.sl (.int .i64)),.sl (.sl (.int .u32)),.sl zbX] [.c (.int .i64 0),.c .nil,.c .nil,.c .nil] (.prim (.bin .lss) [.v 3,.v 0]<|.ite (.v 7) (.primH (.rep (.int .i64 0) 8) (.sl (.int .i64)) [.v 1,.v 1]<|.mkL (.sl (.int .i64)) [.v 8]<|.prim (.app 24) [.v 4,.v 9]<|.primH (.rep (.int .u32 0) 4) (.sl (.int .u32)) [.v 1,.v 1]<|.mkL (.sl (.int .u32)) [.v 11]<|.prim (.app 24) [.v 5,.v 12]<|.primH (.app 40) (.sl zbX) [.v 6,.c (.sl [(.agg [(.int .i64 0),(.bool false),(.bool false),(.bool false),(.bool false),(.bool false),(.int .i64 0),(.int .i64 0),(.int .u32 0)])])]<|.prim (.bin .add) [.v 3,.c (.int .i64 1)]<|.jmp 0 true [.v 15,.v 10,.v 13,.v 14]) (.jmp 1 false [.v 4,.v 5,.v 6]))) 3<|.sub0 [.sl (.int .u32),.sl zan,.sl (.int .i64)] (.loop [.int .i64,.sl (.int .u32),.sl zan,.sl (.int .i64)] [.c (.int .i64 0),.c .nil,.c .nil,.c .nil] (.prim (.bin .lss) [.v 6,.v 1]<|.ite (.v 10) (.call 56 zn5 [.v 0] 2<|.mkL zan [.v 11]<|.prim (.app 32) [.v 8,.v 13]<|.primH (.app 4) (.sl (.int .u32)) [.v 7,.c (.sl [(.int .u32 0)])]<|.primH (.app 8) (.sl (.int .i64)) [.v 9,.c (.sl [(.int .i64 0)])]<|.prim (.bin .add) [.v 6,.c (.int .i64 1)]<|.jmp 0 true [.v 17,.v 15,.v 14,.v 16]) (.jmp 1 false [.v 7,.v 8,.v 9]))) 3<|.mkS za7 [.v 3,.v 4,.v 5,.v 6,.v 7,.v 8,.c (.agg [.nil])]<|.jmp 0 false [.v 9,.c (.int .i64 0)])
theorem zrF:zad cx 12 22=some zoH.erase:=by kernel_rfl
theorem zxw:zAH cx 12 noC 22 zoi:=zaA (t:=zoH) zrF (fun _=>rfl) (zau [(56,zn5)] (by kernel_rfl) (.cons zw9 .nil)) (fun x=>by kernel_rfl)
def zeO (p0:Proto):Option Bool :=
 let v2:Int:=(List.length (Proto.Wait p0):Int)
 let v4:Int:=(List.length (Proto.Home p0):Int)
 if (decide (v2<(1:Int)))||((decide ((4:Int)<v2))||((decide (v4<(1:Int)))||(decide ((16:Int)<v4)))) then
 some (false)
 else
 ((zde (Proto.State p0) v2 v4).bind fun v7=>if v7 then
 (zcS (Proto.Val p0) v2 v4).bind fun v9=>if v9 then
 if decide ((List.length (Proto.Dir p0):Int)=v4) then
 some ((decide ((List.length (Proto.Busy p0):Int)=v4)))
 else
 some (false)
 else
 some (false)
 else
 some (false):Option Bool).bind fun v6=>some v6
def zeT:FnT:=⟨[zab],[.bool],fun x=>zeO x⟩
def ze2:TA :=
 .prim (.fld 2) [.v 0]<|.prim .len [.v 1]<|.prim (.fld 3) [.v 0]<|.prim .len [.v 3]<|.subp [.bool] (.prim (.bin .lss) [.v 2,.c (.int .i64 1)]<|.ite (.v 5) (.jmp 0 false [.c (.bool true)]) (.prim (.bin .gtr) [.v 2,.c (.int .i64 4)]<|.ite (.v 6) (.jmp 0 false [.c (.bool true)]) (.prim (.bin .lss) [.v 4,.c (.int .i64 1)]<|.ite (.v 7) (.jmp 0 false [.c (.bool true)]) (.prim (.bin .gtr) [.v 4,.c (.int .i64 16)]<|.jmp 0 false [.v 8])))) 1<|.ite (.v 5) (.jmp 0 false [.c (.bool false)]) (.sub0 [.bool] (.prim (.fld 0) [.v 0]<|.call 82 zdI [.v 6,.v 2,.v 4] 1<|.ite (.v 7) (.prim (.fld 1) [.v 0]<|.call 83 zcv [.v 8,.v 2,.v 4] 1<|.ite (.v 9) (.prim (.fld 4) [.v 0]<|.prim .len [.v 10]<|.prim (.bin .eql) [.v 11,.v 4]<|.ite (.v 12) (.prim (.fld 5) [.v 0]<|.prim .len [.v 13]<|.prim (.bin .eql) [.v 14,.v 4]<|.jmp 0 false [.v 15]) (.jmp 0 false [.c (.bool false)])) (.jmp 0 false [.c (.bool false)])) (.jmp 0 false [.c (.bool false)])) 1<|.jmp 0 false [.v 6])
theorem zil:zad cx 12 47=some ze2.erase:=by kernel_rfl
theorem zoW:zAH cx 12 noC 47 zeT:=zaA (t:=ze2) zil (fun _=>rfl) (zau [(82,zdI),(83,zcv)] (by kernel_rfl) (.cons zmh (.cons zju .nil))) (fun x=>by kernel_rfl)
def zdP (x4:List (List Int)) (x5:Int) (s:Int):Option (Int⊕Unit⊕Int) :=
 if decide (s<x5) then
 (zAF x4 s).bind fun v8=>if zhz v8 then
 some (Sum.inr (Sum.inr (s)))
 else
 some (Sum.inl (w64 (s + (1:Int))))
 else
 some (Sum.inr (Sum.inl ()))
def zcZ (p0:Pool):Option Bool :=
 (if decide ((List.length (Pool.Frames p0):Int)≤(64:Int)) then
 ((let v5:Int:=(List.length (Pool.Frames p0):Int)
 zaO (zaf (zdP (Pool.Frames p0) v5) (0:Int):Option (Unit⊕Int)) fun v6=>some ((-1:Int)):Option Int).bind fun v5=>some ((decide ((0:Int)≤v5))):Option Bool).bind fun v5=>some ((!v5))
 else
 some (false):Option Bool).bind fun v1=>some v1
def zbi:FnT:=⟨[zaJ],[.bool],fun x=>zcZ x⟩
def zhv:TA :=
 .sub0 [.bool] (.prim (.fld 0) [.v 0]<|.prim .len [.v 1]<|.prim (.bin .leq) [.v 2,.c (.int .i64 64)]<|.ite (.v 3) (.prim (.fld 0) [.v 0]<|.sub0 [.bool] (.sub0 [.int .i64] (.prim .len [.v 4]<|.sub1 [] (.loop [.int .i64] [.c (.int .i64 0)] (.prim (.bin .lss) [.v 6,.v 5]<|.ite (.v 7) (.prim .get [.v 4,.v 6]<|.callp 85 ze1 [.v 8] 1<|.ite (.v 9) (.jmp 2 false [.v 6]) (.prim (.bin .add) [.v 6,.c (.int .i64 1)]<|.jmp 0 true [.v 10])) (.jmp 1 false []))) 0<|.jmp 0 false [.c (.int .i64 (-1))]) 1<|.prim (.bin .geq) [.v 5,.c (.int .i64 0)]<|.jmp 0 false [.v 6]) 1<|.prim (.un .not) [.v 5]<|.jmp 0 false [.v 6]) (.jmp 0 false [.c (.bool false)])) 1<|.jmp 0 false [.v 1]
theorem zl8:zad cx 12 48=some zhv.erase:=by kernel_rfl
theorem zeG:zAH cx 12 noC 48 zbi:=zaA (t:=zhv) zl8 (fun _=>rfl) (zau [(85,ze1.fn)] (by kernel_rfl) (.cons zo0 .nil)) (fun x=>by kernel_rfl)
def zdN (p0:Int):Bool :=
 !(zav p0 (5:Int))
def zd9:PnT:=⟨[.int .i64],[.bool],fun x=>zdN x⟩
def zer:TA :=
 .callp 49 zaw [.v 0,.c (.int .i64 5)] 1<|.prim (.un .not) [.v 1]<|.jmp 0 false [.v 2]
theorem zhp:zad cx 12 51=some zer.erase:=by kernel_rfl
theorem zn9:zAH cx 12 noC 51 zd9.fn:=zt6 (t:=zer) zhp (fun _=>rfl) (zau [(49,zaw.fn)] (by kernel_rfl) (.cons zbn .nil)) (fun x=>by kernel_rfl)
def zgY (p0:Pool) (p1:Int):Option Int :=
 (zfg p0).bind fun v2=>if !v2 then
 some ((1:Int))
 else
 if (decide (p1<(0:Int)))||(decide ((List.length (Pool.Frames p0):Int)≤p1)) then
 some ((7:Int))
 else
 some ((0:Int))
def zek:FnT:=⟨[zaJ,.int .i64],[.int .i64],fun x=>zgY x.1 x.2⟩
def ziu:TA :=
 .call 53 zcp [.v 0] 1<|.prim (.un .not) [.v 2]<|.ite (.v 3) (.jmp 0 false [.c (.int .i64 1)]) (.subp [.bool] (.prim (.bin .lss) [.v 1,.c (.int .i64 0)]<|.ite (.v 4) (.jmp 0 false [.c (.bool true)]) (.prim (.fld 0) [.v 0]<|.prim .len [.v 5]<|.prim (.bin .geq) [.v 1,.v 6]<|.jmp 0 false [.v 7])) 1<|.ite (.v 4) (.jmp 0 false [.c (.int .i64 7)]) (.jmp 0 false [.c (.int .i64 0)]))
theorem znY:zad cx 12 72=some ziu.erase:=by kernel_rfl
theorem znf:zAH cx 12 noC 72 zek:=zaA (t:=ziu) znY (fun _=>rfl) (zau [(53,zcp)] (by kernel_rfl) (.cons zjm .nil)) (fun x=>by kernel_rfl)
def zmx (p0:List Int):Option (Msg×Int) :=
 if decide ((p0.length:Int)<(19:Int)) then
 some (((Msg.mk (0:Int) (0:Int) (0:Int) (0:Int) (0:Int) (0:Int) false (0:Int) (0:Int)),(3:Int)))
 else
 if decide ((19:Int)<(p0.length:Int)) then
 some (((Msg.mk (0:Int) (0:Int) (0:Int) (0:Int) (0:Int) (0:Int) false (0:Int) (0:Int)),(4:Int)))
 else
 (zAO p0 (0:Int) (15:Int)).bind fun v6=>(zk4 v6).bind fun v7=>(zel v7).bind fun v8=>(zBb v8).bind fun v9=>(zAO p0 (15:Int) (p0.length:Int)).bind fun v11=>(zBb v11).bind fun v12=>if !decide (v9=v12) then
 some (((Msg.mk (0:Int) (0:Int) (0:Int) (0:Int) (0:Int) (0:Int) false (0:Int) (0:Int)),(5:Int)))
 else
 ((zAF p0 (0:Int)).bind fun v14=>if decide (v14=(0:Int)) then
 some (true)
 else
 (zAF p0 (0:Int)).bind fun v16=>if decide ((11:Int)<v16) then
 some (true)
 else
 (zAF p0 (6:Int)).bind fun v18=>some ((decide ((1:Int)<v18))):Option Bool).bind fun v14=>if v14 then
 some (((Msg.mk (0:Int) (0:Int) (0:Int) (0:Int) (0:Int) (0:Int) false (0:Int) (0:Int)),(2:Int)))
 else
 (zAF p0 (0:Int)).bind fun v15=>(zAF p0 (1:Int)).bind fun v17=>(zAF p0 (2:Int)).bind fun v19=>(zAF p0 (3:Int)).bind fun v21=>(zAF p0 (4:Int)).bind fun v23=>(zAF p0 (5:Int)).bind fun v25=>(zAF p0 (6:Int)).bind fun v27=>(zAO p0 (7:Int) (11:Int)).bind fun v30=>(zst v30).bind fun v31=>(zAO p0 (11:Int) (15:Int)).bind fun v33=>(zst v33).bind fun v34=>some ((Msg.mk (w64 v15) (w64 v17) (w64 v19) (w64 v21) (w64 v23) (w64 v25) (decide (v27=(1:Int))) v31 v34,(0:Int)))
def zle:FnT:=⟨[.sl (.int .u8)],[zAR,.int .i64],fun x=>zmx x⟩
def zlu:TA :=
 .prim .len [.v 0]<|.prim (.bin .lss) [.v 1,.c (.int .i64 19)]<|.ite (.v 2) (.jmp 0 false [.c (.agg [(.int .i64 0),(.int .i64 0),(.int .i64 0),(.int .i64 0),(.int .i64 0),(.int .i64 0),(.bool false),(.int .u32 0),(.int .u32 0)]),.c (.int .i64 3)]) (.prim .len [.v 0]<|.prim (.bin .gtr) [.v 3,.c (.int .i64 19)]<|.ite (.v 4) (.jmp 0 false [.c (.agg [(.int .i64 0),(.int .i64 0),(.int .i64 0),(.int .i64 0),(.int .i64 0),(.int .i64 0),(.bool false),(.int .u32 0),(.int .u32 0)]),.c (.int .i64 4)]) (.prim .len [.v 0]<|.prim .sub [.v 0,.c (.int .i64 0),.c (.int .i64 15)]<|.call 103 zhs [.v 6] 1<|.call 102 zbA [.v 7] 1<|.prim .b2s [.v 8]<|.prim .len [.v 0]<|.prim .sub [.v 0,.c (.int .i64 15),.v 10]<|.prim .b2s [.v 11]<|.prim (.bin .neq) [.v 9,.v 12]<|.ite (.v 13) (.jmp 0 false [.c (.agg [(.int .i64 0),(.int .i64 0),(.int .i64 0),(.int .i64 0),(.int .i64 0),(.int .i64 0),(.bool false),(.int .u32 0),(.int .u32 0)]),.c (.int .i64 5)]) (.sub0 [.bool] (.prim .get [.v 0,.c (.int .i64 0)]<|.prim (.bin .eql) [.v 14,.c (.int .u8 0)]<|.ite (.v 15) (.jmp 0 false [.c (.bool true)]) (.prim .get [.v 0,.c (.int .i64 0)]<|.prim (.bin .gtr) [.v 16,.c (.int .u8 11)]<|.ite (.v 17) (.jmp 0 false [.c (.bool true)]) (.prim .get [.v 0,.c (.int .i64 6)]<|.prim (.bin .gtr) [.v 18,.c (.int .u8 1)]<|.jmp 0 false [.v 19]))) 1<|.ite (.v 14) (.jmp 0 false [.c (.agg [(.int .i64 0),(.int .i64 0),(.int .i64 0),(.int .i64 0),(.int .i64 0),(.int .i64 0),(.bool false),(.int .u32 0),(.int .u32 0)]),.c (.int .i64 2)]) (.prim .get [.v 0,.c (.int .i64 0)]<|.prim (.conv .i64) [.v 15]<|.prim .get [.v 0,.c (.int .i64 1)]<|.prim (.conv .i64) [.v 17]<|.prim .get [.v 0,.c (.int .i64 2)]<|.prim (.conv .i64) [.v 19]<|.prim .get [.v 0,.c (.int .i64 3)]<|.prim (.conv .i64) [.v 21]<|.prim .get [.v 0,.c (.int .i64 4)]<|.prim (.conv .i64) [.v 23]<|.prim .get [.v 0,.c (.int .i64 5)]<|.prim (.conv .i64) [.v 25]<|.prim .get [.v 0,.c (.int .i64 6)]<|.prim (.bin .eql) [.v 27,.c (.int .u8 1)]<|.prim .len [.v 0]<|.prim .sub [.v 0,.c (.int .i64 7),.c (.int .i64 11)]<|.call 104 zkr [.v 30] 1<|.prim .len [.v 0]<|.prim .sub [.v 0,.c (.int .i64 11),.c (.int .i64 15)]<|.call 104 zkr [.v 33] 1<|.mkS zcy [.v 16,.v 18,.v 20,.v 22,.v 24,.v 26,.v 28,.v 31,.v 34]<|.jmp 0 false [.v 35,.c (.int .i64 0)]))))
theorem zpy:zad cx 12 74=some zlu.erase:=by kernel_rfl
theorem zwf:zAH cx 12 noC 74 zle:=zaA (t:=zlu) zpy (fun _=>rfl) (zau [(103,zhs),(102,zbA),(104,zkr),(104,zkr)] (by kernel_rfl) (.cons zsE (.cons zfX (.cons zuW (.cons zuW .nil))))) (fun x=>by kernel_rfl)
def zeI (x20:List (List Int)) (x25:Int) (s:(Int×Int×(List Int))):Option ((Int×Int×(List Int))⊕(Int×(List Int))) :=
 if decide (s.2.1<x25) then
 (zAG (x20.length:Int) s.2.1).bind fun v30=>(zAF x20 v30).bind fun v31=>(zqJ 1 s.2.2 s.1 v31).bind fun v32=>some (Sum.inl (s.1 + (v31.length:Int),w64 (s.2.1 + (1:Int)),v32))
 else
 some (Sum.inr ((s.1,s.2.2)))
def zew (x20:List (List Int)) (x21:Int) (s:(Int×Int)):Option ((Int×Int)⊕Int) :=
 if decide (s.2<x21) then
 (zAG (x20.length:Int) s.2).bind fun v25=>(zAF x20 v25).bind fun v26=>let v28:Int:=w64 (s.1 + (v26.length:Int))
 if decide (v28<(0:Int)) then
 none
 else
 some (Sum.inl (v28,w64 (s.2 + (1:Int))))
 else
 some (Sum.inr (s.1))
def zfl (p0:Msg):Option (List Int) :=
 (zdS (Msg.Num p0)).bind fun v17=>(zdS (Msg.Val p0)).bind fun v19=>let v20:List (List Int):=([([wu8 (Msg.Kind p0),wu8 (Msg.From p0),wu8 (Msg.To p0),wu8 (Msg.Line p0),wu8 (Msg.For p0),wu8 (Msg.Acks p0),bif Msg.Own p0 then (1:Int) else (0:Int)]:List Int),v17,v19]:List (List Int))
 (let v21:Int:=(v20.length:Int)
 (zaf (zew v20 v21) ((0:Int),(0:Int)):Option Int).bind fun v22=>(if decide (v22<(0:Int)) then
 none
 else
 let v24:Int:=w64 (v22 - (0:Int))
 (if decide ((0:Int)<v24) then
 (zvS (0:Int) 1 ([]:List Int) v24).bind fun v26=>(zBg (v26.length:Int) (0:Int) (0:Int)).bind fun v28=>some ((v28,v26))
 else
 some (((0:Int),([]:List Int))):Option (Int×(List Int))).bind fun v26=>some ((v26.1,v26.2)):Option (Int×(List Int))).bind fun v23=>let v25:Int:=(v20.length:Int)
 (zaf (zeI v20 v25) (v23.1,(0:Int),v23.2):Option (Int×(List Int))).bind fun v26=>some ((v26.1,v26.2)):Option (Int×(List Int))).bind fun v21=>(zAO v21.2 (0:Int) v21.1).bind fun v23=>(zd7 v23).bind fun v24=>(zdS v24).bind fun v25=>(zqJ 1 v21.2 v21.1 v25).bind fun v26=>(zAO v26 (0:Int) (v21.1 + (v25.length:Int))).bind fun v29=>some v29
def zd0:FnT:=⟨[zAR],[.sl (.int .u8)],fun x=>zfl x⟩
def zjg:TA :=
 .prim (.fld 6) [.v 0]<|.subp [.int .u8] (.ite (.v 1) (.jmp 0 false [.c (.int .u8 1)]) (.jmp 0 false [.c (.int .u8 0)])) 1<|.prim (.fld 0) [.v 0]<|.prim (.conv .u8) [.v 3]<|.prim (.fld 1) [.v 0]<|.prim (.conv .u8) [.v 5]<|.prim (.fld 2) [.v 0]<|.prim (.conv .u8) [.v 7]<|.prim (.fld 3) [.v 0]<|.prim (.conv .u8) [.v 9]<|.prim (.fld 4) [.v 0]<|.prim (.conv .u8) [.v 11]<|.prim (.fld 5) [.v 0]<|.prim (.conv .u8) [.v 13]<|.mkL (.int .u8) [.v 4,.v 6,.v 8,.v 10,.v 12,.v 14,.v 2]<|.prim (.fld 7) [.v 0]<|.call 119 zbR [.v 16] 1<|.prim (.fld 8) [.v 0]<|.call 119 zbR [.v 18] 1<|.mkL (.sl (.int .u8)) [.v 15,.v 17,.v 19]<|.sub0 [.int .i64,.sl (.int .u8)] (.prim .len [.v 20]<|.sub0 [.int .i64] (.loop [.int .i64,.int .i64] [.c (.int .i64 0),.c (.int .i64 0)] (.prim (.bin .lss) [.v 23,.v 21]<|.ite (.v 24) (.prim .idx [.v 20,.v 23]<|.prim .get [.v 20,.v 25]<|.prim .len [.v 26]<|.prim (.bin .add) [.v 22,.v 27]<|.prim (.bin .lss) [.v 28,.c (.int .i64 0)]<|.ite (.v 29) (.fail 153) (.prim (.bin .add) [.v 23,.c (.int .i64 1)]<|.jmp 0 true [.v 28,.v 30])) (.jmp 1 false [.v 22]))) 1<|.sub0 [.int .i64,.sl (.int .u8)] (.prim (.bin .lss) [.v 22,.c (.int .i64 0)]<|.ite (.v 23) (.fail 153) (.prim (.bin .sub) [.v 22,.c (.int .i64 0)]<|.prim (.bin .gtr) [.v 24,.c (.int .i64 0)]<|.sub0 [.int .i64,.sl (.int .u8)] (.ite (.v 25) (.primH (.zext (.int .u8 0) 1) (.sl (.int .u8)) [.c .nil,.v 24]<|.prim .len [.v 26]<|.prim .rng [.v 26,.c (.int .i64 0),.c (.int .i64 0)]<|.jmp 0 false [.v 28,.v 26]) (.jmp 0 false [.c (.int .i64 0),.c .nil])) 2<|.jmp 0 false [.v 26,.v 27])) 2<|.prim .len [.v 20]<|.sub0 [.int .i64,.sl (.int .u8)] (.loop [.int .i64,.int .i64,.sl (.int .u8)] [.v 23,.c (.int .i64 0),.v 24] (.prim (.bin .lss) [.v 27,.v 25]<|.ite (.v 29) (.prim .idx [.v 20,.v 27]<|.prim .get [.v 20,.v 30]<|.prim (.appv 1) [.v 28,.v 26,.v 31]<|.prim .len [.v 31]<|.prim .vadd [.v 26,.v 33]<|.prim (.bin .add) [.v 27,.c (.int .i64 1)]<|.jmp 0 true [.v 34,.v 35,.v 32]) (.jmp 1 false [.v 26,.v 28]))) 2<|.jmp 0 false [.v 26,.v 27]) 2<|.prim .sub [.v 22,.c (.int .i64 0),.v 21]<|.call 92 zd8 [.v 23] 1<|.call 119 zbR [.v 24] 1<|.prim (.appv 1) [.v 22,.v 21,.v 25]<|.prim .len [.v 25]<|.prim .vadd [.v 21,.v 27]<|.prim .sub [.v 26,.c (.int .i64 0),.v 28]<|.jmp 0 false [.v 29]
theorem zno:zad cx 12 95=some zjg.erase:=by kernel_rfl
theorem znp:zAH cx 12 noC 95 zd0:=zaA (t:=zjg) zno (fun _=>rfl) (zau [(119,zbR),(119,zbR),(92,zd8),(119,zbR)] (by kernel_rfl) (.cons zhE (.cons zhE (.cons zoK (.cons zhE .nil))))) (fun x=>by kernel_rfl)
def ze5 (p0:Entry) (p1:Int):Option Bool :=
 ((zfb p0 (List.length (Entry.Share p0):Int)).bind fun v4=>if v4 then
 if decide ((0:Int)≤p1) then
 some ((decide (p1<(List.length (Entry.Share p0):Int))))
 else
 some (false)
 else
 some (false):Option Bool).bind fun v2=>some v2
def zco:FnT:=⟨[zan,.int .i64],[.bool],fun x=>ze5 x.1 x.2⟩
def ziR:TA :=
 .sub0 [.bool] (.prim (.fld 1) [.v 0]<|.prim .len [.v 2]<|.call 52 zct [.v 0,.v 3] 1<|.ite (.v 4) (.prim (.bin .geq) [.v 1,.c (.int .i64 0)]<|.ite (.v 5) (.prim (.fld 1) [.v 0]<|.prim .len [.v 6]<|.prim (.bin .lss) [.v 1,.v 7]<|.jmp 0 false [.v 8]) (.jmp 0 false [.c (.bool false)])) (.jmp 0 false [.c (.bool false)])) 1<|.jmp 0 false [.v 2]
theorem zn2:zad cx 12 101=some ziR.erase:=by kernel_rfl
theorem ziI:zAH cx 12 noC 101 zco:=zaA (t:=ziR) zn2 (fun _=>rfl) (zau [(52,zct)] (by kernel_rfl) (.cons ziZ .nil)) (fun x=>by kernel_rfl)
def zkL (p0:Entry) (p1:Int):Option Bool :=
 ((znC p0 (List.length (Entry.Share p0):Int)).bind fun v4=>if v4 then
 if decide ((0:Int)≤p1) then
 some ((decide (p1<(List.length (Entry.Share p0):Int))))
 else
 some (false)
 else
 some (false):Option Bool).bind fun v2=>some v2
def zd2:FnT:=⟨[zan,.int .i64],[.bool],fun x=>zkL x.1 x.2⟩
def zni:TA :=
 .sub0 [.bool] (.prim (.fld 1) [.v 0]<|.prim .len [.v 2]<|.call 54 zgI [.v 0,.v 3] 1<|.ite (.v 4) (.prim (.bin .geq) [.v 1,.c (.int .i64 0)]<|.ite (.v 5) (.prim (.fld 1) [.v 0]<|.prim .len [.v 6]<|.prim (.bin .lss) [.v 1,.v 7]<|.jmp 0 false [.v 8]) (.jmp 0 false [.c (.bool false)])) (.jmp 0 false [.c (.bool false)])) 1<|.jmp 0 false [.v 2]
theorem ztm:zad cx 12 109=some zni.erase:=by kernel_rfl
theorem znZ:zAH cx 12 noC 109 zd2:=zaA (t:=zni) ztm (fun _=>rfl) (zau [(54,zgI)] (by kernel_rfl) (.cons zta .nil)) (fun x=>by kernel_rfl)
def ziK (p0:Int):Bool :=
 !(zaa p0)
def zfQ:PnT:=⟨[.int .i64],[.bool],fun x=>ziK x⟩
def zfK:TA :=
 .callp 117 zeP [.v 0] 1<|.prim (.un .not) [.v 1]<|.jmp 0 false [.v 2]
theorem zjU:zad cx 12 116=some zfK.erase:=by kernel_rfl
theorem zrm:zAH cx 12 noC 116 zfQ.fn:=zt6 (t:=zfK) zjU (fun _=>rfl) (zau [(117,zeP.fn)] (by kernel_rfl) (.cons zo8 .nil)) (fun x=>by kernel_rfl)
def zaX (p0:List Bool) (p1:Bool):Option Bool :=
 (zaT p0 p1).bind fun v2=>some ((decide ((0:Int)≤v2)))
def zbe:FnT:=⟨[.sl .bool,.bool],[.bool],fun x=>zaX x.1 x.2⟩
def zbd:TA :=
 .call 130 zbt [.v 0,.v 1] 1<|.prim (.bin .geq) [.v 2,.c (.int .i64 0)]<|.jmp 0 false [.v 3]
theorem zbU:zad cx 12 123=some zbd.erase:=by kernel_rfl
theorem zd6:zAH cx 12 noC 123 zbe:=zaA (t:=zbd) zbU (fun _=>rfl) (zau [(130,zbt)] (by kernel_rfl) (.cons zfy .nil)) (fun x=>by kernel_rfl)
def zll (p0:Msg):Option ((List Int)×Int) :=
 (zro p0).bind fun v1=>if !v1 then
 some ((([]:List Int),(1:Int)))
 else
 let v15:List Int:=([wu8 (Msg.Kind p0),wu8 (Msg.From p0),wu8 (Msg.To p0),wu8 (Msg.Line p0),wu8 (Msg.For p0),wu8 (Msg.Acks p0),(0:Int)]:List Int)
 (if Msg.Own p0 then
 (zAG (v15.length:Int) (6:Int)).bind fun v17=>(zAI v15 v17 (1:Int)).bind fun v18=>some v18
 else
 some (v15):Option (List Int)).bind fun v17=>(zel (Msg.Num p0)).bind fun v19=>(zAK 1 v17 v19).bind fun v20=>(zel (Msg.Val p0)).bind fun v22=>(zAK 1 v20 v22).bind fun v23=>(zk4 v23).bind fun v24=>(zel v24).bind fun v25=>(zAK 1 v23 v25).bind fun v26=>some (v26,0)
def zmG:FnT:=⟨[zAR],[.sl (.int .u8),.int .i64],fun x=>zll x⟩
def znS:TA :=
 .call 131 znL [.v 0] 1<|.prim (.un .not) [.v 1]<|.ite (.v 2) (.jmp 0 false [.c .nil,.c (.int .i64 1)]) (.prim (.fld 0) [.v 0]<|.prim (.conv .u8) [.v 3]<|.prim (.fld 1) [.v 0]<|.prim (.conv .u8) [.v 5]<|.prim (.fld 2) [.v 0]<|.prim (.conv .u8) [.v 7]<|.prim (.fld 3) [.v 0]<|.prim (.conv .u8) [.v 9]<|.prim (.fld 4) [.v 0]<|.prim (.conv .u8) [.v 11]<|.prim (.fld 5) [.v 0]<|.prim (.conv .u8) [.v 13]<|.mkL (.int .u8) [.v 4,.v 6,.v 8,.v 10,.v 12,.v 14,.c (.int .u8 0)]<|.prim (.fld 6) [.v 0]<|.sub0 [.sl (.int .u8)] (.ite (.v 16) (.prim .idx [.v 15,.c (.int .i64 6)]<|.prim .set [.v 15,.v 17,.c (.int .u8 1)]<|.jmp 0 false [.v 18]) (.jmp 0 false [.v 15])) 1<|.prim (.fld 7) [.v 0]<|.call 102 zbA [.v 18] 1<|.prim (.app 1) [.v 17,.v 19]<|.prim (.fld 8) [.v 0]<|.call 102 zbA [.v 21] 1<|.prim (.app 1) [.v 20,.v 22]<|.call 103 zhs [.v 23] 1<|.call 102 zbA [.v 24] 1<|.prim (.app 1) [.v 23,.v 25]<|.jmp 0 false [.v 26,.c (.int .i64 0)])
theorem zsn:zad cx 12 125=some znS.erase:=by kernel_rfl
theorem zx5:zAH cx 12 noC 125 zmG:=zaA (t:=znS) zsn (fun _=>rfl) (zau [(131,znL),(102,zbA),(102,zbA),(103,zhs),(102,zbA)] (by kernel_rfl) (.cons zxR (.cons zfX (.cons zfX (.cons zsE (.cons zfX .nil)))))) (fun x=>by kernel_rfl)
def zb9 (x0:Proto) (x3:Int) (x8:List Entry) (x9:Int) (s:Int):Option (Int⊕Unit⊕Bool) :=
 if decide (s<x9) then
 (zAF x8 s).bind fun v12=>((zfb v12 x3).bind fun v13=>if !v13 then
 some (true)
 else
 (zAF (Proto.Busy x0) s).bind fun v16=>some ((!(zav v16 (w64 (x3 + (1:Int)))))):Option Bool).bind fun v13=>if v13 then
 some (Sum.inr (Sum.inr (false)))
 else
 some (Sum.inl (w64 (s + (1:Int))))
 else
 some (Sum.inr (Sum.inl ()))
def zda (x13:List Int) (x14:Int) (s:Int):Option (Int⊕Unit⊕Int) :=
 if decide (s<x14) then
 (zAF x13 s).bind fun v17=>if zdN v17 then
 some (Sum.inr (Sum.inr (s)))
 else
 some (Sum.inl (w64 (s + (1:Int))))
 else
 some (Sum.inr (Sum.inl ()))
def zc7 (x0:Proto) (x5:Int) (x6:List Wait) (x7:Int) (s:Int):Option (Int⊕Unit⊕Bool) :=
 if decide (s<x7) then
 (zAF x6 s).bind fun v10=>if (!(zav (Wait.Line v10) (w64 (x5 + (1:Int)))))||((!(zav (Wait.Need v10) (256:Int)))||(!(zav (Wait.Got v10) (256:Int)))) then
 some (Sum.inr (Sum.inr (false)))
 else
 (zAF (Proto.State x0) s).bind fun v13=>((let v14:Int:=(v13.length:Int)
 zaO (zaf (zda v13 v14) (0:Int):Option (Unit⊕Int)) fun v15=>some ((-1:Int)):Option Int).bind fun v14=>some ((decide ((0:Int)≤v14))):Option Bool).bind fun v14=>if v14 then
 some (Sum.inr (Sum.inr (false)))
 else
 some (Sum.inl (w64 (s + (1:Int))))
 else
 some (Sum.inr (Sum.inl ()))
def zcl (p0:Proto):Option Bool :=
 ((zeO p0).bind fun v1=>if !v1 then
 some (true)
 else
 (zcZ (Proto.Pool p0)).bind fun v4=>some ((!v4)):Option Bool).bind fun v1=>if v1 then
 some (false)
 else
 let v3:Int:=(List.length (Proto.Wait p0):Int)
 let v5:Int:=(List.length (Proto.Home p0):Int)
 let v7:Int:=(List.length (Proto.Wait p0):Int)
 zaO (zaf (zc7 p0 v5 (Proto.Wait p0) v7) (0:Int):Option (Unit⊕Bool)) fun v8=>let v9:Int:=(List.length (Proto.Dir p0):Int)
 zaO (zaf (zb9 p0 v3 (Proto.Dir p0) v9) (0:Int):Option (Unit⊕Bool)) fun v10=>some (true)
def zby:FnT:=⟨[zab],[.bool],fun x=>zcl x⟩
def zfP:TA :=
 .sub0 [.bool] (.call 47 zeT [.v 0] 1<|.prim (.un .not) [.v 1]<|.ite (.v 2) (.jmp 0 false [.c (.bool true)]) (.prim (.fld 6) [.v 0]<|.call 48 zbi [.v 3] 1<|.prim (.un .not) [.v 4]<|.jmp 0 false [.v 5])) 1<|.ite (.v 1) (.jmp 0 false [.c (.bool false)]) (.prim (.fld 2) [.v 0]<|.prim .len [.v 2]<|.prim (.fld 3) [.v 0]<|.prim .len [.v 4]<|.prim (.fld 2) [.v 0]<|.prim .len [.v 6]<|.sub1 [] (.loop [.int .i64] [.c (.int .i64 0)] (.prim (.bin .lss) [.v 8,.v 7]<|.ite (.v 9) (.prim .get [.v 6,.v 8]<|.subp [.bool] (.prim (.fld 0) [.v 10]<|.prim (.bin .add) [.v 5,.c (.int .i64 1)]<|.callp 49 zaw [.v 11,.v 12] 1<|.prim (.un .not) [.v 13]<|.ite (.v 14) (.jmp 0 false [.c (.bool true)]) (.prim (.fld 6) [.v 10]<|.callp 49 zaw [.v 15,.c (.int .i64 256)] 1<|.prim (.un .not) [.v 16]<|.ite (.v 17) (.jmp 0 false [.c (.bool true)]) (.prim (.fld 7) [.v 10]<|.callp 49 zaw [.v 18,.c (.int .i64 256)] 1<|.prim (.un .not) [.v 19]<|.jmp 0 false [.v 20]))) 1<|.ite (.v 11) (.jmp 2 false [.c (.bool false)]) (.prim (.fld 0) [.v 0]<|.prim .get [.v 12,.v 8]<|.sub0 [.bool] (.sub0 [.int .i64] (.prim .len [.v 13]<|.sub1 [] (.loop [.int .i64] [.c (.int .i64 0)] (.prim (.bin .lss) [.v 15,.v 14]<|.ite (.v 16) (.prim .get [.v 13,.v 15]<|.callp 51 zd9 [.v 17] 1<|.ite (.v 18) (.jmp 2 false [.v 15]) (.prim (.bin .add) [.v 15,.c (.int .i64 1)]<|.jmp 0 true [.v 19])) (.jmp 1 false []))) 0<|.jmp 0 false [.c (.int .i64 (-1))]) 1<|.prim (.bin .geq) [.v 14,.c (.int .i64 0)]<|.jmp 0 false [.v 15]) 1<|.ite (.v 14) (.jmp 2 false [.c (.bool false)]) (.prim (.bin .add) [.v 8,.c (.int .i64 1)]<|.jmp 0 true [.v 15]))) (.jmp 1 false []))) 0<|.prim (.fld 4) [.v 0]<|.prim .len [.v 8]<|.sub1 [] (.loop [.int .i64] [.c (.int .i64 0)] (.prim (.bin .lss) [.v 10,.v 9]<|.ite (.v 11) (.prim .get [.v 8,.v 10]<|.sub0 [.bool] (.call 52 zct [.v 12,.v 3] 1<|.prim (.un .not) [.v 13]<|.ite (.v 14) (.jmp 0 false [.c (.bool true)]) (.prim (.fld 5) [.v 0]<|.prim .get [.v 15,.v 10]<|.prim (.bin .add) [.v 3,.c (.int .i64 1)]<|.callp 49 zaw [.v 16,.v 17] 1<|.prim (.un .not) [.v 18]<|.jmp 0 false [.v 19])) 1<|.ite (.v 13) (.jmp 2 false [.c (.bool false)]) (.prim (.bin .add) [.v 10,.c (.int .i64 1)]<|.jmp 0 true [.v 14])) (.jmp 1 false []))) 0<|.jmp 0 false [.c (.bool true)])
theorem zj6:zad cx 12 19=some zfP.erase:=by kernel_rfl
theorem zfS:zAH cx 12 noC 19 zby:=zaA (t:=zfP) zj6 (fun _=>rfl) (zau [(47,zeT),(48,zbi),(49,zaw.fn),(49,zaw.fn),(49,zaw.fn),(51,zd9.fn),(52,zct),(49,zaw.fn)] (by kernel_rfl) (.cons zoW (.cons zeG (.cons zbn (.cons zbn (.cons zbn (.cons zn9 (.cons ziZ (.cons zbn .nil))))))))) (fun x=>by kernel_rfl)
def zcL (p0:Pool):Option Int :=
 (zcZ p0).bind fun v1=>if !v1 then
 some ((0:Int))
 else
 some ((w64 ((64:Int) - (List.length (Pool.Frames p0):Int))))
def zbF:FnT:=⟨[zaJ],[.int .i64],fun x=>zcL x⟩
def ziL:TA :=
 .call 48 zbi [.v 0] 1<|.prim (.un .not) [.v 1]<|.ite (.v 2) (.jmp 0 false [.c (.int .i64 0)]) (.prim (.fld 0) [.v 0]<|.prim .len [.v 3]<|.prim (.bin .sub) [.c (.int .i64 64),.v 4]<|.jmp 0 false [.v 5])
theorem znd:zad cx 12 28=some ziL.erase:=by kernel_rfl
theorem zfR:zAH cx 12 noC 28 zbF:=zaA (t:=ziL) znd (fun _=>rfl) (zau [(48,zbi)] (by kernel_rfl) (.cons zeG .nil)) (fun x=>by kernel_rfl)
def zet (p0:Proto) (p1:Int) (p2:Int):Option Bool :=
 ((ze4 p0).bind fun v3=>if v3 then
 if decide ((0:Int)≤p1) then
 if decide (p1<(List.length (Proto.Wait p0):Int)) then
 if decide ((0:Int)≤p2) then
 some ((decide (p2<(List.length (Proto.Home p0):Int))))
 else
 some (false)
 else
 some (false)
 else
 some (false)
 else
 some (false):Option Bool).bind fun v3=>some v3
def zbB:FnT:=⟨[zab,.int .i64,.int .i64],[.bool],fun x=>zet x.1 x.2.1 x.2.2⟩
def zjf:TA :=
 .sub0 [.bool] (.call 20 zeb [.v 0] 1<|.ite (.v 3) (.prim (.bin .geq) [.v 1,.c (.int .i64 0)]<|.ite (.v 4) (.prim (.fld 2) [.v 0]<|.prim .len [.v 5]<|.prim (.bin .lss) [.v 1,.v 6]<|.ite (.v 7) (.prim (.bin .geq) [.v 2,.c (.int .i64 0)]<|.ite (.v 8) (.prim (.fld 3) [.v 0]<|.prim .len [.v 9]<|.prim (.bin .lss) [.v 2,.v 10]<|.jmp 0 false [.v 11]) (.jmp 0 false [.c (.bool false)])) (.jmp 0 false [.c (.bool false)])) (.jmp 0 false [.c (.bool false)])) (.jmp 0 false [.c (.bool false)])) 1<|.jmp 0 false [.v 3]
theorem zn6:zad cx 12 42=some zjf.erase:=by kernel_rfl
theorem zf6:zAH cx 12 noC 42 zbB:=zaA (t:=zjf) zn6 (fun _=>rfl) (zau [(20,zeb)] (by kernel_rfl) (.cons znc .nil)) (fun x=>by kernel_rfl)
def zfc (p0:Entry) (p1:Int):Option (Entry×Int) :=
 ((zaC 1 (Entry.Share p0)).bind fun v3=>some ((Entry.Owner p0,v3)):Option (Int×(List Bool))).bind fun v2=>(ze5 (Entry.mk v2.1 v2.2) p1).bind fun v5=>if !v5 then
 some ((Entry.mk v2.1 v2.2,(1:Int)))
 else
 if !decide (v2.1=(w64 (p1 + (1:Int)))) then
 some ((Entry.mk v2.1 v2.2,(7:Int)))
 else
 some ((Entry.mk (0:Int) v2.2,(0:Int)))
def zgM:FnT:=⟨[zan,.int .i64],[zan,.int .i64],fun x=>zfc x.1 x.2⟩
def zha:TA :=
 .sub0 [.int .i64,.sl .bool] (.prim (.fld 1) [.v 0]<|.prim (.clone 1) [.v 2]<|.prim (.fld 0) [.v 0]<|.prim (.fld 1) [.v 0]<|.jmp 0 false [.v 4,.v 3]) 2<|.mkS zbl [.v 2,.v 3]<|.call 101 zco [.v 4,.v 1] 1<|.prim (.un .not) [.v 5]<|.ite (.v 6) (.mkS zbl [.v 2,.v 3]<|.jmp 0 false [.v 7,.c (.int .i64 1)]) (.prim (.bin .add) [.v 1,.c (.int .i64 1)]<|.prim (.bin .neq) [.v 2,.v 7]<|.ite (.v 8) (.mkS zbl [.v 2,.v 3]<|.jmp 0 false [.v 9,.c (.int .i64 7)]) (.mkS zbl [.c (.int .i64 0),.v 3]<|.jmp 0 false [.v 9,.c (.int .i64 0)]))
theorem zlK:zad cx 12 71=some zha.erase:=by kernel_rfl
theorem ztd:zAH cx 12 noC 71 zgM:=zaA (t:=zha) zlK (fun _=>rfl) (zau [(101,zco)] (by kernel_rfl) (.cons ziI .nil)) (fun x=>by kernel_rfl)
def zgc (x0:Pool) (x1:Int) (s:(Int×(List (List Int)))):Option ((Int×(List (List Int)))⊕(List (List Int))) :=
 if decide (s.1<(List.length (Pool.Frames x0):Int)) then
 (if !decide (s.1=x1) then
 (zAF (Pool.Frames x0) s.1).bind fun v11=>(zAK 24 s.2 ([v11]:List (List Int))).bind fun v13=>some v13
 else
 some (s.2):Option (List (List Int))).bind fun v10=>some (Sum.inl (w64 (s.1 + (1:Int)),v10))
 else
 some (Sum.inr (s.2))
def zkh (p0:Pool) (p1:Int):Option (Pool×Int) :=
 (zgY p0 p1).bind fun v2=>if !decide (v2=(0:Int)) then
 some ((p0,v2))
 else
 (zaf (zgc p0 p1) ((0:Int),([]:List (List Int))):Option (List (List Int))).bind fun v4=>some ((Pool.mk v4,(0:Int)))
def zkS:FnT:=⟨[zaJ,.int .i64],[zaJ,.int .i64],fun x=>zkh x.1 x.2⟩
def zld:TA :=
 .call 72 zek [.v 0,.v 1] 1<|.prim (.bin .neq) [.v 2,.c (.int .i64 0)]<|.ite (.v 3) (.jmp 0 false [.v 0,.v 2]) (.sub0 [.sl (.sl (.int .u8))] (.loop [.int .i64,.sl (.sl (.int .u8))] [.c (.int .i64 0),.c .nil] (.prim (.fld 0) [.v 0]<|.prim .len [.v 6]<|.prim (.bin .lss) [.v 4,.v 7]<|.ite (.v 8) (.prim (.bin .neq) [.v 4,.v 1]<|.sub0 [.sl (.sl (.int .u8))] (.ite (.v 9) (.prim (.fld 0) [.v 0]<|.prim .get [.v 10,.v 4]<|.mkL (.sl (.int .u8)) [.v 11]<|.prim (.app 24) [.v 5,.v 12]<|.jmp 0 false [.v 13]) (.jmp 0 false [.v 5])) 1<|.prim (.bin .add) [.v 4,.c (.int .i64 1)]<|.jmp 0 true [.v 11,.v 10]) (.jmp 1 false [.v 5]))) 1<|.mkS zb6 [.v 4]<|.jmp 0 false [.v 5,.c (.int .i64 0)])
theorem zpK:zad cx 12 73=some zld.erase:=by kernel_rfl
theorem zv4:zAH cx 12 noC 73 zkS:=zaA (t:=zld) zpK (fun _=>rfl) (zau [(72,zek)] (by kernel_rfl) (.cons znf .nil)) (fun x=>by kernel_rfl)
end Go.Proofs.YtdfohlonacbelaaGreat
