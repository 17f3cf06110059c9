/- Part 5 of a checked symbolic executor: what a function's code does is read off as a tree over plain data. No condition. -/
import Derived.Test.YtplfgkjjgflhkaaGreatSx4
set_option linter.unusedSimpArgs false
set_option linter.unusedVariables false
namespace Go.SX
theorem zAS {e l x i}(c:All2 (Rl e) l x):∀ y,getO x i=some y→∃ d,(if 0≤i then l[i.toNat]? else none)=some d∧Rl e d y:=by
 intro y a
 simp only [getO] at a
 split at a
 ·rename_i b
  rw [if_pos b]
  exact c.get a
 grind
theorem zDv {s}{n:Nat}{x}(h:(zdq s)[n]?=some x):∃ b:UInt8,s[n]?=some b∧x=b.toNat:=by
 unfold zdq at h
 rw [List.getElem?_map] at h
 cases a:s.data.toList[n]? with
 | none=>grind
 | some b =>
  rw [a] at h
  injection h with h
  refine ⟨b,?_,h.symm⟩
  rw [← a,Array.getElem?_toList]
  rfl
theorem zvD {s a b}:zdq (s.extract a b)=((zdq s).take b).drop a:=by simp [zdq,List.drop_take]
theorem zIc:∀ {l}{x:List Int},All2 (Rl (.int .u8)) l x→(x.all fun n=>decide (0≤n)&&decide (n<256))=true→∃ b,zgq l=some b∧x=b.map fun b=>(b.toNat:Int)
 | [],[],_,_=>⟨[],rfl,rfl⟩
 | d::l,n::x,h,hx=>by
  obtain ⟨b,h1,h2⟩:=zIc h.2 (by grind)
  have hd:=h.1
  grind [Rl,zgq,UInt8.toNat_ofNat']
 | [],_::_,h,_=>h.elim
 | _::_,[],h,_=>h.elim
theorem Rl.els {e:Ty}{d}{x:List e.T}(h:Rl (.sl e) d x):∃ l,d.els=some l∧All2 (Rl e) l x:=h
theorem Rl.mkSl {e:Ty}{l x}(h:All2 (Rl e) l x):Rl (.sl e) (.sl l) x:=⟨l,rfl,h⟩
theorem zdj {d:D}{l}(h:d.els=some l):d=.sl l∨(d=.nil∧l=[]):=by
 cases d<;>simp [D.els] at h
 all_goals grind
theorem zIh {K V:Ty}{d}{p:K.T×V.T}(h:Rl (.st [K,V]) d p):∃ k v,d=.agg [k,v]∧Rl K k p.1∧Rl V v p.2:=by
 obtain ⟨l,rfl,d1,m,rfl,h1,d2,rfl,h2⟩:=h
 grind
theorem zIm {K V k v x y}(b:Rl K k x) (a:Rl V v y):Rl (.st [K,V]) (.agg [k,v]) (x,y):=⟨_,rfl,k,[v],rfl,b,v,rfl,a⟩
theorem zxm {K V:Ty}(c:(K.flat&&K.known)=true) {d k}(b:Rl K d k):∀ {a}{l:List (K.T×V.T)},All2 (Rl (.st [K,V])) a l →
  ∃ o,zz6 d a=some o∧(o=none∧@zjU K.T V.T (Ty.dec K) k l=none∨∃ v y,o=some v∧@zjU K.T V.T (Ty.dec K) k l=some y∧Rl V v y)
 | [],[],_=>⟨none,rfl,.inl ⟨rfl,rfl⟩⟩
 | x::a,p::l,h=>by
  obtain ⟨f,v',rfl,e,h2⟩:=zIh h.1
  simp only [zz6,zjU,← (zFf c b e)]
  cases d.beq f with
  | true=>grind
  | false=>exact zxm c b h.2
 | [],_::_,h=>h.elim
 | _::_,[],h=>h.elim
theorem zFN {K V}(f:(K.flat&&K.known)=true) {d e k v}(a:Rl K d k) (b:Rl V e v):∀ {c}{l:List (K.T×V.T)},All2 (Rl (.st [K,V])) c l →
  ∃ m,zvy d e c=some m∧All2 (Rl (.st [K,V])) m (@zsg K.T V.T (Ty.dec K) k v l)
 | [],[],_=>⟨_,rfl,zIm a b,trivial⟩
 | x::c,p::l,h=>by
  obtain ⟨i,v',rfl,j,h2⟩:=zIh h.1
  simp only [zvy,zsg,← (zFf f a j)]
  cases d.beq i with
  | true=>exact ⟨_,rfl,zIm a b,h.2⟩
  | false =>
   obtain ⟨m,n,g⟩:=zFN f a b h.2
   simp only [wA0,if_false,n]
   exact ⟨_,rfl,h.1,g⟩
 | [],_::_,h=>h.elim
 | _::_,[],h=>h.elim
theorem All2.nilSub {d c}{R:d→c→Prop}{x}(h:All2 R [] x) (a b):All2 R [] ((x.take a).drop b):=by grind [All2]
theorem All2.nilCpy {e d}{R:e→d→Prop}{x m:List d}(h:All2 R [] x) {a b:Int}(hh:0≤a∧a≤b∧b≤x.length) (c):All2 R [] (x.take a.toNat++(m.take (b - a).toNat++x.drop c)):=by grind [All2]
theorem zue {g a b e f}(h1:Rl g e a) (h2:Rl g f b) (c:Bool):∃ d,some (if c then e else f)=some d∧Rl g d (cond c a b):=by grind
theorem All2.nilApp {d b}{R:d→b→Prop}{x m}(h:All2 R [] x) (h':All2 R [] m) (a c):All2 R [] (x.take a++(m++x.drop c)):=by grind [All2]
theorem zJg {i:Int}{n:Nat}(h:0≤i∧i<n) (e:0=n):False:=by omega
theorem all0 {b a:Int}{n:Nat}(h:0≤b∧b≤a∧a≤n) (e:0=n):b=0∧a=0:=by omega
theorem zFH {e:Ty}{b s t}{x y:List e.T}(n:Rl (.sl e) s x) (i:Rl (.sl e) t y):∀ z:List e.T,appO b x y=some z→∃ d,appD b s t=some d∧Rl (.sl e) d z:=by
 intro z f
 obtain ⟨l,c,g⟩:=n.els
 obtain ⟨m,k,h⟩:=i.els
 simp only [appO,← g.length_eq,← h.length_eq] at f
 split at f
 ·rename_i o
  injection f with f
  simp only [appD,c,k,o,if_true]
  refine ⟨_,rfl,l++m,?_,by rw [← f];exact g.append h⟩
  rcases zdj c with c|⟨c,j⟩
  ·subst c
   rfl
  ·subst c j
   cases m with
   | nil=>rfl
   | cons a m=>rfl
 grind
section
variable {p:Prim} {h:Ty} {vs:List TV} {ds:List D} {r:TR}
theorem zDF (A:RV ds vs) (c:tP p h vs=some r):TROk (p.run ds) r:=by
 cases p with
 | bin X=>exact zI6 A c
 | un X=>exact zJc A c
 | conv k =>
  simp only [tP] at c
  split at c
  ·injection c with c;subst c
   obtain ⟨d,rfl,i⟩:=A.one
   simp only [Rl] at i;subst i
   exact ⟨_,rfl,rfl⟩
  grind
 | len =>
  simp only [tP] at c
  split at c
  ·injection c with c;subst c
   obtain ⟨d,rfl,i⟩:=A.one
   obtain ⟨l,i,t⟩:=i
   rcases zdj i with i|⟨i,G⟩
   ·subst i
    exact ⟨_,rfl,by simp only [Rl];rw [← t.length_eq]⟩
   ·subst i G
    exact ⟨_,rfl,by simp only [Rl];rw [← t.length_eq];rfl⟩
  grind
 | get =>
  simp only [tP] at c
  split at c
  ·injection c with c;subst c
   obtain ⟨d,e,rfl,i,t⟩:=A.two
   simp only [Rl] at t;subst t
   obtain ⟨l,i,t⟩:=i
   intro y w
   rcases zdj i with i|⟨i,G⟩
   ·subst i
    exact zAS t y w
   grind [zAS]
  ·injection c with c;subst c
   obtain ⟨d,e,rfl,i,t⟩:=A.two
   simp only [Rl] at t;subst t
   obtain ⟨l,rfl,t⟩:=i
   intro y w
   exact zAS t y w
  grind
 | set =>
  simp only [tP] at c
  split at c
  ·split at c
   ·rename_i x P
    injection c with c;subst c
    obtain ⟨d,e,f,rfl,i,t,B⟩:=A.three
    simp only [Rl] at t;subst t
    obtain ⟨l,i,t⟩:=i
    intro y w
    simp only [setO,← t.length_eq] at w
    split at w
    ·rename_i F
     injection w with w;subst w
     rcases zdj i with i|⟨i,G⟩
     ·subst i
      exact ⟨.sl _,if_pos (by rw [t.length_eq];omega),_,rfl,t.set _ (zmb P B)⟩
     ·subst G
      exact (zJg F t.length_eq).elim
    grind
   grind
  ·split at c
   ·rename_i x P
    injection c with c;subst c
    obtain ⟨d,e,f,rfl,i,t,B⟩:=A.three
    simp only [Rl] at t;subst t
    obtain ⟨l,rfl,t⟩:=i
    intro y w
    simp only [setO,← t.length_eq] at w
    split at w
    ·rename_i F
     injection w with w;subst w
     exact ⟨.agg _,if_pos (by rw [t.length_eq];omega),_,rfl,t.set _ (zmb P B)⟩
    grind
   grind
  grind
 | fld j =>
  simp only [tP] at c
  split at c
  ·split at c
   ·rename_i v S
    injection c with c;subst c
    obtain ⟨d,rfl,i⟩:=A.one
    obtain ⟨l,rfl,t⟩:=i
    obtain ⟨d,B,H⟩:=zCZ S t
    exact ⟨d,B,H⟩
   grind
  grind
 | setf j =>
  simp only [tP] at c
  split at c
  ·split at c
   ·rename_i y S
    injection c with c;subst c
    obtain ⟨d,e,rfl,i,t⟩:=A.two
    obtain ⟨l,rfl,B⟩:=i
    obtain ⟨H,N⟩:=zGA S B t
    exact ⟨_,if_pos H,_,rfl,N⟩
   grind
  grind
 | mk =>
  simp only [tP] at c
  split at c
  ·split at c
   ·rename_i l R
    injection c with c;subst c
    exact ⟨_,rfl,_,rfl,zuZ A R⟩
   grind
  ·injection c with c;subst c
   exact ⟨_,rfl,_,rfl,zCx A⟩
 | mks =>
  simp only [tP] at c
  split at c
  ·split at c
   ·rename_i l R
    injection c with c;subst c
    exact ⟨_,rfl,_,rfl,zuZ A R⟩
   grind
  grind
 | sub =>
  simp only [tP] at c
  split at c
  ·injection c with c;subst c
   obtain ⟨d,e,f,rfl,i,t,B⟩:=A.three
   simp only [Rl] at t B;subst t B
   obtain ⟨l,i,t⟩:=i
   intro y w
   simp only [subO,← t.length_eq] at w
   split at w
   ·rename_i F
    injection w with w;subst w
    rcases zdj i with i|⟨i,G⟩
    ·subst i
     exact ⟨.sl _,if_pos (by rw [t.length_eq];omega),_,rfl,(t.take _).drop _⟩
    ·subst i G
     refine ⟨.nil,if_pos (all0 F t.length_eq),[],rfl,?_⟩
     exact t.nilSub _ _
   grind
  grind
 | app b =>
  simp only [tP] at c
  split at c
  ·split at c
   ·rename_i x P
    injection c with c;subst c
    obtain ⟨d,e,rfl,i,t⟩:=A.two
    exact zFH i (zmb P t)
   grind
  grind
 | zext z b =>
  simp only [tP] at c
  split at c
  ·split at c
   ·rename_i I
    injection c with c;subst c
    obtain ⟨d,e,rfl,i,t⟩:=A.two
    simp only [Rl] at t;subst t
    intro y w
    simp only [zDC] at w
    split at w
    ·rename_i W
     obtain ⟨d,L,K⟩:=zFH i (Rl.mkSl (All2.rep (zxK I) _)) y w
     grind [Prim.run]
    grind
   grind
  grind
 | rep z b =>
  simp only [tP] at c
  split at c
  ·split at c
   ·rename_i I
    injection c with c;subst c
    obtain ⟨d,e,rfl,i,t⟩:=A.two
    simp only [Rl] at i t;subst i t
    intro y w
    simp only [repO] at w
    split at w
    ·rename_i W
     injection w with w;subst w
     exact ⟨_,if_pos W,Rl.mkSl (All2.rep (zxK I) _)⟩
    grind
   grind
  grind
 | clone b =>
  simp only [tP] at c
  split at c
  ·injection c with c;subst c
   obtain ⟨d,rfl,i⟩:=A.one
   intro y w
   obtain ⟨l,t,B⟩:=i.els
   simp only [zaS,← B.length_eq] at w
   grind [Prim.run]
  grind
 | idx =>
  simp only [tP] at c
  split at c
  ·injection c with c;subst c
   obtain ⟨d,e,rfl,i,t⟩:=A.two
   simp only [Rl] at t;subst t
   obtain ⟨l,i,t⟩:=i.els
   intro y w
   simp only [idxO,← t.length_eq] at w
   split at w
   ·rename_i F
    injection w with w;subst w
    rcases zdj i with i|⟨i,G⟩
    ·subst i
     exact ⟨_,if_pos (by rw [t.length_eq];omega),rfl⟩
    ·subst G
     exact (zJg F t.length_eq).elim
   grind
  grind
 | idxn n =>
  simp only [tP] at c
  split at c
  ·injection c with c;subst c
   obtain ⟨d,rfl,i⟩:=A.one
   simp only [Rl] at i;subst i
   intro y w
   simp only [idxO] at w
   split at w
   ·rename_i F
    injection w with w;subst w
    exact ⟨_,if_pos F,rfl⟩
   grind
  grind
 | idxv =>
  simp only [tP] at c
  split at c
  ·injection c with c;subst c
   obtain ⟨d,e,f,rfl,i,t,B⟩:=A.three
   simp only [Rl] at i t B;subst i t B
   intro y w
   simp only [zGx] at w
   split at w
   ·rename_i F
    injection w with w;subst w
    exact ⟨_,if_pos F,rfl⟩
   grind
  grind
 | rng =>
  simp only [tP] at c
  split at c
  ·injection c with c;subst c
   obtain ⟨d,e,f,rfl,i,t,B⟩:=A.three
   simp only [Rl] at t B;subst t B
   obtain ⟨l,i,t⟩:=i.els
   intro y w
   simp only [rngO,← t.length_eq] at w
   split at w
   ·rename_i F
    injection w with w;subst w
    refine ⟨_,?_,rfl⟩
    simp only [Prim.run,i]
    exact if_pos (by rw [t.length_eq];omega)
   grind
  grind
 | pick =>
  simp only [tP] at c
  split at c
  ·split at c
   ·rename_i b U
    injection c with c;subst c
    obtain ⟨d,e,f,rfl,i,t,B⟩:=A.three
    simp only [Rl] at i;subst i
    exact zue t (zmb U B) _
   grind
  grind
 | isnil =>
  simp only [tP] at c
  split at c
  ·injection c with c;subst c
   obtain ⟨d,rfl,i⟩:=A.one
   obtain ⟨l,i,t⟩:=i.els
   intro y w
   simp only [zH0] at w
   split at w
   ·grind
   ·injection w with w;subst w
    have i:d.els=some l:=by omega
    rcases zdj i with i|⟨i,G⟩
    ·subst i
     exact ⟨_,rfl,rfl⟩
    ·subst G
     exact t.elim
  grind
 | eqv =>
  simp only [tP] at c
  split at c
  ·split at c
   ·rename_i I
    split at c
    ·rename_i b U
     injection c with c;subst c
     obtain ⟨d,e,rfl,i,t⟩:=A.two
     exact ⟨_,rfl,by simp only [Rl];rw [zFf I i (zmb U t)]⟩
    grind
   grind
  grind
 | slen =>
  simp only [tP] at c
  split at c
  ·injection c with c;subst c
   obtain ⟨d,rfl,i⟩:=A.one
   obtain ⟨s,rfl,t⟩:=i
   simp only at t;subst t
   exact ⟨_,rfl,by simp [Rl,zly]⟩
  grind
 | sget =>
  simp only [tP] at c
  split at c
  ·injection c with c;subst c
   obtain ⟨d,e,rfl,i,t⟩:=A.two
   simp only [Rl] at t;subst t
   obtain ⟨s,rfl,t⟩:=i
   simp only at t;subst t
   intro y w
   grind [getO,zDv,Rl,Prim.run]
  grind
 | ssub =>
  simp only [tP] at c
  split at c
  ·injection c with c;subst c
   obtain ⟨d,e,f,rfl,i,t,B⟩:=A.three
   simp only [Rl] at t B;subst t B
   obtain ⟨s,rfl,t⟩:=i
   simp only at t;subst t
   intro y w
   simp only [subO] at w
   split at w
   ·rename_i F
    injection w with w
    refine ⟨.str _,if_pos (by grind [zly]),_,rfl,?_⟩
    grind [zvD]
   grind
  grind
 | tosl =>
  simp only [tP] at c
  split at c
  ·injection c with c;subst c
   obtain ⟨d,rfl,i⟩:=A.one
   obtain ⟨l,rfl,i⟩:=i
   exact ⟨_,rfl,Rl.mkSl i⟩
  grind
 | clr z =>
  simp only [tP] at c
  split at c
  ·split at c
   ·rename_i I
    injection c with c;subst c
    obtain ⟨d,rfl,i⟩:=A.one
    obtain ⟨l,i,t⟩:=i.els
    rcases zdj i with i|⟨i,G⟩
    ·subst i
     exact ⟨_,rfl,Rl.mkSl (by rw [t.length_eq];grind [All2.rep,zxK])⟩
    ·subst i G
     refine ⟨_,rfl,[],rfl,?_⟩
     grind [All2]
   grind
  grind
 | cpy =>
  simp only [tP] at c
  split at c
  ·split at c
   ·rename_i m O
    injection c with c;subst c
    obtain ⟨d,e,rfl,i,t⟩:=A.two
    obtain ⟨l,rfl,i⟩:=i
    obtain ⟨M,t,B⟩:=(zmb O t).els
    refine ⟨.agg (M.take l.length++l.drop M.length),by grind [Prim.run],_,rfl,?_⟩
    show All2 _ _ (cpyT _ m)
    unfold cpyT
    rw [i.length_eq,B.length_eq]
    exact (B.take _).append (i.drop _)
   grind
  grind
 | cpyv =>
  simp only [tP] at c
  split at c
  ·split at c
   ·rename_i m O
    injection c with c;subst c
    obtain ⟨d,e,f,g,rfl,i,t,B,H⟩:=A.four
    simp only [Rl] at t B;subst t B
    obtain ⟨l,i,t⟩:=i.els
    obtain ⟨M,N,J⟩:=(zmb O H).els
    intro y w
    simp only [zx9,← t.length_eq] at w
    split at w
    ·rename_i F
     injection w with w
     simp only [Prim.run,i,N]
     rw [if_pos (by rw [t.length_eq];omega)]
     refine ⟨_,rfl,?_⟩
     rcases zdj i with i|⟨i,G⟩
     ·subst i
      refine ⟨_,rfl,?_⟩
      rw [← w,← (J.take _).length_eq]
      exact (t.take _).append ((J.take _).append (t.drop _))
     ·subst i G
      refine ⟨[],rfl,?_⟩
      rw [← w]
      exact t.nilCpy F _
    grind
   grind
  grind
 | appv b =>
  simp only [tP] at c
  split at c
  ·split at c
   ·rename_i m O
    injection c with c;subst c
    obtain ⟨d,e,f,rfl,i,t,B⟩:=A.three
    simp only [Rl] at t;subst t
    obtain ⟨l,i,t⟩:=i.els
    obtain ⟨M,N,J⟩:=(zmb O B).els
    intro y w
    simp only [zxA] at w
    split at w
    ·rename_i F
     injection w with w
     simp only [Prim.run,i,N]
     rw [if_pos (by rw [t.length_eq,J.length_eq];omega)]
     rw [← J.length_eq] at w
     refine ⟨_,rfl,?_⟩
     rcases zdj i with i|⟨i,G⟩
     ·subst i
      refine ⟨_,rfl,?_⟩
      rw [← w]
      exact (t.take _).append (J.append (t.drop _))
     ·subst i G
      cases M with
      | nil =>
       refine ⟨[],rfl,?_⟩
       rw [← w]
       exact t.nilApp J _ _
      | cons a M =>
       refine ⟨_,rfl,?_⟩
       rw [← w]
       exact (t.take _).append (J.append (t.drop _))
    grind
   grind
  grind
 | eqi =>
  simp only [tP] at c
  split at c
  ·injection c with c;subst c
   obtain ⟨d,e,rfl,i,t⟩:=A.two
   simp only [Rl] at i t;subst i t
   intro y w
   simp only [eqiO] at w
   split at w
   ·rename_i F
    injection w with w;subst w
    exact ⟨_,if_pos F,rfl⟩
   grind
  grind
 | vlen =>
  simp only [tP] at c
  split at c
  ·injection c with c;subst c
   obtain ⟨d,e,rfl,i,t⟩:=A.two
   simp only [Rl] at i t;subst i t
   exact ⟨_,rfl,rfl⟩
  grind
 | vadd =>
  simp only [tP] at c
  split at c
  ·injection c with c;subst c
   obtain ⟨d,e,rfl,i,t⟩:=A.two
   simp only [Rl] at i t;subst i t
   exact ⟨_,rfl,rfl⟩
  grind
 | rng3 =>
  simp only [tP] at c
  split at c
  ·injection c with c;subst c
   obtain ⟨d,e,f,g,rfl,i,t,B,H⟩:=A.four
   simp  at t B H;subst t B H
   obtain ⟨l,i,t⟩:=i.els
   intro y w
   simp only [zGC,← t.length_eq] at w
   split at w
   ·rename_i F
    injection w with w;subst w
    refine ⟨_,?_,rfl⟩
    simp only [Prim.run,i]
    exact if_pos (by rw [t.length_eq];omega)
   grind
  grind
 | rngv =>
  simp only [tP] at c
  split at c
  ·injection c with c;subst c
   obtain ⟨d,e,f,g,rfl,i,t,B,H⟩:=A.four
   simp  at t B H;subst t B H
   obtain ⟨l,i,t⟩:=i.els
   intro y w
   simp only [zzy,← t.length_eq] at w
   split at w
   ·rename_i F
    injection w with w;subst w
    refine ⟨_,?_,rfl⟩
    simp only [Prim.run,i]
    exact if_pos (by rw [t.length_eq];omega)
   grind
  grind
 | nn =>
  simp only [tP] at c
  split at c
  ·injection c with c;subst c
   obtain ⟨d,rfl,i⟩:=A.one
   obtain ⟨l,i,t⟩:=i.els
   intro y w
   simp only [nnO] at w
   split at w
   ·grind
   ·injection w with w;subst w
    have i:d.els=some l:=by omega
    rcases zdj i with i|⟨i,G⟩
    ·subst i
     exact ⟨_,rfl,Rl.mkSl t⟩
    ·subst G
     exact t.elim
  grind
 | mhas =>
  simp only [tP] at c
  split at c
  ·split at c
   ·rename_i I
    split at c
    ·rename_i q Q
     injection c with c;subst c
     obtain ⟨d,e,rfl,i,t⟩:=A.two
     obtain ⟨l,i,B⟩:=i.els
     obtain ⟨o,L,K⟩:=zxm I (zmb Q t) B
     refine ⟨_,by simp only [Prim.run,i,L];rfl,?_⟩
     grind [Rl,zJr]
    grind
   grind
  grind
 | mget z =>
  simp only [tP] at c
  split at c
  ·split at c
   ·rename_i I
    simp  at I
    split at c
    ·rename_i q Q
     injection c with c;subst c
     obtain ⟨d,e,rfl,i,t⟩:=A.two
     obtain ⟨l,i,B⟩:=i.els
     obtain ⟨o,L,K⟩:=zxm (by grind) (zmb Q t) B
     refine ⟨_,by simp only [Prim.run,i,L];rfl,?_⟩
     simp only [zya]
     rcases K with ⟨rfl,g3⟩|⟨v,y,rfl,g3,g4⟩
     all_goals grind [zxK]
    grind
   grind
  grind
 | mput =>
  simp only [tP] at c
  split at c
  ·split at c
   ·rename_i I
    split at c
    ·rename_i q Q
     split at c
     ·rename_i u hu
      injection c with c;subst c
      obtain ⟨d,e,f,rfl,i,t,B⟩:=A.three
      obtain ⟨l,i,H⟩:=i.els
      obtain ⟨m,L,K⟩:=zFN I (zmb Q t) (zmb hu B) H
      exact ⟨_,by grind [Prim.run],Rl.mkSl K⟩
     grind
    grind
   grind
  grind
 | b2s =>
  simp only [tP] at c
  split at c
  ·injection c with c;subst c
   obtain ⟨d,rfl,i⟩:=A.one
   obtain ⟨l,i,t⟩:=i.els
   intro y w
   simp only [b2sO] at w
   split at w
   ·rename_i F
    injection w with w;subst w
    obtain ⟨b,L,K⟩:=zIc t F
    refine ⟨.str ⟨b.toArray⟩,by grind [Prim.run],_,rfl,?_⟩
    refine Eq.trans K ?_
    rfl
   grind
  grind
 | s2b =>
  simp only [tP] at c
  split at c
  ·injection c with c;subst c
   obtain ⟨d,rfl,i⟩:=A.one
   obtain ⟨s,rfl,t⟩:=i
   simp only at t;subst t
   refine ⟨_,rfl,Rl.mkSl ?_⟩
   unfold zdq
   generalize s.data.toList=l
   induction l with
   | nil=>trivial
   | cons a l ih=>exact ⟨rfl,ih⟩
  grind
 | min2 =>
  simp only [tP] at c
  split at c
  ·split at c
   ·rename_i V
    subst V
    injection c with c;subst c
    obtain ⟨d,e,rfl,i,t⟩:=A.two
    subst i t
    exact ⟨_,if_pos rfl,rfl⟩
   grind
  grind
 | max2 =>
  simp only [tP] at c
  split at c
  ·split at c
   ·rename_i V
    subst V
    injection c with c;subst c
    obtain ⟨d,e,rfl,i,t⟩:=A.two
    subst i t
    exact ⟨_,if_pos rfl,rfl⟩
   grind
  grind
end
end Go.SX
namespace Go.SX
def RE:List TV→List D→Prop
 | [],ED=>ED=[]
 | v::E,ED=>∃ d ED',ED=ED'++[d]∧Rl v.τ d v.x∧RE E ED'
theorem RE.push {E a v d}(h:RE E a) (b:Rl v.τ d v.x):RE (v::E) (a++[d]):=⟨d,a,rfl,b,h⟩
theorem RE.nth:∀ {E}{a}{i}{v},RE E a→i<a.length→Go.SX.nth E (a.length - 1 - i)=some v→∃ d,a[i]?=some d∧Rl v.τ d v.x
 | [],a,i,v,h,f,_=>by
  have h:a=[]:=h
  grind
 | w::E,a,i,v,h,f,b=>by
  obtain ⟨d,c,rfl,hd,g⟩:=h
  simp only [wI0,List.length_cons,List.length_nil] at f b
  rcases vS0 i c.length with j|hg
  ·have e:c.length + (0 + 1) - 1 - i=(c.length - 1 - i) + 1:=by omega
   rw [e] at b
   obtain ⟨d',h1,h2⟩:=RE.nth g j b
   grind
  ·have e:i=c.length:=by omega
   subst e
   have e:c.length + (0 + 1) - 1 - c.length=0:=by omega
   rw [e] at b
   injection b with b
   grind
theorem RE.pushT:∀ {g}{x}{f}{E}{ED},RE E ED→RlL g f x→RE (pushT g x E) (ED++f)∧f.length=g.length
 | [],x,f,E,ED,h,c=>by
  have c:f=[]:=c
  grind [Go.SX.pushT]
 | [a],x,f,E,ED,h,c=>by
  obtain ⟨d,rfl,c⟩:=c
  exact ⟨h.push (v:=⟨a,x⟩) c,rfl⟩
 | a::b::us,x,f,E,ED,h,c=>by
  obtain ⟨d,m,rfl,i,j⟩:=c
  obtain ⟨k,g2⟩:=RE.pushT (h.push (v:=⟨a,x.1⟩) i) j
  refine ⟨?_,by grind⟩
  have e:ED++d::m=ED++[d]++m:=by simp
  rw [e]
  exact k
theorem zIf:∀ {e}{c}{x},RlL e c x→RV c (tvs e x)
 | [],c,x,h=>by
  subst h
  trivial
 | [a],c,x,h=>by
  obtain ⟨d,rfl,g⟩:=h
  exact ⟨g,trivial⟩
 | a::b::us,c,x,h=>by
  obtain ⟨d,m,rfl,i,f⟩:=h
  exact ⟨i,zIf f⟩
theorem RE.merge:∀ {m}{f}{c E}{g},RE E g→f.length=m.length→RV (zvO m f) c→RE (zu4 m c E) (g++f)
 | [],f,c,E,g,h,p,a=>by grind [zu4]
 | t::o,[],c,E,g,h,p,a=>by grind
 | t::o,d::f,c,E,g,h,p,a=>by
  have e:g++d::f=g++[d]++f:=by simp
  rw [e]
  have some:(∀ (v:TV) (b:List TV),c=v::b→Rl v.τ d v.x→RV (zvO o f) b→RE (zu4 o b (v::E)) (g++[d]++f)):=fun v b _ q r=>RE.merge (h.push q) (by grind) r
  cases t with
  | no=>exact RE.merge (E:=⟨.no,()⟩::E) (h.push (v:=⟨.no,()⟩) (by simp [Rl])) (by grind) a
  | int k=>cases c with|nil=>exact a.elim|cons v b=>exact some v b rfl a.1 a.2
  | bool=>cases c with|nil=>exact a.elim|cons v b=>exact some v b rfl a.1 a.2
  | str=>cases c with|nil=>exact a.elim|cons v b=>exact some v b rfl a.1 a.2
  | sl e=>cases c with|nil=>exact a.elim|cons v b=>exact some v b rfl a.1 a.2
  | arr n e=>cases c with|nil=>exact a.elim|cons v b=>exact some v b rfl a.1 a.2
  | st l=>cases c with|nil=>exact a.elim|cons v b=>exact some v b rfl a.1 a.2
theorem RE.pushL {a x b E c}(h:RE E c) (e:b.length=a.length) (d:RlL (live a) (zvO a b) x):RE (Go.SX.pushL a x E) (c++b):=RE.merge h e (zIf d)
theorem zzs {e}:∀ {τs}{b}{c},gets e b=some c→gets e (zvO τs b)=some (zvO τs c)
 | [],b,c,h=>rfl
 | t::f,[],c,h=>by
  simp [gets] at h
  subst h
  rfl
 | t::f,a::b,c,h=>by
  simp only [gets] at h
  cases ha:a.get e with
  | none=>grind
  | some d =>
   cases i:gets e b with
   | none=>grind
   | some ds' =>
    have g:=zzs (τs:=f) i
    cases t<;>simp only [zvO]<;>first|exact g|grind [gets]
theorem zGI {a k τs b c}(h:gets a b=some c):gets a (visA k τs b)=some (visA k τs c):=by
 cases k with
 | zero=>exact h
 | succ k=>exact zzs h
theorem zwl {e n}(g:n=e.length):∀ {b},b.all (zoo n)=true→∃ f,gets e b=some f∧f.length=b.length
 | [],_=>⟨[],rfl,rfl⟩
 | a::b,h=>by
  simp only [List.all_cons,wD0] at h
  obtain ⟨f,h1,h2⟩:=zwl g h.2
  have ha:∃ d,a.get e=some d:=by
   cases a with
   | v i =>
    simp_all [zoo,At.get]
   | c d=>exact ⟨d,rfl⟩
  grind [gets]
section
variable {E:List TV} {ED:List D} {n:Nat} {h:Ty}
theorem zHV {a v}(g:RE E ED) (f:n=ED.length) (b:atV E n h a=some v):∃ d,a.get ED=some d∧Rl v.τ d v.x:=by
 subst f
 cases a with
 | v i =>
  simp only [atV] at b
  split at b
  ·exact g.nth (by simp_all) b
  grind
 | c d =>
  refine ⟨d,rfl,?_⟩
  simp only [atV] at b
  split at b
  ·injection b with b;subst b;rfl
  ·injection b with b;subst b;rfl
  ·injection b with b;subst b;exact ⟨_,rfl,rfl⟩
  grind [zxK]
theorem zCO {a e x}(j:RE E ED) (h:n=ED.length) (b:atT E n e a=some x):∃ d,a.get ED=some d∧Rl e d x:=by
 subst h
 cases a with
 | v i =>
  simp only [atT] at b
  split at b
  ·split at b
   ·rename_i v k
    obtain ⟨d,l,g⟩:=j.nth (by simp_all) k
    exact ⟨d,l,zmb b g⟩
   grind
  grind
 | c d =>
  refine ⟨d,rfl,?_⟩
  grind [atT,zxK]
theorem ztE (g:RE E ED) (i:n=ED.length):∀ {f}{e},atsV E n h f=some e→∃ c,gets ED f=some c∧RV c e
 | [],e,b=>by
  injection b with b;subst b
  exact ⟨[],rfl,trivial⟩
 | a::f,e,b=>by
  simp only [atsV] at b
  split at b
  ·grind
  ·rename_i v l
   split at b
   ·grind
   ·rename_i vs' m
    injection b with b;subst b
    obtain ⟨d,h1,o⟩:=zHV g i l
    obtain ⟨c,h3,k⟩:=ztE g i m
    exact ⟨d::c,by grind [gets],o,k⟩
theorem zkY (g:RE E ED) (h:n=ED.length):∀ {i}{f}{x},atsT E n i f=some x→∃ e,gets ED f=some e∧RlL i e x
 | [],[],x,c=>⟨[],rfl,rfl⟩
 | [],_::_,x,c=>by grind [atsT]
 | [_],[],x,c=>by grind [atsT]
 | _::_::_,[],x,c=>by grind [atsT]
 | [k],[a],x,c=>by
  obtain ⟨d,m,j⟩:=zCO g h c
  exact ⟨[d],by grind [gets],d,rfl,j⟩
 | [k],a::b::f,x,c=>by grind [atsT]
 | k::b::us,a::f,x,c=>by
  rw [atsT] at c
  split at c
  ·grind
  ·rename_i y p
   split at c
   ·grind
   ·rename_i ys q
    injection c with c;subst c
    obtain ⟨d,m,j⟩:=zCO g h p
    obtain ⟨e,h3,o⟩:=zkY g h q
    exact ⟨d::e,by grind [gets],d,e,rfl,j,o⟩
theorem ztZ {e}(h:RE E ED) (i:n=ED.length):∀ {f}{x},atsE E n e f=some x→∃ c,gets ED f=some c∧All2 (Rl e) c x
 | [],x,b=>by
  injection b with b;subst b
  exact ⟨[],rfl,trivial⟩
 | a::f,x,b=>by
  simp only [atsE] at b
  split at b
  ·grind
  ·rename_i y k
   split at b
   ·grind
   ·rename_i ys l
    injection b with b;subst b
    obtain ⟨d,h1,m⟩:=zCO h i k
    obtain ⟨c,h3,j⟩:=ztZ h i l
    exact ⟨d::c,by grind [gets],m,j⟩
theorem zyX {a b}(i:RE E ED) (j:n=ED.length) (c:asBool (atV E n h a)=some b):a.get ED=some (.bool b):=by
 cases e:atV E n h a with
 | none=>rw [e] at c;cases c
 | some v =>
  rw [e] at c
  obtain ⟨d,h1,g⟩:=zHV i j e
  obtain ⟨k,x⟩:=v
  cases k with
  | bool =>
   simp only [asBool] at c
   have g:d=.bool x:=g
   grind
  | _=>cases c
end
theorem zCG:∀ {d}{c}{x y},zHs d c x y=if c=true then x else y
 | [],c,x,y=>by rfl
 | [a],c,x,y=>by cases c<;>rfl
 | a::b::us,c,x,y=>by
  rw [zHs,zCG]
  cases c<;>rfl
def RlV (k:Nat) (τs:List Ty) (ds:List D) (x:Ty.Tup (vis k τs)):Prop:=ds.length=τs.length∧RlL (vis k τs) (visA k τs ds) x
def RJ:(lv:List (Nat×List Ty))→Res→J lv→Prop
 | [],_,_=>False
 | (k,τs)::l,r,j=>match l,j with
  | [],j=>∃ vs,r=.jmp 0 (zuu k) vs∧RlV k τs vs j
  | q::us,.inl x=>∃ vs,r=.jmp 0 (zuu k) vs∧RlV k τs vs x
  | q::us,.inr j=>∃ l' b' vs,r=.jmp (l' + 1) b' vs∧RJ (q::us) (.jmp l' b' vs) j
theorem zEB {E c n k b τs x}(j:RE E c) (d:n=c.length) (h:atsT E n (vis k τs) (visA k τs b)=some x) (g:b.length=τs.length) (i:b.all (zoo n)=true) :
  ∃ a,gets c b=some a∧RlV k τs a x:=by
 obtain ⟨ds,l,m⟩:=zkY j d h
 obtain ⟨a,e,f⟩:=zwl d i
 have:=zGI (k:=k) (τs:=τs) e
 rw [l] at this
 injection this with this
 subst this
 exact ⟨a,e,f.trans g,m⟩
theorem zEq {E o n a b}(r:RE E o) (m:n=o.length):∀ {p}{d}{j},jmpJ E n a b p d=some j→∃ s,gets o a=some s∧RJ p (.jmp d b s) j
 | [],d,j,h=>by grind [jmpJ]
 | [(k,f)],d,j,h=>by
  cases d with
  | zero =>
   have t:(if zuu k=b∧a.length=f.length∧a.all (zoo n)=true then atsT E n (vis k f) (visA k f a) else none)=some j:=h
   by_cases e:zuu k=b∧a.length=f.length∧a.all (zoo n)=true
   ·rw [if_pos e] at t
    obtain ⟨c,g,i⟩:=zEB r m t e.2.1 e.2.2
    exact ⟨c,g,c,by grind,i⟩
   grind
  | succ l=>grind [jmpJ]
 | (k,f)::q::us,d,j,h=>by
  cases d with
  | zero =>
   rw [jmpJ] at h
   by_cases e:zuu k=b∧a.length=f.length∧a.all (zoo n)=true
   ·rw [if_pos e] at h
    split at h
    ·rename_i x y
     injection h with h;subst h
     obtain ⟨c,g,i⟩:=zEB r m y e.2.1 e.2.2
     exact ⟨c,g,c,by grind,i⟩
    grind
   grind
  | succ l =>
   rw [jmpJ] at h
   split at h
   ·rename_i j' w
    injection h with h;subst h
    obtain ⟨c,g,i⟩:=zEq r m w
    exact ⟨c,g,l,b,c,rfl,i⟩
   grind
theorem zpZ {S R f}:∀ {n m}{s:S}{r:R},n≤m→zuM f n s=some r→zuM f m s=some r
 | 0,_,_,_,_,h=>by cases h
 | n + 1,0,_,_,h,_=>by omega
 | n + 1,m + 1,s,r,hm,h=>by
  simp only [zuM] at h ⊢
  split at h
  ·omega
  ·exact zpZ (by omega) h
  omega
theorem zlQ {S R f}{s:S}{r:R}:zaQ f s=some r↔∃ n,zuM f n s=some r:=by
 unfold zaQ
 split
 ·rename_i h
  constructor
  ·grind
  ·rintro ⟨n,a⟩
   obtain ⟨m,hm⟩:=(Classical.choose_spec h)
   have h1:=zpZ (Nat.le_max_left n m) a
   grind [zpZ,Nat.le_max_right]
 grind
theorem zDm {S R}(f:S→Option (Sum S R)) (s):zaQ f s=match f s with
  | none=>none
  | some (.inl b)=>zaQ f b
  | some (.inr r)=>some r:=by
 apply Option.ext
 intro r
 rw [zlQ]
 constructor
 ·rintro ⟨n,a⟩
  cases n with
  | zero=>cases a
  | succ n =>
   grind [zuM,zlQ]
 ·intro h
  split at h
  ·grind
  ·obtain ⟨n,a⟩:=zlQ.1 h
   exact ⟨n + 1,by grind [zuM]⟩
  ·exact ⟨1,by grind [zuM]⟩
section
variable (cx:Cx) (n:Nat) (C0:FuncId→List D→Option (List D))
def FnOk (f:FuncId) (fn:FnT):Prop:=∀ ds (x:Ty.Tup fn.ps) r,RlL fn.ps ds x→fn.sem x=some r→∃ rs,zDB cx n C0 f ds=some rs∧RlL fn.rs rs r
def TA.Ok:TA→Prop
 | .prim _ _ k=>k.Ok
 | .primH _ _ _ k=>k.Ok
 | .mkS _ _ k=>k.Ok
 | .mkA _ _ _ k=>k.Ok
 | .mkL _ _ k=>k.Ok
 | .call f fn _ _ k=>FnOk cx n C0 f fn∧k.Ok
 | .callp f fn _ _ k=>FnOk cx n C0 f fn.fn∧k.Ok
 | .subp _ t _ k=>t.Ok∧k.Ok
 | .sub0 _ t _ k=>t.Ok∧k.Ok
 | .sub1 _ t _ k=>t.Ok∧k.Ok
 | .loop _ _ b=>b.Ok
 | .ite _ t e=>t.Ok∧e.Ok
 | .jmp ..=>True
 | .clone _ _ _ _ k=>k.Ok
 | .fail _=>True
variable {cx n C0}
theorem zel {p a t E ds d}(h1:gets E a=some ds) (h2:p.run ds=some d):evL cx n C0 (.prim p a t) E=evL cx n C0 t (E++[d]):=by grind [zHO]
theorem zA9 {f d m t E c a}(h1:gets E d=some c) (h2:zDB cx n C0 f c=some a) (hm:a.length=m):evL cx n C0 (.call f d m t) E=evL cx n C0 t (E++a):=by grind [zHG]
theorem zzS {t k m E a b}(h1:evL cx n C0 t E=some (.jmp 0 b a)) (hm:a.length=m):evL cx n C0 (.sub t m k) E=evL cx n C0 k (E++a):=by grind [zEl]
theorem zJH {t k m l E a b}(d:evL cx n C0 t E=some (.jmp (l + 1) b a)):evL cx n C0 (.sub t m k) E=some (.jmp l b a):=by
 rw [zEl,d];rfl
theorem zgf:∀ {t:TA}{E}{o}{m}{j}{x},t.Ok cx n C0→RE E o→m=o.length→t.pden E m j=some x→∃ H,evL cx n C0 t.erase o=some (.jmp 0 false H)∧RlL j H x
 | .prim p G k,E,o,m,j,x,g,a,i,h=>by
  simp only [TA.pden] at h
  split at h
  ·grind
  ·rename_i H J
   obtain ⟨q,B,s⟩:=ztE a i J
   split at h
   ·rename_i v K
    obtain ⟨d,I,F⟩:=zDF s K
    obtain ⟨u,w,A⟩:=zgf (t:=k) g (a.push F) (by grind) h
    grind [TA.erase,zel]
   grind
 | .primH p hh G k,E,o,m,j,x,g,a,i,h=>by
  simp only [TA.pden] at h
  split at h
  ·grind
  ·rename_i H J
   obtain ⟨q,B,s⟩:=ztE a i J
   split at h
   ·rename_i v K
    obtain ⟨d,I,F⟩:=zDF s K
    obtain ⟨u,w,A⟩:=zgf (t:=k) g (a.push F) (by grind) h
    grind [TA.erase,zel]
   grind
 | .mkS ts G k,E,o,m,j,x,g,a,i,h=>by
  simp only [TA.pden] at h
  split at h
  ·grind
  ·rename_i y r
   obtain ⟨q,B,s⟩:=zkY a i r
   obtain ⟨u,w,A⟩:=zgf (t:=k) g (a.push (v:=⟨.st ts,y⟩) (d:=D.agg q) ⟨_,rfl,s⟩) (by grind) h
   exact ⟨u,by rw [TA.erase,zel B (d:=D.agg q) rfl,w],A⟩
 | .mkA c e G k,E,o,m,j,x,g,a,i,h=>by
  simp only [TA.pden] at h
  split at h
  ·grind
  ·rename_i y r
   obtain ⟨q,B,s⟩:=ztZ a i r
   obtain ⟨u,w,A⟩:=zgf (t:=k) g (a.push (v:=⟨.arr c e,y⟩) (d:=D.agg q) ⟨_,rfl,s⟩) (by grind) h
   exact ⟨u,by rw [TA.erase,zel B (d:=D.agg q) rfl,w],A⟩
 | .mkL e G k,E,o,m,j,x,g,a,i,h=>by
  simp only [TA.pden] at h
  split at h
  ·grind
  ·rename_i y r
   obtain ⟨q,B,s⟩:=ztZ a i r
   obtain ⟨u,w,A⟩:=zgf (t:=k) g (a.push (v:=⟨.sl e,y⟩) (d:=D.sl q) ⟨_,rfl,s⟩) (by grind) h
   exact ⟨u,by rw [TA.erase,zel B (d:=D.sl q) rfl,w],A⟩
 | .callp f fn G Q k,E,o,m,j,x,g,a,i,h=>by
  simp only [TA.pden] at h
  split at h
  ·grind
  ·rename_i y r
   obtain ⟨q,B,s⟩:=zkY a i r
   split at h
   ·rename_i R
    obtain ⟨rs,I,F⟩:=g.1 q y _ s rfl
    obtain ⟨L,M⟩:=a.pushT F
    have hrm  := M.trans R
    obtain ⟨u,w,A⟩:=zgf (t:=k) g.2 L (by grind) h
    grind [TA.erase,zA9]
   grind
 | .subp σs t Q k,E,o,m,j,x,g,a,i,h=>by
  simp only [TA.pden] at h
  split at h
  ·grind
  ·rename_i y r
   obtain ⟨rs,I,F⟩:=zgf (t:=t) g.1 a i r
   split at h
   ·obtain ⟨L,M⟩:=a.pushT F
    obtain ⟨u,w,A⟩:=zgf (t:=k) g.2 L (by grind) h
    grind [TA.erase,zzS]
   grind
 | .ite c t e,E,o,m,j,x,g,a,i,h=>by
  simp only [TA.pden] at h
  split at h
  ·grind
  ·rename_i b N
   have N:=zyX a i N
   split at h
   ·grind
   ·rename_i y r
    split at h
    ·grind
    ·rename_i z O
     rw [zCG] at h
     obtain ⟨u,w,A⟩:=zgf (t:=t) g.1 a i r
     obtain ⟨us,h7,h8⟩:=zgf (t:=e) g.2 a i O
     grind [TA.erase,zx8]
 | .jmp l b G,E,o,m,j,x,g,a,i,h=>by grind [TA.pden,zkY,TA.erase,zxD]
 | .call ..,E,o,m,j,x,g,a,i,h=>by grind [TA.pden]
 | .sub0 ..,E,o,m,j,x,g,a,i,h=>by grind [TA.pden]
 | .sub1 ..,E,o,m,j,x,g,a,i,h=>by grind [TA.pden]
 | .loop ..,E,o,m,j,x,g,a,i,h=>by grind [TA.pden]
 | .clone ..,E,o,m,j,x,g,a,i,h=>by grind [TA.pden]
 | .fail _,E,o,m,j,x,g,a,i,h=>by grind [TA.pden]
theorem RJ.up {f q a r j b}(h:RJ ((b,f)::q::a) r (Sum.inr j)):∃ d e c,r=.jmp (d + 1) e c∧RJ (q::a) (.jmp d e c) j:=h
theorem zep:∀ {t:TA}{E}{B}{m}{lv}{j},t.Ok cx n C0→RE E B→m=B.length→t.den E m lv=some j→∃ r,evL cx n C0 t.erase B=some r∧RJ lv r j
 | .prim p R k,E,B,m,lv,j,g,a,w,h=>by
  simp only [TA.den] at h
  split at h
  ·grind
  ·rename_i M hvs
   obtain ⟨G,H,A⟩:=ztE a w hvs
   split at h
   ·rename_i v Q
    obtain ⟨d,F,u⟩:=zDF A Q
    rw [TA.erase,zel H F]
    exact zep (t:=k) g (a.push u) (by grind) h
   ·rename_i τ o Q
    cases V:o with
    | none=>grind
    | some x =>
     rw [V] at h
     obtain ⟨d,F,u⟩:=zDF A Q x V
     rw [TA.erase,zel H F]
     exact zep (t:=k) g (a.push (v:=⟨τ,x⟩) u) (by grind) h
   grind
 | .primH p hh R k,E,B,m,lv,j,g,a,w,h=>by
  simp only [TA.den] at h
  split at h
  ·grind
  ·rename_i M hvs
   obtain ⟨G,H,A⟩:=ztE a w hvs
   split at h
   ·rename_i v Q
    obtain ⟨d,F,u⟩:=zDF A Q
    rw [TA.erase,zel H F]
    exact zep (t:=k) g (a.push u) (by grind) h
   ·rename_i τ o Q
    cases V:o with
    | none=>grind
    | some x =>
     rw [V] at h
     obtain ⟨d,F,u⟩:=zDF A Q x V
     rw [TA.erase,zel H F]
     exact zep (t:=k) g (a.push (v:=⟨τ,x⟩) u) (by grind) h
   grind
 | .mkS ts R k,E,B,m,lv,j,g,a,w,h=>by
  simp only [TA.den] at h
  split at h
  ·grind
  ·rename_i y K
   obtain ⟨G,H,A⟩:=zkY a w K
   rw [TA.erase,zel H (d:=D.agg G) rfl]
   exact zep (t:=k) g (a.push (v:=⟨.st ts,y⟩) (d:=D.agg G) ⟨_,rfl,A⟩) (by grind) h
 | .mkA c e R k,E,B,m,lv,j,g,a,w,h=>by
  simp only [TA.den] at h
  split at h
  ·grind
  ·rename_i y K
   obtain ⟨G,H,A⟩:=ztZ a w K
   rw [TA.erase,zel H (d:=D.agg G) rfl]
   exact zep (t:=k) g (a.push (v:=⟨.arr c e,y⟩) (d:=D.agg G) ⟨_,rfl,A⟩) (by grind) h
 | .mkL e R k,E,B,m,lv,j,g,a,w,h=>by
  simp only [TA.den] at h
  split at h
  ·grind
  ·rename_i y K
   obtain ⟨G,H,A⟩:=ztZ a w K
   rw [TA.erase,zel H (d:=D.sl G) rfl]
   exact zep (t:=k) g (a.push (v:=⟨.sl e,y⟩) (d:=D.sl G) ⟨_,rfl,A⟩) (by grind) h
 | .call f fn R mm k,E,B,m,lv,j,g,a,w,h=>by
  simp only [TA.den] at h
  split at h
  ·grind
  ·rename_i y K
   obtain ⟨G,H,A⟩:=zkY a w K
   split at h
   ·rename_i O
    cases L:fn.sem y with
    | none=>grind
    | some z =>
     rw [L] at h
     obtain ⟨rs,F,u⟩:=g.1 G y _ A L
     obtain ⟨S,Y⟩:=a.pushT u
     rw [TA.erase,zA9 H F (Y.trans O)]
     exact zep (t:=k) g.2 S (by grind) h
   grind
 | .callp f fn R mm k,E,B,m,lv,j,g,a,w,h=>by
  simp only [TA.den] at h
  split at h
  ·grind
  ·rename_i y K
   obtain ⟨G,H,A⟩:=zkY a w K
   split at h
   ·rename_i O
    obtain ⟨rs,F,u⟩:=g.1 G y _ A rfl
    obtain ⟨S,Y⟩:=a.pushT u
    have U  := Y.trans O
    rw [TA.erase,zA9 H F U]
    exact zep (t:=k) g.2 S (by grind) h
   grind
 | .subp I t mm k,E,B,m,lv,j,g,a,w,h=>by
  simp only [TA.den] at h
  split at h
  ·grind
  ·rename_i y K
   obtain ⟨rs,F,u⟩:=zgf (t:=t) g.1 a w K
   split at h
   ·rename_i O
    obtain ⟨S,Y⟩:=a.pushT u
    rw [TA.erase,zzS F (Y.trans O)]
    exact zep (t:=k) g.2 S (by grind) h
   grind
 | .sub0 I t mm k,E,B,m,lv,j,g,a,w,h=>by
  simp only [TA.den] at h
  split at h
  ·rename_i O
   cases L:(TA.den t E m [(1,I)]:Option (Ty.Tup (live I))) with
   | none=>grind
   | some z =>
    rw [L] at h
    obtain ⟨r,F,u⟩:=zep (t:=t) (lv:=[(1,I)]) g.1 a w L
    obtain ⟨M,rfl,u⟩:=u
    have U  := u.1.trans O
    rw [TA.erase,zzS F U]
    exact zep (t:=k) g.2 (a.pushL u.1 u.2) (by grind) h
  grind
 | .sub1 I t mm k,E,B,m,lv,j,g,a,w,h=>by
  cases lv with
  | nil=>grind [TA.den]
  | cons q P =>
   simp only [TA.den] at h
   split at h
   ·rename_i O
    cases L:(TA.den t E m ((1,I)::q::P):Option (Sum (Ty.Tup (live I)) (J (q::P)))) with
    | none=>grind
    | some z =>
     rw [L] at h
     obtain ⟨r,F,u⟩:=zep (t:=t) (lv:=(1,I)::q::P) g.1 a w L
     cases z with
     | inl x =>
      obtain ⟨M,rfl,u⟩:=u
      have U  := u.1.trans O
      rw [TA.erase,zzS F U]
      exact zep (t:=k) g.2 (a.pushL u.1 u.2) (by grind) h
     | inr z =>
      injection h with h;subst h
      obtain ⟨W,X,M,rfl,h5⟩:=u.up
      grind [TA.erase,zJH]
   grind
 | .loop I init b,E,B,m,lv,j,g,a,w,h=>by
  cases lv with
  | nil=>grind [TA.den]
  | cons q P =>
   simp only [TA.den] at h
   split at h
   ·rename_i hi
    split at h
    ·grind
    ·rename_i x hx
     obtain ⟨G,H,A⟩:=zEB (k:=2) (τs:=I) a w hx hi.1 hi.2
     obtain ⟨N,hN⟩:=zlQ.1 h
     rw [TA.erase,zHJ,H]
     simp only
     have main:∀ N (x:Ty.Tup (live I)) G,RlV 2 I G x→zuM (fun s:Ty.Tup (live I)=>(TA.den b (pushL I s E) (m + I.length) ((2,I)::q::P):Option (Sum (Ty.Tup (live I)) (J (q::P))))) N x=some j→∃ W X M,zGp cx n C0 b.erase B G=some (.jmp (W + 1) X M)∧RJ (q::P) (.jmp W X M) j:=by
      intro N
      induction N with
      | zero=>intro x G _ h;cases h
      | succ N ih =>
       intro x G A h
       simp only [zuM] at h
       split at h
       ·grind
       ·rename_i s' L
        obtain ⟨r,F,u⟩:=zep (t:=b) (lv:=(2,I)::q::P) g (a.pushL A.1 A.2) (by simp [w,A.1]) L
        obtain ⟨M,rfl,u⟩:=u
        rw [zCs,F]
        exact ih s' M u h
       ·rename_i r' L
        obtain ⟨r,F,u⟩:=zep (t:=b) (lv:=(2,I)::q::P) g (a.pushL A.1 A.2) (by simp [w,A.1]) L
        injection h with h;subst h
        obtain ⟨W,X,M,rfl,h5⟩:=u.up
        grind [zCs]
     obtain ⟨W,X,M,F,u⟩:=main N x G A hN
     rw [F]
     exact ⟨_,rfl,u⟩
   grind
 | .ite c t e,E,B,m,lv,j,g,a,w,h=>by
  simp only [TA.den] at h
  split at h
  ·grind
  ·rename_i b hb
   rw [TA.erase,zx8,(zyX a w hb)]
   cases b
   ·exact zep (t:=e) g.2 a w h
   ·exact zep (t:=t) g.1 a w h
 | .jmp l b R,E,B,m,lv,j,g,a,w,h=>by grind [TA.den,zEq,TA.erase,zxD]
 | .clone c b e s k,E,B,m,lv,j,g,a,w,h=>by
  simp only [TA.den] at h
  split at h
  ·grind
  ·rename_i x hx
   obtain ⟨d,H,A⟩:=zCO a w hx
   split at h
   ·rename_i hc
    have hc:=Nat.eq_of_beq_eq_true hc
    subst hc
    cases K:zaS b x with
    | none=>grind
    | some y =>
     rw [K] at h
     have hxy:zcm (List.length x) b=true∧x=y:=by grind [zaS]
     obtain ⟨hroom,hxy⟩:=hxy
     subst hxy
     have hrun:evL cx n C0 (.prim .isnil [s] (.ite (.v c) (.jmp 0 false [.c .nil]) (.prim (.app b) [.c (.sl []),s] (.jmp 0 false [.v (c + 1)])))) B=some (.jmp 0 false [d]):=by
      obtain ⟨l,Z,e2⟩:=A.els
      rw [← e2.length_eq] at hroom
      subst w
      rcases zdj Z with Z|⟨Z,e1'⟩
      ·subst Z
       rw [zel (ds:=[.sl l]) (d:=.bool false) (by grind [gets]) rfl,zx8]
       have h1':s.get (B++[.bool false])=some (.sl l):=At.get_ext (fun i d h=>get_app h) H
       simp_all [gets,Prim.run,appD,D.els,zel,zxD,At.get]
      ·subst Z
       rw [zel (ds:=[.nil]) (d:=.bool true) (by grind [gets]) rfl,zx8]
       have hget:(At.v B.length).get (B++[.bool true])=some (.bool true):=by simp [At.get]
       rw [hget,zxD]
       rfl
     rw [TA.erase,zzS (m:=1) hrun rfl]
     exact zep (t:=k) g (a.push (v:=⟨.sl e,x⟩) A) (by grind) h
   grind
 | .fail _,E,B,m,lv,j,g,a,w,h=>by grind [TA.den]
theorem RE.args {a x b}(h:RlL a b x):RE (Go.SX.pushT a x []) b∧b.length=a.length:=by
 have:=RE.pushT (E:=[]) (ED:=[]) rfl h
 grind
theorem zJU {f}{t:TA}{b a}{g:Ty.Tup b→Option (Ty.Tup a)}(h:zaM cx n f=some t.erase) (l:∀ d,C0 f d=none) (j:t.Ok cx n C0)
  (k:∀ x,g x=t.den (pushT b x []) b.length [(0,a)]):FnOk cx n C0 f ⟨b,a,g⟩:=by
 intro d x r m o
 obtain ⟨p,q⟩:=RE.args m
 obtain ⟨r',s,u,rfl,i⟩:=zep (t:=t) (lv:=[(0,a)]) j p q.symm ((k x).symm.trans o)
 rw [zDk cx n C0 h (l d),s]
 exact ⟨u,rfl,i.2⟩
theorem zJM {f}{t:TA}{a d h}(o:zaM cx n f=some t.erase) (l:∀ c,C0 f c=none) (j:t.Ok cx n C0)
  (k:∀ x,some (h x)=t.pden (pushT a x []) a.length d):FnOk cx n C0 f (PnT.fn ⟨a,d,h⟩):=by
 intro c x r m g
 obtain ⟨p,q⟩:=RE.args m
 injection g with g
 obtain ⟨s,u,i⟩:=zgf (t:=t) j p q.symm (k x).symm
 rw [zDk cx n C0 o (l c),u]
 exact ⟨s,rfl,by rw [← g];exact i⟩
def TA.calls:TA→List (FuncId×FnT)
 | .prim _ _ k=>k.calls
 | .primH _ _ _ k=>k.calls
 | .mkS _ _ k=>k.calls
 | .mkA _ _ _ k=>k.calls
 | .mkL _ _ k=>k.calls
 | .call f fn _ _ k=>(f,fn)::k.calls
 | .callp f fn _ _ k=>(f,fn.fn)::k.calls
 | .subp _ t _ k=>t.calls++k.calls
 | .sub0 _ t _ k=>t.calls++k.calls
 | .sub1 _ t _ k=>t.calls++k.calls
 | .loop _ _ b=>b.calls
 | .ite _ t e=>t.calls++e.calls
 | .clone _ _ _ _ k=>k.calls
 | .jmp ..=>[]
 | .fail _=>[]
def AllOk (cx:Cx) (n:Nat) (C0:FuncId→List D→Option (List D)) (l:List (FuncId×FnT)):Prop:=∀ p∈l,FnOk cx n C0 p.1 p.2
theorem AllOk.nil:AllOk cx n C0 []:=fun _ h=>by grind
theorem AllOk.cons {f b l}(h:FnOk cx n C0 f b) (e:AllOk cx n C0 l):AllOk cx n C0 ((f,b)::l):=fun p a=>by
 rcases List.mem_cons.1 a with a|a
 ·grind
 ·exact e p a
theorem ok_of_all:∀ {t:TA},AllOk cx n C0 t.calls→t.Ok cx n C0
 | .prim _ _ k,h=>ok_of_all (t:=k) h
 | .primH _ _ _ k,h=>ok_of_all (t:=k) h
 | .mkS _ _ k,h=>ok_of_all (t:=k) h
 | .mkA _ _ _ k,h=>ok_of_all (t:=k) h
 | .mkL _ _ k,h=>ok_of_all (t:=k) h
 | .call f c _ _ k,h=>⟨h (f,c) List.mem_cons_self,ok_of_all (t:=k) fun p a=>h p (vI0 _ a)⟩
 | .callp f c _ _ k,h=>⟨h (f,c.fn) List.mem_cons_self,ok_of_all (t:=k) fun p a=>h p (vI0 _ a)⟩
 | .subp _ t _ k,h=>⟨ok_of_all (t:=t) fun p a=>h p (vQ0 _ a),ok_of_all (t:=k) fun p a=>h p (List.mem_append_right _ a)⟩
 | .sub0 _ t _ k,h=>⟨ok_of_all (t:=t) fun p a=>h p (vQ0 _ a),ok_of_all (t:=k) fun p a=>h p (List.mem_append_right _ a)⟩
 | .sub1 _ t _ k,h=>⟨ok_of_all (t:=t) fun p a=>h p (vQ0 _ a),ok_of_all (t:=k) fun p a=>h p (List.mem_append_right _ a)⟩
 | .loop _ _ b,h=>ok_of_all (t:=b) h
 | .ite _ t e,h=>⟨ok_of_all (t:=t) fun p a=>h p (vQ0 _ a),ok_of_all (t:=e) fun p a=>h p (List.mem_append_right _ a)⟩
 | .clone _ _ _ _ k,h=>ok_of_all (t:=k) h
 | .jmp ..,_=>trivial
 | .fail _,_=>trivial
theorem zJs {t:TA}(l) (h:t.calls=l) (hl:AllOk cx n C0 l):t.Ok cx n C0:=ok_of_all (by grind)
end
end Go.SX
namespace Go.SX
def okI (k:IntKind) (n:Int):Prop:=k.min≤n∧n≤k.max
def okS (l:List Int):Prop:=l.length≤maxLen∧∀ b∈l,0≤b∧b<256
def okSl {α:Type}(P:α→Prop) (l:List α):Prop:=l.length≤maxLen∧∀ x∈l,P x
def okAr {α:Type}(n:Nat) (P:α→Prop) (l:List α):Prop:=l.length=n∧∀ x∈l,P x
mutual
def OkT:(τ:Ty)→τ.T→Prop
 | .int k,n=>okI k n
 | .bool,_=>True
 | .str,l=>okS l
 | .sl e,l=>okSl (OkT e) l
 | .arr n e,l=>okAr n (OkT e) l
 | .st ts,x=>OkL ts x
 | .no,_=>True
def OkL:(ts:List Ty)→Ty.Tup ts→Prop
 | [],_=>True
 | a::ts,x=>match ts,x with
  | [],x=>OkT a x
  | b::us,x=>OkT a x.1∧OkL (b::us) x.2
end
mutual
theorem zI7:∀ {p:Ty}{d:D},Wt p d→∃ x:p.T,Rl p d x∧OkT p x
 | .int k,d,h=>by
  obtain ⟨n,rfl,g,i⟩:=h.toInt
  exact ⟨n,rfl,g,i⟩
 | .bool,d,h=>by
  obtain ⟨b,rfl⟩:=h.toBool
  exact ⟨b,rfl,trivial⟩
 | .str,d,h=>by
  obtain ⟨s,rfl,hs⟩:=h.toStr
  refine ⟨zdq s,⟨s,rfl,rfl⟩,by grind [zly],fun b q=>?_⟩
  unfold zdq at q
  rw [List.mem_map] at q
  obtain ⟨u,_,e⟩:=q
  have:=u.toNat_lt
  omega
 | .sl e,d,h=>by
  rcases h.toSl with rfl|⟨c,rfl,g,i⟩
  ·exact ⟨([]:List e.T),⟨[],rfl,trivial⟩,Nat.zero_le _,fun x hx=>by grind⟩
  ·obtain ⟨x,f,j⟩:=zF8 i
   exact ⟨x,⟨c,rfl,f⟩,by rw [← f.length_eq];omega,j⟩
 | .arr n e,d,h=>by
  obtain ⟨c,rfl,g,i⟩:=h.toArr
  obtain ⟨x,f,j⟩:=zF8 i
  exact ⟨x,⟨c,rfl,f⟩,by rw [← f.length_eq];omega,j⟩
 | .st o,d,h=>by
  obtain ⟨c,rfl,g⟩:=h.toSt
  obtain ⟨x,f,j⟩:=zGz g
  exact ⟨x,⟨c,rfl,f⟩,j⟩
 | .no,d,h=>⟨(),by simp [Rl],trivial⟩
theorem zF8:∀ {e:Ty}{c:List D},WtA e c→∃ x:List e.T,All2 (Rl e) c x∧∀ y∈x,OkT e y
 | e,[],_=>⟨[],trivial,fun y m=>by grind⟩
 | e,d::c,h=>by
  obtain ⟨x,g,i⟩:=zI7 h.1
  obtain ⟨r,f,j⟩:=zF8 h.2
  refine ⟨x::r,⟨g,f⟩,fun y m=>?_⟩
  rcases List.mem_cons.1 m with m|m
  ·subst m;exact i
  ·exact j y m
theorem zGz:∀ {o:List Ty}{c:List D},WtL o c→∃ x:Ty.Tup o,RlL o c x∧OkL o x
 | [],c,h=>by
  have:=h.toNil
  subst this
  exact ⟨(),rfl,trivial⟩
 | [a],c,h=>by
  obtain ⟨d,l,rfl,g,i⟩:=h.toCons
  have:=i.toNil
  subst this
  obtain ⟨x,f,j⟩:=zI7 g
  exact ⟨x,⟨d,rfl,f⟩,j⟩
 | a::b::us,c,h=>by
  obtain ⟨d,l,rfl,g,i⟩:=h.toCons
  obtain ⟨x,f,j⟩:=zI7 g
  obtain ⟨r,v,t⟩:=zGz i
  exact ⟨(x,r),⟨d,l,rfl,f,v⟩,j,t⟩
end
theorem zJz {e n j f g c}{i:Ty.Tup c→Option Bool}(l:FnOk e n j f ⟨c,[.bool],i⟩) (m:zcM e g=c) (h:∀ x,OkL c x→i x=some true) :
  ∀ b,WtL (zcM e g) b→∃ k d,zgd e k n j d f b=some [.bool true]:=by
 intro b o
 subst m
 obtain ⟨x,p,q⟩:=zGz o
 obtain ⟨rs,h3,a⟩:=l b x true p (h x q)
 obtain ⟨d,rfl,a⟩:=a
 have a:d=.bool true:=a
 grind [zin]
theorem zbT {n}(h1:-9223372036854775808≤n) (h2:n≤9223372036854775807):w64 n=n:=by grind [w64,IntKind.wrap,IntKind.signed,IntKind.bits,Nat.reduceSub,Int.reducePow]
theorem zpY {n}(h1:0≤n) (h2:n<4294967296):wu32 n=n:=by grind [wu32,IntKind.wrap,IntKind.signed,IntKind.bits]
theorem zE6 {n}(h1:0≤n) (h2:n<18446744073709551616):wu64 n=n:=by grind [wu64,IntKind.wrap,IntKind.signed,IntKind.bits]
theorem zsU {n b}(h1:n * b≤17592186044416) (h2:n≤17592186044416):zcm n b=true:=by grind [zcm]
theorem zsE {a}(l:List a) (i:Nat):getO l (i:Int)=l[i]?:=by rfl
theorem zBQ {a l i}{v:a}(h0:0≤i) (h:i<l.length):setO l i v=some (l.set i.toNat v):=by grind [setO]
theorem zxZ {n i}(h0:0≤i) (h:i<n):idxO n i=some i:=by grind [idxO]
theorem zIH {c}{l:List c}{a b:Int}(h0:0≤a) (h1:a≤b) (h2:b≤l.length):subO l a b=some ((l.take b.toNat).drop a.toNat):=by grind [subO]
theorem zGl {a b}{s x:List a}(h:zcm (s.length + x.length) b=true):appO b s x=some (s++x):=by grind [appO]
theorem zyu {a b}{s:List a}(h:zcm s.length b=true):zaS b s=some s:=by grind [zaS]
theorem zIZ {a}{z:a}{b n c}(h0:0≤n) (h1:n≤c) (h:zcm c.toNat b=true):repO z b n c=some (List.replicate n.toNat z):=by grind [repO]
theorem zg8 {S R}{f:S→Option (S⊕R)}{s a}(h:f s=some (.inl a)):zaQ f s=zaQ f a:=by rw [zDm,h]
theorem zhJ {S R f}{s:S}{r:R}(h:f s=some (.inr r)):zaQ f s=some r:=by rw [zDm,h]
theorem zf4 {S R f}(I:S→Prop) (μ:S→Nat) (Q:R→Prop)
  (step:∀ s,I s→(∃ a,f s=some (.inl a)∧I a∧μ a<μ s)∨∃ r,f s=some (.inr r)∧Q r):∀ {s},I s→∃ r,zaQ f s=some r∧Q r:=by
 have b:∀ n s,μ s≤n→I s→∃ r,zaQ f s=some r∧Q r:=by
  intro n
  induction n with
  | zero =>
   grind [zhJ]
  | succ n ih =>
   grind [zg8,zhJ]
 intro s c
 exact b _ s (wG0 _) c
theorem zxP {S R}{f:S→Option (S⊕R)}(a:Nat→S) {m}:∀ {n},n≤m→(∀ i,n≤i→i<m→f (a i)=some (.inl (a (i + 1))))→zaQ f (a n)=zaQ f (a m):=by
 have main:∀ k n,m - n=k→n≤m→(∀ i,n≤i→i<m→f (a i)=some (.inl (a (i + 1))))→zaQ f (a n)=zaQ f (a m):=by
  intro k
  induction k with
  | zero =>
   grind
  | succ k ih =>
   intro n h1 h2 h
   rw [zg8 (h n (wG0 _) (by omega))]
   grind
 grind
theorem zsq (p:Nat→Bool):∀ n:Nat,(∀ i,i<n→p i=true)∨∃ i,i<n∧p i=false∧∀ j,j<i→p j=true
 | 0=>by simp
 | n + 1=>by
  rcases zsq p n with h|⟨i,h1,h2,h3⟩
  all_goals grind
end Go.SX
