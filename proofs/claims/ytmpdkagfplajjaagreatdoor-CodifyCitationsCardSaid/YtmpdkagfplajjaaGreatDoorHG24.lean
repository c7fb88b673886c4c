/- A part of the proof. -/
import Derived.Test.YtmpdkagfplajjaaGreatDoorHG17
import Derived.Test.YtmpdkagfplajjaaGreatDoorHG16
import Derived.RangeFuncCalls
import Derived.RangeFuncRecord
import Derived.OrdersIn
import Derived.OwnWalkIn
import Derived.TacticsIn
set_option linter.all false
set_option maxRecDepth 100000
namespace Go.Abs
def A5d(r:Option Nat):Fence:={Fence.wide with round:=r}
def shA(d:List Deferred)(a:Act):Act:={a with defers:=a.defers++d}
def B0W{d:List Deferred}{a:Act}{x:Option Tmp}{v:Value}:(shA d a).put x v=shA d (a.put x v):=by cases x<;>rfl
def C6w{d:List Deferred}{a:Act}:(shA d a).eval=a.eval:=by funext x;cases x<;>rfl
def shN(d:List Deferred)(N:Act->World->Prop):Act->World->Prop:=λa w=>∃a0,a=shA d a0/\N a0 w
def shQ(d:List Deferred)(Q:Exit->Act->World->Prop):Exit->Act->World->Prop:=λe a w=>∃a0,a=shA d a0/\Q e a0 w
section
variable {P:Program} {r:Option Nat} {n:Nat} {d:List Deferred} {Q:Exit->Act->World->Prop} {a:Act} {w:World}
def D6k{f:FuncId}{args:Array Value}{R:Ending->World->Prop}(h:Calls P f args w R):CallsIn (A5d r) n P f args w R:=(callsIn_wide (n:=n)).2 h
def D8R{row:String}{args:Array Value}{R:Value->World->Prop}(h:Rows P row args w R):RowsIn (A5d r) n P row args w R:=λc cs _=>by obtain⟨v,w',h1,h2⟩:=h c cs;exact⟨v,w',h1,stepsIn_wide.2 h2⟩
def D6b{o:Oper}{next:Act->World->Prop}(g:∀c,o.op≠.defer c)(hQ:∀a w,¬Q .outgrown a w)(h:o.wp P a w next Q):o.wpIn (A5d r) n P (shA d a) w (shN d next) (shQ d Q):=by
 unfold Oper.wp at h;refine⟨λ_ _=>trivial,?_⟩;rw[Oper.semAt_plain (A5d r) _ o g,C6w];have hd:(A5d r).depth.isSome=true->1<=n:=λe=>by simp[A5d,Fence.wide]at e
 generalize(execOp a.eval o).run P w=b at*;cases b with
 |ok x w'=>
  cases x with
  |value v=>exact⟨_,B0W,h⟩
  |skip=>exact⟨_,B0W,h⟩
  |defer q=>exact⟨_,B0W (d:=d) (a:={a with defers:=q::a.defers}),h⟩
  |enter f args=>
   refine⟨hd,CallsIn.mono (D6k h) λe w2 he=>?_⟩;cases e with
   |returned v=>exact⟨_,B0W,he⟩
   |panicked ch=>exact⟨_,rfl,he⟩
   |outgrown=>obtain⟨a',w',he⟩:=he;exact absurd he (hQ _ _)
  |row r args=>exact⟨hd,RowsIn.mono (D8R h) λv w2 he=>⟨_,B0W,he⟩⟩
  |_=>exact h.elim
 |halt x w'=>
  cases x<;>simp only[Oper.upon,Oper.uponIn]at h|-<;>first
   |exact h.elim
   |exact⟨_,rfl,h⟩
def C3v{ops:Array Oper}(hQ:∀a w,¬Q .outgrown a w):∀(l:List Oper) (a:Act) (w:World),(∀o:Oper,o∈l->∀c,o.op≠.defer c)->wpList P ops Q l a w->wpListIn (A5d r) n P ops (shQ d Q) l (shA d a) w
 |[],a,w,_,h=>⟨a,rfl,h⟩
 |o::rest,a,w,hnd,h=>by
  simp only[wpList]at h;simp only[wpListIn];have hy:yielded ops (shA d a).tmps=yielded ops a.tmps:=rfl;rw[hy];split at h
  .rename_i hw;rw[Z0e hw];rcases h with h|⟨_,a',w',h⟩
   .refine Oper.wpIn_mono ?_ (D6b (hnd o (by simp)) hQ h);rintro _ w2 ⟨a0,rfl,h2⟩;exact C3v hQ rest a0 w2 (λo ho=>hnd o (by simp[ho])) h2
   .exact absurd h (hQ _ _)
  .rename_i hw;rw[Z0d hw,B0W];exact⟨λ_ _=>trivial,C3v hQ rest _ w (λo ho=>hnd o (by simp[ho])) h⟩
def C3t{ops:Array Oper}(hQ:∀a w,¬Q .outgrown a w)(e:∀(i:Nat) (o:Oper),ops[i]?=some o->∀c,o.op≠.defer c):∀(fuel:Nat) (b:Array Bool) (a:Act) (w:World),wpAny P .any ops Q fuel b a w->wpAnyIn (A5d r) n P .any ops (shQ d Q) fuel b (shA d a) w
 |0,b,a,w,h=>⟨h.1,a,rfl,h.2⟩
 |fuel+1,b,a,w,h=>by
  refine⟨λhr=>⟨a,rfl,h.1 hr⟩,λi hi=>?_⟩;have h2:=h.2 i hi;unfold wpOp at h2;unfold wpOpIn;cases ho:ops[i]? with
  |none=>rw[ho]at h2;exact C3t hQ e fuel _ a w h2
  |some o=>
   rw[ho]at h2;simp only at h2|-;have hy:yielded ops (shA d a).tmps=yielded ops a.tmps:=rfl;rw[hy];split at h2
   .rename_i hw;rw[Z0e hw];rcases h2 with h2|⟨_,a',w',h2⟩
    .refine Oper.wpIn_mono ?_ (D6b (e i o ho) hQ h2);rintro _ w2 ⟨a0,rfl,h3⟩;exact C3t hQ e fuel _ a0 w2 h3
    .exact absurd h2 (hQ _ _)
   .rename_i hw;rw[Z0d hw,B0W];exact⟨λ_ _=>trivial,C3t hQ e fuel _ _ w h2⟩
end
def A9n(r:Option Nat)(d:List Deferred)(C:Ctx)(N:Nat)(c:Code)(Q:Exit->Env->Mem->Prop)(T:Env)(M:Mem):Prop:=∀G w a,Inv C G M w->A1R G N T a->c.wpIn (A5d r) 0 C.P (shQ d (B1E C N Q G w)) (shA d a) w
section
variable {C:Ctx} {r:Option Nat} {d:List Deferred} {N:Nat} {Q:Exit->Env->Mem->Prop} {T:Env} {M:Mem}
def C2n{G:A0o}{w:World}(hQ:∀T M,¬Q .outgrown T M):∀a w',¬B1E C N Q G w .outgrown a w':=by rintro a w' ⟨T',M',_,h,_⟩;exact hQ _ _ h
def B6g(h:Q .normal T M):A9n r d C N .skip Q T M:=λG w a hi he=>wpIn_skip ⟨a,rfl,T,M,G,h,.refl _,hi,he,.refl _⟩
def D1V{id:Nat}(h:Q (.exit id) T M):A9n r d C N (.exit id) Q T M:=λG w a hi he=>wpIn_exit ⟨a,rfl,T,M,G,h,.refl _,hi,he,.refl _⟩
def C6z(h:Q .ret T M):A9n r d C N .ret Q T M:=λG w a hi he=>wpIn_ret ⟨a,rfl,T,M,G,h,.refl _,hi,he,.refl _⟩
def B2v{x y:Code}(h:A9n r d C N x (A7v (A9n r d C N y Q) Q) T M):A9n r d C N (.seq x y) Q T M:=by
 intro G w a hi he;refine Z3E (Z2S (h G w a hi he) ?_);rintro e _ w' ⟨a',rfl,T',M',G',h1,h2,h3,h4,h5⟩;cases e with
 |normal=>refine Z2S (h1 G' w' a' h3 h4) ?_;rintro e2 _ w2 ⟨a2,rfl,l⟩;exact⟨a2,rfl,B1E.mono h2 h5 l⟩
 |_=>exact⟨a',rfl,T',M',G',h1,h2,h3,h4,h5⟩
def B0b{c:Operand}{x y:Code}{b:Bool}(e:Operand.inside N c=true)(hc:T.ev C c=.val (.bool b))(h:if b=true then A9n r d C N x Q T M else A9n r d C N y Q T M):A9n r d C N (.cond c x y) Q T M:=by
 intro G w a hi he;have hr:=C8t hi he c e;rw[hc]at hr;simp only[Rep]at hr;refine wpIn_cond (t:=b) (by rw[C6w];exact hr) ?_;cases b
 .exact h G w a hi he
 .exact h G w a hi he
def C8r{id:Nat}{c:Code}(h:A9n r d C N c (A5l id Q) T M):A9n r d C N (.block id c) Q T M:=by
 intro G w a hi he;refine Z4y (Z2S (h G w a hi he) ?_);rintro e _ w' ⟨a',rfl,T',M',G',h1,h2⟩;cases e with
 |exit id'=>
  simp only[A5l]at h1;simp only[Exit.inBlock];split
  .rename_i e;rw[Z0e e]at h1;exact⟨a',rfl,T',M',G',h1,h2⟩
  .rename_i e;rw[Z0d e]at h1;exact⟨a',rfl,T',M',G',h1,h2⟩
 |_=>exact⟨a',rfl,T',M',G',h1,h2⟩
def B3c(l:List Oper):Bool:=l.all λo=>match o.op with|.defer _=>false|_=>true
def B4m{l:List Oper}(h:B3c l=true):∀o:Oper,o∈l->∀c,o.op≠.defer c:=λo ho c e=>by have:=Z0p.1 h o ho;rw[e]at this;simp at this
def A4O{id:Nat}{l:List Oper}(h:A2u)(hQ:∀T M,¬Q .outgrown T M)(c:B3c l=true)(b:A1P N l.toArray l=true)(hw:C5H C h l.toArray l (λT M=>Q .normal T M) T M ⟨⟩):A9n r d C N (.region id l.toArray false) Q T M:=by intro G w a hi he;refine wpIn_region_list (C3v (C2n hQ) _ _ _ ?_ (A9i l.toArray.toList G w G T M w a (by simpa using b) (A6n _ _ _ hw) (.refl _) (.refl _) hi he));simpa using B4m c
def D3V{h:A2u}{ops:Array Oper}(L:B1D)(d:A1P N ops ops.toList=true)(e:A4e ops L=true)(b:C0m L ops.size M)(hr:A1w C h ops L 0 ops.toList T M (λT M=>Q .normal T M)):
 ∀G w a,Inv C G M w->A1R G N T a->wpAny C.P .any ops (B1E C N Q G w) ops.size (Array.replicate ops.size false) a {w with drawn:=w.drawn+1}:=by
 intro G w a hi he
 obtain⟨ps,h1,h2,h3⟩:=A7X ops.toList 0 T M _ d hr
 have e0:∀j,(Array.replicate ops.size false).getD j false=false:=λj=>by simp[Array.getD]
 have c:(λj=>(Array.replicate ops.size false).getD j false)=λ_=>false:=funext e0
 have f:∀(a:List A5a) (k:Nat) (M:Mem),A4u a k (λ_=>false) M=M:=by
  intro a;induction a with
  |nil=>intro k M;rfl
  |cons p a ih=>intro k M;simp only[A4u,Z0H,Z1i];exact ih _ _
 refine C2i e h1 h2 b (G0:=G) (w0:=w) ?_ ops.size (Array.replicate ops.size false) G _ a (by simp) (by have:=Z1V (λi=>!(Array.replicate ops.size false).getD i true) (List.range ops.size);simpa using this) (λi o _ hs=>by simp only[e0]at hs;exact Bool.noConfusion hs) (.refl _) ⟨rfl,rfl,rfl,Z0n _⟩ ?_ ?_
 .intro G' w' a' q1 q2 q3 q4;exact⟨_,_,G',h3,q1,q3,q4,q2⟩
 .rw[c,f];exact hi.world rfl
 .refine⟨he.defers,he.size,λs hs=>?_⟩;rw[c,A4V _ s ps 0 T (λj p _ h=>by simp at h)];exact he.at_ s hs
def B8z{id:Nat}{l:List Oper}(h:A2u)(b:C.P.follows .mixedOrders=true)(cls:Nat->Nat)(rob:Nat)(hQ:∀T M,¬Q .outgrown T M)(g:B3c l=true)(f:A1P N l.toArray l=true)(c:A4e l.toArray (A5p cls λ_=>rob)=true)
 (hw:C1C C h l.toArray cls (λ_=>rob) 0 l T M (λT M=>Q .normal T M) ⟨⟩):A9n r d C N (.region id l.toArray true) Q T M:=by
 intro G w a hi he
 have h4:∀i o,l.toArray[i]?=some o->(A5p cls λ_=>rob).cls i≠4:=by intro i o ho e;have:=(A4D c ho).2.1 e;simp[A5p]at this
 refine wpIn_region_any b (C3t (C2n hQ) (λi o ho=>B4m g o ?_) _ _ _ _ (D3V (h:=h) (A5p cls λ_=>rob) (by simpa using f) c (λk hk hc=>absurd hc (h4 k _ (Z0Q hk))) (by simpa using A7W _ _ _ _ hw) G w a hi he))
 have:=Z2O (l:=l) (i:=i) (a:=o) (by simpa using ho)
 exact this
end
end Go.Abs
