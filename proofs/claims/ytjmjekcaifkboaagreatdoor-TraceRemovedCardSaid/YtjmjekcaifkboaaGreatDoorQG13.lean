/- The texts AbsV5, AbsR, AbsR2, AbsR3, AbsR4, AbsR5. -/
import Derived.Test.YtjmjekcaifkboaaGreatDoorQG12
import Derived.Laws.Externs
set_option linter.all false
namespace Go.Abs
section
variable {C:Ctx} {f:FuncId} {fn:Func}
end
def D2Y(P:Program)(t:TypeId):AV->Option AV
 |.cptr cs=>A0p P t cs
 |_=>none
@[simp] def D8z{P}{t:TypeId}{cs}:D2Y P t (.cptr cs)=A0p P t cs:=(rfl)
def E1H(imm:Bool)(x:AV):Option AV:=if imm&&x.storable then some (.cptr x.cells)else none
def B4H(u:Option TypeDesc)(x i:AV):Option AV:=match u,x,i with
 |some .string,.val (.string s),.val (.int _ i)=>if 0<=i/\i<s.size then some (.val (.int .u8 (s.data.getD i.toNat 0).toNat))else none
 |_,_,_=>none
def A2t(s:ByteArray)(i:Nat):Int:=(s.data.getD i 0).toNat
@[simp] def D9H{s}{k}{i}:B4H (some .string) (.val (.string s)) (.val (.int k i))=if 0<=i/\i<s.size then some (.val (.int .u8 (A2t s i.toNat)))else none:=(rfl)
def C2u(P:Program)(f:Option (Nat×TypeId))(x:AV):Option AV:=match f,x with
 |some (k,ft),.agg cs=>if(A1n P ft).any (λn=>decide (k+n<=cs.length))then A0p P ft (cs.drop k)else none
 |_,_=>none
@[simp] def D8s{P}{k}{ft:TypeId}{cs}:C2u P (some (k,ft)) (.agg cs)=if(A1n P ft).any (λn=>decide (k+n<=cs.length))=true then A0p P ft (cs.drop k)else none:=(rfl)
def D2M:AV->Option AV
 |.val (.int k n)=>some (.val (.int k (k.wrap (0-n))))
 |_=>none
@[simp] def E0O{k}{n}:D2M (.val (.int k n))=some (.val (.int k (k.wrap (0-n)))):=(rfl)
def pOp(C:Ctx)(h:A2r)(o:Oper)(ρ:Operand->AV):Option AV:=match o.op with
 |.move x=>some (ρ x)
 |.assign x=>some (ρ x)
 |.pick c a b=>B7e (ρ c) (ρ a) (ρ b)
 |.nilCheck x=>B6C (ρ x)
 |.binOp op t x y _=>A1K C.P op t (ρ x) (ρ y)
 |.unOp .not _ x=>C5M (ρ x)
 |.unOp .neg _ x=>D2M (ρ x)
 |.fieldAddr t x f=>B0y (A1H C.P t f) (ρ x)
 |.field t x f=>C2u C.P (A0U C.P t f) (ρ x)
 |.extract x i=>A9M (ρ x) i
 |.indexAddr t x i=>A6j ((A1b C.P t).map (A1n C.P)) (ρ x) (ρ i)
 |.index t x i=>B4H (C.P.underlying t) (ρ x) (ρ i)
 |.makeFunc fn f c=>some (.func fn (f.toList.map ρ) (c.toList.map ρ))
 |.slice t x lo hi mx=>A1Q C.P t (ρ x) (lo.map ρ) (hi.map ρ) (mx.map ρ)
 |.build t ps=>A0A C.P t (ps.toList.map λp=>(p.1,ρ p.2))
 |.buildSlice t n ps=>if B6E C h t o.dst then none else A0x C.P t n (ps.toList.map λp=>(p.1,ρ p.2))
 |.load t x=>D2Y C.P t (ρ x)
 |.box _ x=>E1H (A2e h.imm o.dst) (ρ x)
 |.convert a b x=>A5X C.P a b (ρ x)
 |.call {callee:=.builtin .len,args,argTypes}=>match args.toList,argTypes.toList with
  |[x],[t]=>(A3k C.P t (ρ x)).map λ(n:Nat)=>AV.val (.int .i64 n)
  |_,_=>none
 |.call {callee:=.builtin .max,args,argTypes}=>match args.toList with
  |[x,y]=>A7J true (ρ x) (ρ y)
  |_=>none
 |.call {callee:=.builtin .min,args,argTypes}=>match args.toList with
  |[x,y]=>A7J false (ρ x) (ρ y)
  |_=>none
 |_=>none
def A7y{C}{h}{o}{ρ:Operand->AV}{v}(hp:pOp C h o ρ=some v):A0J C h o ρ=some v:=by
 obtain⟨d,op,t,p,af,g⟩:=o;cases op<;>first|exact hp|(simp[pOp]at hp;done)|skip
 case unOp op t x=>cases op<;>first|exact hp|(simp[pOp]at hp;done)
 case indexAddr t x i=>
  have e:A0J C h ⟨d,.indexAddr t x i,t,p,af,g⟩ ρ=A6j ((A1b C.P t).map (A1n C.P)) (ρ x) (ρ i):=by
   simp only[A0J,A6j];cases A1b C.P t with
   |none=>rfl
   |some e=>cases ρ x<;>first|rfl|(cases ρ i<;>first|rfl|(rename_i v;cases v<;>rfl))
  exact e.trans hp
 case call c=>
  obtain⟨callee,args,ts⟩:=c;cases callee with
  |builtin b=>
   cases b<;>first|(simp[pOp]at hp;done)|skip
   (case len=>simp only[pOp]at hp;simp only[A0J];split at hp;(case h_2=>simp at hp);rename_i x t' ha ht;(have a:ts=#[t']:=by apply Z1O;simpa using ht);subst a;rw[ha];exact hp);case max=>simp only[pOp]at hp;simp only[A0J];split at hp;(case h_2=>simp at hp);rename_i x y ha;rw[ha];exact hp
   case min=>simp only[pOp]at hp;simp only[A0J];split at hp;(case h_2=>simp at hp);rename_i x y ha;rw[ha];exact hp
  |_=>simp[pOp]at hp
def mOp(C:Ctx)(h:A2r)(o:Oper)(ρ:Operand->AV)(M:Mem):Option (AV×Mem):=match o.op with
 |.load t x=>(A0E C.P t M (ρ x)).map λv=>(v,M)
 |.store t a x=>(A0k (A1n C.P t) M (ρ a) (ρ x)).map λM'=>(.val undef,M')
 |.alloc e=>A0j C.P e M
 |.box e x=>C0P (A2e h.imm o.dst) e M (ρ x)
 |.makeMap _ none=>some (.mapr M.length,M++[.map [] 0])
 |.lookup t m k ok=>(A1Y C.P t M (ρ m) (ρ k) ok).map λv=>(v,M)
 |.mapUpdate t m k x=>(A2b C.P t M (ρ m) (ρ k) (ρ x)).map λM'=>(.val undef,M')
 |.insert t m k x=>(A2b C.P t M (ρ m) (ρ k) (ρ x)).map λM'=>(.val undef,M')
 |.makeSlice t l c=>A5l C.P t (ρ l) (ρ c) M
 |.buildSlice t n ps=>if B6E C h t o.dst=true then A1C C.P t n (ps.toList.map λp=>(p.1,ρ p.2)) M else(A0x C.P t n (ps.toList.map λp=>(p.1,ρ p.2))).map λv=>(v,M)
 |.range t x=>B0c C.P t (ρ x) M
 |.next x true=>A9b (ρ x) M
 |.call {callee:=.builtin .len,args,argTypes}=>match args.toList,argTypes.toList with
  |[x],[t]=>((A3k C.P t (ρ x)).or (A4N C.P t M (ρ x))).map λ(n:Nat)=>(AV.val (.int .i64 n),M)
  |_,_=>none
 |.call {callee:=.builtin .copy,args,argTypes}=>match args.toList,argTypes.toList with
  |[x,y],[t,u]=>A9k C.P t u M (ρ x) (ρ y)
  |_,_=>none
 |.convert a b x=>match A5X C.P a b (ρ x)with
  |some v=>some (v,M)
  |none=>A0W C h o ρ M
 |.build t ps=>match A0A C.P t (ps.toList.map λp=>(p.1,ρ p.2))with
  |some v=>some (v,M)
  |none=>A0W C h o ρ M
 |.indexAddr t x i=>match A6j ((A1b C.P t).map (A1n C.P)) (ρ x) (ρ i)with
  |some v=>some (v,M)
  |none=>A0W C h o ρ M
 |.slice t x lo hi mx=>match A1Q C.P t (ρ x) (lo.map ρ) (hi.map ρ) (mx.map ρ)with
  |some v=>some (v,M)
  |none=>A0W C h o ρ M
 |.call {callee:=.builtin .clear,..}=>A0W C h o ρ M
 |.call {callee:=.builtin .unsafeSliceData,..}=>A0W C h o ρ M
 |.call {callee:=.builtin .unsafeString,..}=>A0W C h o ρ M
 |_=>(pOp C h o ρ).map λv=>(v,M)
def B3L{C:Ctx}{h:A2r}{o:Oper}{ρ:Operand->AV}{M M':Mem}{v:AV}(hm:mOp C h o ρ M=some (v,M')):A0W C h o ρ M=some (v,M'):=by
 have f:(pOp C h o ρ).map (λv=>(v,M))=some (v,M')->A0W C h o ρ M=some (v,M'):=by intro hp;simp only[Z0l,Z0i]at hp;obtain⟨u,hu,rfl,rfl⟩:=hp;simp only[A0W,A7y hu]
 have vc:B5w o.op=false->A9S C o ρ=false->A4L C h o (λv2 m=>v2=v/\m=M') ρ M->A0W C h o ρ M=some (v,M'):=by
  intro h1 h2 h3;obtain⟨d,op,t,p,af,g⟩:=o;rw[A3Q h1 h2]at h3;cases he:A0W C h ⟨d,op,t,p,af,g⟩ ρ M with
  |none=>rw[he]at h3;exact h3.elim
  |some r=>rw[he]at h3;obtain⟨a,b⟩:=r;simp only[C3u]at h3;rw[h3.1,h3.2]
 obtain⟨d,op,t,p,af,g⟩:=o;cases op<;>first|exact f hm|skip
 case load lt x=>refine vc rfl rfl ?_;rw[C0L];simp only[mOp,Z0l,Z0i]at hm;obtain⟨u,hu,rfl,rfl⟩:=hm;rw[hu];exact⟨rfl,rfl⟩
 case store lt x y=>refine vc rfl rfl ?_;rw[C8b];simp only[mOp,Z0l,Z0i]at hm;obtain⟨u,hu,rfl,rfl⟩:=hm;rw[hu];exact⟨rfl,rfl⟩
 case alloc e=>refine vc rfl rfl ?_;rw[C7A];simp only[mOp]at hm;rw[hm];exact⟨rfl,rfl⟩
 case box e x=>refine vc rfl rfl ?_;rw[D4O];simp only[mOp]at hm;rw[hm];exact⟨rfl,rfl⟩
 case makeMap mt r=>
  cases r with
  |some r=>exact f hm
  |none=>refine vc rfl rfl ?_;rw[C2V];simp only[mOp,Z0b,Z0i]at hm;exact hm
 case lookup mt m k ok=>refine vc rfl rfl ?_;rw[B6e];simp only[mOp,Z0l,Z0i]at hm;obtain⟨u,hu,rfl,rfl⟩:=hm;rw[hu];exact⟨rfl,rfl⟩
 case mapUpdate mt m k x=>refine vc rfl rfl ?_;rw[B7C];simp only[mOp,Z0l,Z0i]at hm;obtain⟨u,hu,rfl,rfl⟩:=hm;rw[hu];exact⟨rfl,rfl⟩
 case insert mt m k x=>refine vc rfl rfl ?_;rw[C3r];simp only[mOp,Z0l,Z0i]at hm;obtain⟨u,hu,rfl,rfl⟩:=hm;rw[hu];exact⟨rfl,rfl⟩
 case makeSlice st l c=>refine vc rfl rfl ?_;rw[B9E];simp only[mOp]at hm;rw[hm];exact⟨rfl,rfl⟩
 case buildSlice bt n ps=>
  obtain⟨ps⟩:=ps;refine vc rfl rfl ?_;have e:=@B6M C h M (λv2 m=>v2=v/\m=M') ρ d t p af g bt n ps;rw[e];simp only[mOp]at hm;split
  .rename_i hv;rw[Z0c hv]at hm;rw[hm];exact⟨rfl,rfl⟩
  .rename_i hv;rw[Z0d hv]at hm;simp only[Z0l,Z0i]at hm;obtain⟨u,hu,rfl,rfl⟩:=hm;rw[hu];exact⟨rfl,rfl⟩
 case build bt ps=>
  simp only[mOp]at hm;split at hm
  .rename_i u hu;simp only[Z0b,Z0i]at hm;obtain⟨rfl,rfl⟩:=hm;have:A0J C h ⟨d,.build bt ps,t,p,af,g⟩ ρ=some u:=A7y (by simpa only[pOp]using hu);simp only[A0W,this]
  .exact hm
 case indexAddr it x i=>
  simp only[mOp]at hm;split at hm
  .rename_i u hu;simp only[Z0b,Z0i]at hm;obtain⟨rfl,rfl⟩:=hm;have:A0J C h ⟨d,.indexAddr it x i,t,p,af,g⟩ ρ=some u:=A7y (by simpa only[pOp]using hu);simp only[A0W,this]
  .exact hm
 case slice st x lo hi mx=>
  simp only[mOp]at hm;split at hm
  .rename_i u hu;simp only[Z0b,Z0i]at hm;obtain⟨rfl,rfl⟩:=hm;have:A0J C h ⟨d,.slice st x lo hi mx,t,p,af,g⟩ ρ=some u:=A7y (by simpa only[pOp]using hu);simp only[A0W,this]
  .exact hm
 case convert a b x=>
  simp only[mOp]at hm;split at hm
  .rename_i u hu;simp only[Z0b,Z0i]at hm;obtain⟨rfl,rfl⟩:=hm;have:A0J C h ⟨d,.convert a b x,t,p,af,g⟩ ρ=some u:=hu;simp only[A0W,this]
  .exact hm
 case range rt x=>simp only[mOp]at hm;exact hm
 case next x b=>
  cases b with
  |false=>exact f hm
  |true=>simp only[mOp]at hm;exact hm
 case call c=>
  obtain⟨callee,args,ts⟩:=c;cases callee with
  |builtin b=>
   cases b<;>first|exact f hm|exact hm|skip
   case len=>
    simp only[mOp]at hm;split at hm;(case h_2=>simp at hm);rename_i x t' ha ht;(have j:args=#[x]:=by apply Z1O;simpa using ha);(have q:ts=#[t']:=by apply Z1O;simpa using ht);subst j;subst q;simp only[Z0l,Z0i]at hm;obtain⟨n,hn,rfl,rfl⟩:=hm;simp only[A0W,A0J,A8C,Z0x,Z1N];cases hl:A3k C.P t' (ρ x)with
    |none=>rw[hl]at hn;simp only[Z3w]at hn;simp[hl,hn,A1V,A1X,A5g,goInt]
    |some n'=>rw[hl]at hn;simp only[Z4G,Z0b]at hn;subst hn;simp[hl,goInt]
   case copy=>simp only[mOp]at hm;split at hm;(case h_2=>simp at hm);rename_i x y t' u ha ht;(have j:args=#[x,y]:=by apply Z1O;simpa using ha);(have q:ts=#[t',u]:=by apply Z1O;simpa using ht);subst j;subst q;simp only[A0W,A0J,A8C,Z0x,Z1N];simp[A1V,A1X,A5g,hm]
  |_=>exact f hm
def B3I(P:Program)(op:BinOp)(t:TypeId)(b o b2 o2:Nat):Option Bool:=match P.underlying t with
 |some (.pointer e)=>match A1n P e with
  |some n=>if n=0 then none else if b=b2 then match op with
   |.eql=>some (o==o2)
   |.neq=>some (!(o==o2))
   |_=>none
   else none
  |none=>none
 |_=>none
def C6c(P:Program)(op:BinOp)(t:TypeId)(x y:AV)(f:AV->Prop):Prop:=match x,y with
 |.ptr b o,.ptr b2 o2=>A0T ((B3I P op t b o b2 o2).map λb=>.val (.bool b)) f
 |_,_=>B4g P op t x y f
def D4x{P}{op}{t:TypeId}{b o b2 o2}:A1K P op t (.ptr b o) (.ptr b2 o2)=none:=by
 have h0:A3v P op t (.ptr b o) (.ptr b2 o2)=none:=by simp[A3v,A3b]
 simp only[A1K,h0,A4B]
def C0m{P}{t:TypeId}{cx}{b o b2 o2}:B1R P t cx (.ptr b o) (.ptr b2 o2)=B3I P .eql t b o b2 o2:=by
 unfold B1R B3I;cases P.underlying t with
 |none=>rfl
 |some u=>cases u<;>rfl
def D5n{P}{op}{t:TypeId}{x y}{f:AV->Prop}(h:C6c P op t x y f):(∃b o b2 o2,x=.ptr b o/\y=.ptr b2 o2/\A0T ((B3I P op t b o b2 o2).map λb=>.val (.bool b)) f)\/B4g P op t x y f:=by
 unfold C6c at h;split at h
 .exact .inl ⟨_,_,_,_,rfl,rfl,h⟩
 .exact .inr h
def C7D(C:Ctx)(h:A2r)(o:Oper)(K:AV->Mem->Prop)(ρ:Operand->AV)(M:Mem):Prop:=match o.op with
 |.binOp op t x y _=>C6c C.P op t (ρ x) (ρ y) (λv=>K v M)
 |.call {callee:=.value f,args,..}=>D2G C (ρ f) (args.toList.map ρ) M K
 |.call {callee:=.builtin .append,args,argTypes}=>match args.toList,argTypes.toList with
  |[s,x],[t,u]=>B3E C (A2e h.own o.dst) (A2e h.vec o.dst) t u (ρ s) (ρ x) M K
  |_,_=>False
 |_=>A0T (mOp C h o ρ M) (λr=>K r.1 r.2)
def C8y{C}{h}{o}{K:AV->Mem->Prop}{ρ:Operand->AV}{M}(hw:C7D C h o K ρ M):A4L C h o K ρ M:=by
 have i:(∀f args ts,o.op≠.call {callee:=.value f,args:=args,argTypes:=ts})->(∀args ts,o.op≠.call {callee:=.builtin .append,args:=args,argTypes:=ts})->A0T (mOp C h o ρ M) (λr=>K r.1 r.2)->A4L C h o K ρ M:=by
  intro h1 h2 hs;cases hm:mOp C h o ρ M with
  |none=>rw[hm]at hs;exact hs.elim
  |some r=>
   obtain⟨v,M'⟩:=r;rw[hm]at hs;have he:=B3L hm;unfold A4L;split
   .rename_i heq;exact absurd heq (by intro e;exact h1 _ _ _ e)
   .rename_i heq;exact absurd heq (by intro e;exact h2 _ _ e)
   .rw[he];exact hs
 obtain⟨d,op,t,p,af,g⟩:=o;unfold C7D at hw;simp only at hw;split at hw
 .rename_i bop bt x y yt;rw[C7F];rcases D5n hw with⟨b,o,b2,o2,hx,hy,hw⟩|hw
  .unfold C9v;have en:A1K C.P bop bt (.ptr b o) (.ptr b2 o2)=none:=D4x;(have e1:A1c C ⟨d,.binOp bop bt x y yt,t,p,af,g⟩ ρ=(B3I C.P bop bt b o b2 o2).map λb=>.val (.bool b):=by cases bop;(case eql=>show(B1R C.P bt (B1Y y) (ρ x) (ρ y)).map _=_;rw[hx,hy,C0m]);(case neq=>show(B1R C.P bt (B1Y y) (ρ x) (ρ y)).map _=_;rw[hx,hy,C0m];unfold B3I;split<;>(try split)<;>(try split)<;>(try split)<;>rfl);all_goals (unfold B3I;split<;>(try split)<;>(try split)<;>(try split)<;>rfl));rw[hx,hy,en,e1];simp only[Z3w];cases hp:B3I C.P bop bt b o b2 o2 with
   |none=>rw[hp]at hw;exact hw.elim
   |some r=>rw[hp]at hw;exact hw
  unfold B4g at hw;unfold C9v;cases hb:A1K C.P bop bt (ρ x) (ρ y)with
  |some v=>rw[hb]at hw;exact hw
  |none=>
   rw[hb]at hw;simp only[Z3w];cases he:A1c C ⟨d,.binOp bop bt x y yt,t,p,af,g⟩ ρ with
   |none=>exact hw
   |some v=>
    (have:∃b,v=.val (.bool b):=by cases bop<;>first|(simp[A1c]at he;done)|(simp only[A1c,Z0l]at he;obtain⟨b,_,rfl⟩:=he;exact⟨_,rfl⟩));obtain⟨b,rfl⟩:=this
    exact hw.2 b
 .rename_i f args ts;exact hw
 .rename_i args ts;split at hw;case h_2=>exact hw.elim
  rename_i s x t' u ha ht;have a:args=#[s,x]:=by apply Z1O;simpa using ha
  have c:ts=#[t',u]:=by apply Z1O;simpa using ht
  subst a;subst c;rw[C5q];exact hw
 .rename_i hne0 hne1 hne2;exact i hne1 hne2 hw
def B3X(C:Ctx)(h:A2r)(ops:Array Oper):List Oper->(Env->Mem->Prop)->Env->Mem->Prop
 |[],K,T,M=>K T M
 |o::rest,K,T,M=>A2A ops o T (C7D C h o (λv M'=>B3X C h ops rest K (T.put o.dst v) M') (T.ev C) M) (B3X C h ops rest K (T.put o.dst (.val undef)) M)
def B1x{C}{h}{ops}{K:Env->Mem->Prop}:∀(l:List Oper) (T:Env) (M:Mem),B3X C h ops l K T M->B5P C h ops l K T M
 |[],T,M,hw=>hw
 |o::rest,T,M,hw=>by simp only[B3X]at hw;simp only[B5P];exact A6A (λh1=>D1Z (λv m h2=>B1x rest _ _ h2) (C8y h1)) (λh1=>B1x rest _ _ h1) hw
def A5p(C:Ctx)(h:A2r)(N:Nat):Code->(Exit->Env->Mem->Prop)->Env->Mem->Prop
 |.skip,Q,T,M=>Q .normal T M
 |.label _,Q,T,M=>Q .normal T M
 |.region id ops draw,Q,T,M=>if draw=true then AWp C N (.region id ops true) Q T M else B3X C h ops ops.toList (λT M=>Q .normal T M) T M
 |.seq x y,Q,T,M=>A5p C h N x (C4r (A5p C h N y Q) Q) T M
 |.cond c x y,Q,T,M=>C8B (T.ev C c) (A5p C h N x Q T M) (A5p C h N y Q T M)
 |.block id c,Q,T,M=>A5p C h N c (A9y id Q) T M
 |.exit id,Q,T,M=>Q (.exit id) T M
 |.ret,Q,T,M=>Q .ret T M
 |c,Q,T,M=>AWp C N c Q T M
def A4v{C}{h}{N}:∀(c:Code) (Q:Exit->Env->Mem->Prop) (T:Env) (M:Mem),A2V N c=true->A5p C h N c Q T M->AWp C N c Q T M
 |.skip,Q,T,M,_,hv=>D3O hv
 |.label _,Q,T,M,_,hv=>D1k hv
 |.region id ops draw,Q,T,M,hin,hv=>by
  simp only[A5p]at hv;cases draw with
  |true=>simpa using hv
  |false=>exact C7X (by simpa[A2V]using hin) (B1x _ _ _ ZBQ)
 |.seq x y,Q,T,M,hin,hv=>by
  simp only[A2V,Z0h]at hin;simp only[A5p]at hv;refine D6z ((A4v x _ T M hin.1 hv).mono ?_);intro e T' M' hq;cases e with
  |normal=>exact A4v y Q T' M' hin.2 hq
  |_=>exact hq
 |.cond c x y,Q,T,M,hin,hv=>by
  simp only[A2V,Z0h]at hin;simp only[A5p,C8B]at hv;split at hv
  .rename_i b hb;refine D4j hin.1.1 hb (λe=>?_) (λe=>?_)
   .rw[Z0c e]at hv;exact A4v x Q T M hin.1.2 hv
   .rw[Z0d (by simp[e])]at hv;exact A4v y Q T M hin.2 hv
  .exact hv.elim
 |.block id c,Q,T,M,hin,hv=>D1V (A4v c _ T M (by simpa[A2V]using hin) hv)
 |.exit id,Q,T,M,_,hv=>D4m hv
 |.ret,Q,T,M,_,hv=>D6m hv
 |.loop c,Q,T,M,_,hv=>hv
 |.rangeFunc _ _ _ _,Q,T,M,_,hv=>hv
 |.scope _,Q,T,M,_,hv=>hv
 |.goto _,Q,T,M,_,hv=>hv
 |.refuse _,Q,T,M,_,hv=>hv
def D3v(C:Ctx)(f:AV)(args:List AV)(M:Mem)(K:AV->Mem->Prop):Prop:=match f with
 |.func (.func g) first captured=>∃r,(∀M,A2Z C g (first++args++captured) M (λv M'=>v=r/\M'=M))/\K r M
 |_=>False
def D2s(C:Ctx)(f:AV)(args:List AV)(M:Mem)(K:AV->Mem->Prop):Prop:=match f with
 |.func (.func g) first captured=>∃r M1,A2Z C g (first++args++captured) M (λv M'=>v=r/\M'=M1)/\K r M1
 |_=>False
def D3g(P:Program)(n:Nat)(e:TypeId)(x i:AV):Option AV:=match x,i with
 |.agg cs,.val (.int _ i)=>match A1n P e with
  |some sz=>if 0<=i/\i<n/\i.toNat*sz+sz<=cs.length then A0p P e (cs.drop (i.toNat*sz))else none
  |none=>none
 |_,_=>none
def B7J(P:Program)(u:Option TypeDesc)(x i:AV):Option AV:=match u with
 |some (.array n e)=>D3g P n e x i
 |u=>B4H u x i
@[simp] def E1q{P:Program}{x i:AV}:B7J P (some .string) x i=B4H (some .string) x i:=(rfl)
def D0k{C:Ctx}{h:A2r}{d:Option Tmp}{xt t:TypeId}{x i:Operand}{p:String}{af:Array Edge}{g:Option (Nat×Bool)}{ρ:Operand->AV}{v:AV}(hv:B7J C.P (C.P.underlying xt) (ρ x) (ρ i)=some v):(A0J C h ⟨d,.index xt x i,t,p,af,g⟩ ρ).or (A1c C ⟨d,.index xt x i,t,p,af,g⟩ ρ)=some v:=by
 unfold B7J at hv;split at hv
 .rename_i n e hu;have e1:A0J C h ⟨d,.index xt x i,t,p,af,g⟩ ρ=none:=by simp[A0J,hu]
  rw[e1,Z3w];simp only[A1c,C2e,hu];unfold D3g at hv;cases hx:ρ x<;>rw[hx]at hv<;>first|(simp at hv;done)|skip
  cases hi:ρ i<;>rw[hi]at hv<;>first|(simp at hv;done)|skip
  rename_i q;cases q<;>first|(simp at hv;done)|exact hv
 .have e1:A0J C h ⟨d,.index xt x i,t,p,af,g⟩ ρ=some v:=A7y (by simpa only[pOp]using hv);rw[e1];rfl
def wsD(C:Ctx)(h:A2r)(cls rob:Nat)(o:Oper)(ρ:Operand->AV)(M:Mem)(K:AV->Mem->Prop):Prop:=match cls with
 |0=>match o.op with
  |.call {callee:=.value f,args,..}=>D3v C (ρ f) (args.toList.map ρ) M K
  |.call {callee:=.builtin .append,..}=>False
  |.alloc _=>False
  |.index t x i=>A0T (B7J C.P (C.P.underlying t) (ρ x) (ρ i)) (λv=>K v M)
  |_=>A0T (pOp C h o ρ) (λv=>K v M)
 |1=>match o.op with
  |.load t x=>A1e o ρ=some rob/\A0T (A0E C.P t M (ρ x)) (λv=>K v M)
  |.lookup t m k ok=>A1e o ρ=some rob/\A0T (A1Y C.P t M (ρ m) (ρ k) ok) (λv=>K v M)
  |_=>False
 |2=>match o.op with
  |.call {callee:=.value f,args,..}=>D2s C (ρ f) (args.toList.map ρ) M K
  |.call {callee:=.builtin .append,args,argTypes}=>match args.toList,argTypes.toList with
   |[s,x],[t,u]=>B3E C (A2e h.own o.dst) (A2e h.vec o.dst) t u (ρ s) (ρ x) M K
   |_,_=>False
  |_=>A0T (mOp C h o ρ M) (λr=>K r.1 r.2)
 |_=>False
def B6p{f:Mem->Option (AV×Mem)}{M}{K:AV->Mem->Prop}(h:A0T (f M) (λr=>K r.1 r.2)):A7v false f M K:=by
 unfold A7v;cases hf:f M with
 |none=>rw[hf]at h;exact h.elim
 |some r=>rw[hf]at h;exact⟨λe=>by simp at e,h⟩
def B4E{C:Ctx}{h:A2r}{cls rob:Nat}{o:Oper}{ρ:Operand->AV}{M:Mem}{K:AV->Mem->Prop}(hw:wsD C h cls rob o ρ M K):dOp C h false cls rob 0 o ρ M K:=by
 have a:∀c,(∀f args ts,o.op≠.call {callee:=.value f,args:=args,argTypes:=ts})->(∀args ts,o.op≠.call {callee:=.builtin .append,args:=args,argTypes:=ts})->(∀e,o.op≠.alloc e)->
  (if c=0 then A0T ((A0J C h o ρ).or (A1c C o ρ)) (λv=>K v M)else if c=1 then A1e o ρ=some rob/\A0T (A3U C o ρ M) (λv=>K v M)else if c=5 then A4q o ρ=some 0/\A0T (A0W C h o ρ M) (λr=>K r.1 r.2)else c=2/\A7v false (A0W C h o ρ) M K)->dOp C h false c rob 0 o ρ M K:=by
  intro c h1 h2 h3 hp
  unfold dOp
  split
  .rename_i heq;exact absurd heq (by intro e;exact h1 _ _ _ e)
  .rename_i heq;exact absurd heq (by intro e;exact h2 _ _ e)
  .rename_i heq;exact absurd heq (by intro e;exact h3 _ e)
  .exact hp
 unfold wsD at hw;split at hw
 .split at hw
  .rename_i f args ts hop;obtain⟨d,op,t,p,af,g⟩:=o;simp only at hop;subst hop;simp only[dOp];unfold D3v at hw;split at hw
   ·(rename_i g' first captured hf);simp only[hf,Z1e]
    exact hw
   .exact hw.elim
  .exact hw.elim
  .exact hw.elim
  .rename_i xt x i hop;refine a 0 ZDM ZDM ZDM ?_;rw[Z0c rfl];obtain⟨d,op,t,p,af,g⟩:=o;simp only at hop;subst hop;cases hv:B7J C.P (C.P.underlying xt) (ρ x) (ρ i)with
   |none=>rw[hv]at hw;exact hw.elim
   |some v=>rw[hv]at hw;rw[D0k hv];exact hw
  .rename_i h1 h2 h3 h4;refine a 0 (λf args ts e=>h1 _ _ _ e) (λargs ts e=>h2 _ _ e) (λe he=>h3 _ he) ?_;rw[Z0c rfl];cases hp:pOp C h o ρ with
   |none=>rw[hp]at hw;exact hw.elim
   |some v=>rw[hp]at hw;rw[A7y hp];exact hw
 .split at hw
  .rename_i lt x hop;refine a 1 ZDM ZDM ZDM ?_;rw[Z0d Q0,Z0c rfl];refine⟨hw.1,?_⟩;simp only[A3U,hop];exact hw.2
  .rename_i lt m k ok hop;refine a 1 ZDM ZDM ZDM ?_;rw[Z0d Q0,Z0c rfl];refine⟨hw.1,?_⟩;simp only[A3U,hop];exact hw.2
  .exact hw.elim
 .split at hw
  .rename_i f args ts hop;obtain⟨d,op,t,p,af,g⟩:=o;simp only at hop;subst hop;simp only[dOp];unfold D2s at hw;split at hw
   ·(rename_i g' first captured hf);simp only[hf]
    rw[Z0d Q1];obtain⟨r,M1,q1,q2⟩:=hw;exact⟨r,M1,by trivial,q1,λe=>by simp at e,q2⟩
   .exact hw.elim
  .rename_i args ts hop;obtain⟨d,op,t,p,af,g⟩:=o;simp only at hop;subst hop;simp only[dOp];split at hw;(case h_2=>exact hw.elim);rename_i s x t' u ha ht;rw[ha,ht];obtain⟨e,sz,bytes,q1,q2⟩:=hw;exact⟨e,sz,bytes,q1,by trivial,B6p q2⟩
  .rename_i h1 h2;have hm:A7v false (A0W C h o ρ) M K:=by
    refine B6p ?_;cases hm:mOp C h o ρ M with
    |none=>rw[hm]at hw;exact hw.elim
    |some r=>rw[hm]at hw;rw[B3L (M':=r.2) (v:=r.1) hm];exact hw
   by_cases ha:∃e,o.op=.alloc e
   .obtain⟨e,he⟩:=ha;obtain⟨d,op,t,p,af,g⟩:=o;simp only at he;subst he;simp only[dOp];rw[Z0d Q1];exact⟨by trivial,hm⟩
   .refine a 2 (λf args ts e=>h1 _ _ _ e) (λargs ts e=>h2 _ _ e) (λe he=>ha ⟨e,he⟩) ?_;rw[Z0d Q0,Z0d Q0];exact⟨rfl,hm⟩
 .exact hw.elim
def B5A(C:Ctx)(h:A2r)(ops:Array Oper)(cls rob:Nat->Nat):Nat->List Oper->Env->Mem->(Env->Mem->Prop)->Prop
 |_,[],T,M,K=>K T M
 |k,o::rest,T,M,K=>A2A ops o T (wsD C h (cls k) (rob k) o (T.ev C) M (λv M'=>B5A C h ops cls rob (k+1) rest (T.put o.dst v) M' K)) (B5A C h ops cls rob (k+1) rest (T.put o.dst (.val undef)) M K)
def A6B(cls rob:Nat->Nat):B2o:={cls:=λk=>if cls k=5 then 3 else cls k,rob:=rob}
def B4Y{C}{h}{c r}{o}{ρ:Operand->AV}{M}{K K':AV->Mem->Prop}(hk:∀v m,K v m->K' v m)(hv:dOp C h false c r 0 o ρ M K):dOp C h false c r 0 o ρ M K':=by
 have on:∀{α:Type} (o:Option α) (f g:α->Prop),(∀a,f a->g a)->A0T o f->A0T o g:=by
  intro α o f g d ho;cases o with
  |none=>exact ho
  |some a=>exact d a ho
 have b:∀(fl:Bool) (f:Mem->Option (AV×Mem)) (M:Mem) (K K':AV->Mem->Prop),(∀v m,K v m->K' v m)->A7v fl f M K->A7v fl f M K':=by
  intro fl f M K K' hk h;unfold A7v at h|-;split at h
  .exact⟨h.1,hk _ _ h.2⟩
  .exact h
 unfold dOp at hv|-;split at hv
 .split at hv
  .split at hv
   .rename_i e;rw[Z0c e];obtain⟨r,q1,q2⟩:=hv;exact⟨r,q1,hk _ _ q2⟩
   .rename_i e;rw[Z0d e];obtain⟨r,M1,q1,q2,q3,q4⟩:=hv;exact⟨r,M1,q1,q2,q3,hk _ _ q4⟩
  .exact hv.elim
 .split at hv
  .obtain⟨e,sz,bytes,h1,i,h2⟩:=hv;exact⟨e,sz,bytes,h1,i,b _ _ _ _ _ hk h2⟩
  .exact hv.elim
 .split at hv
  .rename_i e;rw[Z0c e];exact⟨hv.1,hv.2.1,on _ _ _ (λa h=>hk _ _ h) hv.2.2⟩
  .rename_i e;rw[Z0d e];exact⟨hv.1,b _ _ _ _ _ hk hv.2⟩
 .split at hv
  .rename_i e;rw[Z0c e];exact on _ _ _ (λa h=>hk _ _ h) hv
  .rename_i e;rw[Z0d e];split at hv
   .rename_i e1;rw[Z0c e1];exact⟨hv.1,on _ _ _ (λa h=>hk _ _ h) hv.2⟩
   .rename_i e1;rw[Z0d e1];split at hv
    .rename_i e2;rw[Z0c e2];exact⟨hv.1,on _ _ _ (λa h=>hk _ _ h) hv.2⟩
    .rename_i e2;rw[Z0d e2];exact⟨hv.1,b _ _ _ _ _ hk hv.2⟩
def B0E{C}{h}{ops}{cls rob:Nat->Nat}{K:Env->Mem->Prop}:∀(l:List Oper) (k:Nat) (T:Env) (M:Mem),B5A C h ops cls rob k l T M K->A1x C h ops (A6B cls rob) k l T M K
 |[],k,T,M,hw=>hw
 |o::rest,k,T,M,hw=>by
  simp only[B5A]at hw;simp only[A1x];exact A6A (λh1=>B4Y (λv m h2=>⟨λi _ ha=>by simp[A6B]at ha,B0E rest _ _ _ h2⟩) (by
   have hd:=B4E h1;by_cases e:cls k=5
   .rw[e]at h1;exact h1.elim
   .simpa only[A6B,Z0d e]using hd)) (λh1=>B0E rest _ _ _ h1) hw
def C6H{C}{N}{h}{id}{ops}{Q:Exit->Env->Mem->Prop}{T}{M}(a:C.P.follows .mixedOrders=true)(cls rob:Nat->Nat)(d:A2F N ops ops.toList=true)(b:A4K ops (A6B cls λ_=>0)=true)
 (hr:B5A C h ops cls rob 0 ops.toList T M (λT M=>Q .normal T M)):AWp C N (.region id ops true) Q T M:=by
 have h4:∀i o,ops[i]?=some o->(A6B cls rob).cls i≠4:=by intro i o ho e;have:=(A5k b ho).2.1 e;simp[A6B]at this
 have h5:∀k,(A6B cls rob).cls k≠5:=by intro k;simp only[A6B];split<;>omega
 have c:A4K ops (A6B cls rob)=true:=by
  have hp:∀i,i<ops.size->A6Q ((A6B cls rob).cls i)=false:=λi hi=>by
   cases e:A6Q ((A6B cls rob).cls i)with
   |false=>rfl
   |true=>
    rcases A9I.1 e with h|h
    .exact absurd h (h4 i _ (Z1g hi))
    .exact absurd h (h5 i)
  have:∀i j,i<ops.size->j<ops.size->A2h (A6B cls rob) j i=A2h (A6B cls λ_=>0) j i:=by intro i j hi hj;have b1:=hp i hi;have b2:=hp j hj;have c1:(A6B cls λ_=>0).cls=(A6B cls rob).cls:=rfl;have c2:(A6B cls λ_=>0).aff=(A6B cls rob).aff:=rfl;simp only[A2h,c1,c2,b1,b2,Z2V,Z0K,Z3k]
  refine Z0D.2 λi hi=>?_;have h0:=Z0D.1 b i hi;have f:=Z2d.1 hi;cases ho:ops[i]? with
  |none=>rfl
  |some o=>
   rw[ho]at h0;simp only[Z0h]at h0|-;refine⟨h0.1,Z0D.2 λj hj=>?_⟩;have h1:=Z0D.1 h0.2 j hj;have g:=Z2d.1 hj;cases hx:ops[j]? with
   |none=>rfl
   |some x=>rw[hx]at h1;simp only at h1|-;rw[this i j f Q0];exact h1
 refine B0W (h:=h) a (A6B cls rob) d c (λk hk hc=>?_) (B0E _ _ _ _ hr)
 exact absurd hc (h4 k _ (Z1g hk))
end Go.Abs
