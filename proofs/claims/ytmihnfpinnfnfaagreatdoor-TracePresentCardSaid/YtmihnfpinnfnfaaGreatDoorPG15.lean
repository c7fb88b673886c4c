/- The texts AbsV5, AbsR, AbsR2, AbsR3, AbsR4, AbsR5. -/
import Derived.Test.YtmihnfpinnfnfaaGreatDoorPG14
import Derived.Laws.Externs
set_option linter.all false
namespace Go.Abs
section
variable {C:Ctx} {f:FuncId} {fn:Func}
end
def D1i(P:Program)(t:TypeId):AV->Option AV
 |.cptr cs=>A0y P t cs
 |_=>none
@[simp] def D6U{P}{t:TypeId}{cs}:D1i P t (.cptr cs)=A0y P t cs:=(rfl)
def E0f(imm:Bool)(x:AV):Option AV:=if imm&&x.storable then some (.cptr x.cells)else none
def B4f(u:Option TypeDesc)(x i:AV):Option AV:=match u,x,i with
 |some .string,.val (.string s),.val (.int _ i)=>if 0<=i/\i<s.size then some (.val (.int .u8 (s.data.getD i.toNat 0).toNat))else none
 |_,_,_=>none
def A2l(s:ByteArray)(i:Nat):Int:=(s.data.getD i 0).toNat
@[simp] def D8g{s}{k}{i}:B4f (some .string) (.val (.string s)) (.val (.int k i))=if 0<=i/\i<s.size then some (.val (.int .u8 (A2l s i.toNat)))else none:=(rfl)
def B3t(P:Program)(f:Option (Nat×TypeId))(x:AV):Option AV:=match f,x with
 |some (k,ft),.agg cs=>if(A1j P ft).any (λn=>decide (k+n<=cs.length))then A0y P ft (cs.drop k)else none
 |_,_=>none
@[simp] def D6L{P}{k}{ft:TypeId}{cs}:B3t P (some (k,ft)) (.agg cs)=if(A1j P ft).any (λn=>decide (k+n<=cs.length))=true then A0y P ft (cs.drop k)else none:=(rfl)
def D0V:AV->Option AV
 |.val (.int k n)=>some (.val (.int k (k.wrap (0-n))))
 |_=>none
@[simp] def D9n{k}{n}:D0V (.val (.int k n))=some (.val (.int k (k.wrap (0-n)))):=(rfl)
def pOp(C:Ctx)(h:A2j)(o:Oper)(ρ:Operand->AV):Option AV:=match o.op with
 |.move x=>some (ρ x)
 |.assign x=>some (ρ x)
 |.pick c a b=>B6w (ρ c) (ρ a) (ρ b)
 |.nilCheck x=>B5S (ρ x)
 |.binOp op t x y _=>A1A C.P op t (ρ x) (ρ y)
 |.unOp .not _ x=>C4x (ρ x)
 |.unOp .neg _ x=>D0V (ρ x)
 |.fieldAddr t x f=>A9Y (A1D C.P t f) (ρ x)
 |.field t x f=>B3t C.P (A0U C.P t f) (ρ x)
 |.extract x i=>A9o (ρ x) i
 |.indexAddr t x i=>A5O ((A1b C.P t).map (A1j C.P)) (ρ x) (ρ i)
 |.index t x i=>B4f (C.P.underlying t) (ρ x) (ρ i)
 |.makeFunc fn f c=>some (.func fn (f.toList.map ρ) (c.toList.map ρ))
 |.slice t x lo hi mx=>A1W C.P t (ρ x) (lo.map ρ) (hi.map ρ) (mx.map ρ)
 |.build t ps=>A0A C.P t (ps.toList.map λp=>(p.1,ρ p.2))
 |.buildSlice t n ps=>if B5V C h t o.dst then none else A0w C.P t n (ps.toList.map λp=>(p.1,ρ p.2))
 |.load t x=>D1i C.P t (ρ x)
 |.box _ x=>E0f (A1X h.imm o.dst) (ρ x)
 |.convert a b x=>A5C C.P a b (ρ x)
 |.call {callee:=.builtin .len,args,argTypes}=>match args.toList,argTypes.toList with
  |[x],[t]=>(A2W C.P t (ρ x)).map λ(n:Nat)=>AV.val (.int .i64 n)
  |_,_=>none
 |.call {callee:=.builtin .max,args,argTypes}=>match args.toList with
  |[x,y]=>A7n true (ρ x) (ρ y)
  |_=>none
 |.call {callee:=.builtin .min,args,argTypes}=>match args.toList with
  |[x,y]=>A7n false (ρ x) (ρ y)
  |_=>none
 |_=>none
def A6Z{C}{h}{o}{ρ:Operand->AV}{v}(hp:pOp C h o ρ=some v):A0I C h o ρ=some v:=by
 obtain⟨d,op,t,p,af,g⟩:=o;cases op<;>first|exact hp|(simp[pOp]at hp;done)|skip
 case unOp op t x=>cases op<;>first|exact hp|(simp[pOp]at hp;done)
 case indexAddr t x i=>
  have e:A0I C h ⟨d,.indexAddr t x i,t,p,af,g⟩ ρ=A5O ((A1b C.P t).map (A1j C.P)) (ρ x) (ρ i):=by
   simp only[A0I,A5O];cases A1b C.P t with
   |none=>rfl
   |some e=>cases ρ x<;>first|rfl|(cases ρ i<;>first|rfl|(rename_i v;cases v<;>rfl))
  exact e.trans hp
 case call c=>
  obtain⟨callee,args,ts⟩:=c;cases callee with
  |builtin b=>
   cases b<;>first|(simp[pOp]at hp;done)|skip
   (case len=>simp only[pOp]at hp;simp only[A0I];split at hp;(case h_2=>simp at hp);rename_i x t' ha ht;(have a:ts=#[t']:=by apply Z1K;simpa using ht);subst a;rw[ha];exact hp);case max=>simp only[pOp]at hp;simp only[A0I];split at hp;(case h_2=>simp at hp);rename_i x y ha;rw[ha];exact hp
   case min=>simp only[pOp]at hp;simp only[A0I];split at hp;(case h_2=>simp at hp);rename_i x y ha;rw[ha];exact hp
  |_=>simp[pOp]at hp
def mOp(C:Ctx)(h:A2j)(o:Oper)(ρ:Operand->AV)(M:Mem):Option (AV×Mem):=match o.op with
 |.load t x=>(A0M C.P t M (ρ x)).map λv=>(v,M)
 |.store t a x=>(A0k (A1j C.P t) M (ρ a) (ρ x)).map λM'=>(.val undef,M')
 |.alloc e=>A0j C.P e M
 |.box e x=>B9X (A1X h.imm o.dst) e M (ρ x)
 |.makeMap _ none=>some (.mapr M.length,M++[.map [] 0])
 |.lookup t m k ok=>(A1S C.P t M (ρ m) (ρ k) ok).map λv=>(v,M)
 |.mapUpdate t m k x=>(A1V C.P t M (ρ m) (ρ k) (ρ x)).map λM'=>(.val undef,M')
 |.insert t m k x=>(A1V C.P t M (ρ m) (ρ k) (ρ x)).map λM'=>(.val undef,M')
 |.makeSlice t l c=>A5a C.P t (ρ l) (ρ c) M
 |.buildSlice t n ps=>if B5V C h t o.dst=true then A1B C.P t n (ps.toList.map λp=>(p.1,ρ p.2)) M else(A0w C.P t n (ps.toList.map λp=>(p.1,ρ p.2))).map λv=>(v,M)
 |.range t x=>A9C C.P t (ρ x) M
 |.next x true=>A8A (ρ x) M
 |.call {callee:=.builtin .len,args,argTypes}=>match args.toList,argTypes.toList with
  |[x],[t]=>((A2W C.P t (ρ x)).or (A4H C.P t M (ρ x))).map λ(n:Nat)=>(AV.val (.int .i64 n),M)
  |_,_=>none
 |.call {callee:=.builtin .copy,args,argTypes}=>match args.toList,argTypes.toList with
  |[x,y],[t,u]=>A8M C.P t u M (ρ x) (ρ y)
  |_,_=>none
 |.convert a b x=>match A5C C.P a b (ρ x)with
  |some v=>some (v,M)
  |none=>A0W C h o ρ M
 |.build t ps=>match A0A C.P t (ps.toList.map λp=>(p.1,ρ p.2))with
  |some v=>some (v,M)
  |none=>A0W C h o ρ M
 |.indexAddr t x i=>match A5O ((A1b C.P t).map (A1j C.P)) (ρ x) (ρ i)with
  |some v=>some (v,M)
  |none=>A0W C h o ρ M
 |.slice t x lo hi mx=>match A1W C.P t (ρ x) (lo.map ρ) (hi.map ρ) (mx.map ρ)with
  |some v=>some (v,M)
  |none=>A0W C h o ρ M
 |.call {callee:=.builtin .clear,..}=>A0W C h o ρ M
 |.call {callee:=.builtin .unsafeSliceData,..}=>A0W C h o ρ M
 |.call {callee:=.builtin .unsafeString,..}=>A0W C h o ρ M
 |_=>(pOp C h o ρ).map λv=>(v,M)
def B3o{C:Ctx}{h:A2j}{o:Oper}{ρ:Operand->AV}{M M':Mem}{v:AV}(hm:mOp C h o ρ M=some (v,M')):A0W C h o ρ M=some (v,M'):=by
 have f:(pOp C h o ρ).map (λv=>(v,M))=some (v,M')->A0W C h o ρ M=some (v,M'):=by intro hp;simp only[Z0l,Z0g]at hp;obtain⟨u,hu,rfl,rfl⟩:=hp;simp only[A0W,A6Z hu]
 have vc:B4N o.op=false->A9t C o ρ=false->A4F C h o (λv2 m=>v2=v/\m=M') ρ M->A0W C h o ρ M=some (v,M'):=by
  intro h1 h2 h3;obtain⟨d,op,t,p,af,g⟩:=o;rw[A3F h1 h2]at h3;cases he:A0W C h ⟨d,op,t,p,af,g⟩ ρ M with
  |none=>rw[he]at h3;exact h3.elim
  |some r=>rw[he]at h3;obtain⟨a,b⟩:=r;simp only[C2k]at h3;rw[h3.1,h3.2]
 obtain⟨d,op,t,p,af,g⟩:=o;cases op<;>first|exact f hm|skip
 case load lt x=>refine vc rfl rfl ?_;rw[B9T];simp only[mOp,Z0l,Z0g]at hm;obtain⟨u,hu,rfl,rfl⟩:=hm;rw[hu];exact⟨rfl,rfl⟩
 case store lt x y=>refine vc rfl rfl ?_;rw[C6x];simp only[mOp,Z0l,Z0g]at hm;obtain⟨u,hu,rfl,rfl⟩:=hm;rw[hu];exact⟨rfl,rfl⟩
 case alloc e=>refine vc rfl rfl ?_;rw[C6c];simp only[mOp]at hm;rw[hm];exact⟨rfl,rfl⟩
 case box e x=>refine vc rfl rfl ?_;rw[D2U];simp only[mOp]at hm;rw[hm];exact⟨rfl,rfl⟩
 case makeMap mt r=>
  cases r with
  |some r=>exact f hm
  |none=>refine vc rfl rfl ?_;rw[C1Q];simp only[mOp,Z0b,Z0g]at hm;exact hm
 case lookup mt m k ok=>refine vc rfl rfl ?_;rw[B5r];simp only[mOp,Z0l,Z0g]at hm;obtain⟨u,hu,rfl,rfl⟩:=hm;rw[hu];exact⟨rfl,rfl⟩
 case mapUpdate mt m k x=>refine vc rfl rfl ?_;rw[B6T];simp only[mOp,Z0l,Z0g]at hm;obtain⟨u,hu,rfl,rfl⟩:=hm;rw[hu];exact⟨rfl,rfl⟩
 case insert mt m k x=>refine vc rfl rfl ?_;rw[C2h];simp only[mOp,Z0l,Z0g]at hm;obtain⟨u,hu,rfl,rfl⟩:=hm;rw[hu];exact⟨rfl,rfl⟩
 case makeSlice st l c=>refine vc rfl rfl ?_;rw[B8Q];simp only[mOp]at hm;rw[hm];exact⟨rfl,rfl⟩
 case buildSlice bt n ps=>
  obtain⟨ps⟩:=ps;refine vc rfl rfl ?_;have e:=@B6d C h M (λv2 m=>v2=v/\m=M') ρ d t p af g bt n ps;rw[e];simp only[mOp]at hm;split
  .rename_i hv;rw[Z0c hv]at hm;rw[hm];exact⟨rfl,rfl⟩
  .rename_i hv;rw[Z0d hv]at hm;simp only[Z0l,Z0g]at hm;obtain⟨u,hu,rfl,rfl⟩:=hm;rw[hu];exact⟨rfl,rfl⟩
 case build bt ps=>
  simp only[mOp]at hm;split at hm
  .rename_i u hu;simp only[Z0b,Z0g]at hm;obtain⟨rfl,rfl⟩:=hm;have:A0I C h ⟨d,.build bt ps,t,p,af,g⟩ ρ=some u:=A6Z (by simpa only[pOp]using hu);simp only[A0W,this]
  .exact hm
 case indexAddr it x i=>
  simp only[mOp]at hm;split at hm
  .rename_i u hu;simp only[Z0b,Z0g]at hm;obtain⟨rfl,rfl⟩:=hm;have:A0I C h ⟨d,.indexAddr it x i,t,p,af,g⟩ ρ=some u:=A6Z (by simpa only[pOp]using hu);simp only[A0W,this]
  .exact hm
 case slice st x lo hi mx=>
  simp only[mOp]at hm;split at hm
  .rename_i u hu;simp only[Z0b,Z0g]at hm;obtain⟨rfl,rfl⟩:=hm;have:A0I C h ⟨d,.slice st x lo hi mx,t,p,af,g⟩ ρ=some u:=A6Z (by simpa only[pOp]using hu);simp only[A0W,this]
  .exact hm
 case convert a b x=>
  simp only[mOp]at hm;split at hm
  .rename_i u hu;simp only[Z0b,Z0g]at hm;obtain⟨rfl,rfl⟩:=hm;have:A0I C h ⟨d,.convert a b x,t,p,af,g⟩ ρ=some u:=hu;simp only[A0W,this]
  .exact hm
 case range rt x=>simp only[mOp]at hm;exact hm
 case next x b=>
  cases b with
  |false=>exact f hm
  |true=>simp only[mOp]at hm;exact hm
 case call c=>
  obtain⟨callee,args,ts⟩:=c;cases callee with
  |builtin b=>
   cases b<;>first|exact f hm|exact hm|skip
   case len=>
    simp only[mOp]at hm;split at hm;(case h_2=>simp at hm);rename_i x t' ha ht;(have j:args=#[x]:=by apply Z1K;simpa using ha);(have q:ts=#[t']:=by apply Z1K;simpa using ht);subst j;subst q;simp only[Z0l,Z0g]at hm;obtain⟨n,hn,rfl,rfl⟩:=hm;simp only[A0W,A0I,A8b,Z0w,Z1O];cases hl:A2W C.P t' (ρ x)with
    |none=>rw[hl]at hn;simp only[Z3k]at hn;simp[hl,hn,A1P,A1R,A4W,goInt]
    |some n'=>rw[hl]at hn;simp only[Z4s,Z0b]at hn;subst hn;simp[hl,goInt]
   case copy=>simp only[mOp]at hm;split at hm;(case h_2=>simp at hm);rename_i x y t' u ha ht;(have j:args=#[x,y]:=by apply Z1K;simpa using ha);(have q:ts=#[t',u]:=by apply Z1K;simpa using ht);subst j;subst q;simp only[A0W,A0I,A8b,Z0w,Z1O];simp[A1P,A1R,A4W,hm]
  |_=>exact f hm
def B3m(P:Program)(op:BinOp)(t:TypeId)(b o b2 o2:Nat):Option Bool:=match P.underlying t with
 |some (.pointer e)=>match A1j P e with
  |some n=>if n=0 then none else if b=b2 then match op with
   |.eql=>some (o==o2)
   |.neq=>some (!(o==o2))
   |_=>none
   else none
  |none=>none
 |_=>none
def C4K(P:Program)(op:BinOp)(t:TypeId)(x y:AV)(f:AV->Prop):Prop:=match x,y with
 |.ptr b o,.ptr b2 o2=>A0S ((B3m P op t b o b2 o2).map λb=>.val (.bool b)) f
 |_,_=>B3J P op t x y f
def D2G{P}{op}{t:TypeId}{b o b2 o2}:A1A P op t (.ptr b o) (.ptr b2 o2)=none:=by
 have h0:A3f P op t (.ptr b o) (.ptr b2 o2)=none:=by simp[A3f,A2P]
 simp only[A1A,h0,A4t]
def B9y{P}{t:TypeId}{cx}{b o b2 o2}:B1m P t cx (.ptr b o) (.ptr b2 o2)=B3m P .eql t b o b2 o2:=by
 unfold B1m B3m;cases P.underlying t with
 |none=>rfl
 |some u=>cases u<;>rfl
def D3v{P}{op}{t:TypeId}{x y}{f:AV->Prop}(h:C4K P op t x y f):(∃b o b2 o2,x=.ptr b o/\y=.ptr b2 o2/\A0S ((B3m P op t b o b2 o2).map λb=>.val (.bool b)) f)\/B3J P op t x y f:=by
 unfold C4K at h;split at h
 .exact .inl ⟨_,_,_,_,rfl,rfl,h⟩
 .exact .inr h
def C6e(C:Ctx)(h:A2j)(o:Oper)(K:AV->Mem->Prop)(ρ:Operand->AV)(M:Mem):Prop:=match o.op with
 |.binOp op t x y _=>C4K C.P op t (ρ x) (ρ y) (λv=>K v M)
 |.call {callee:=.value f,args,..}=>D0Q C (ρ f) (args.toList.map ρ) M K
 |.call {callee:=.builtin .append,args,argTypes}=>match args.toList,argTypes.toList with
  |[s,x],[t,u]=>B3i C (A1X h.own o.dst) (A1X h.vec o.dst) t u (ρ s) (ρ x) M K
  |_,_=>False
 |_=>A0S (mOp C h o ρ M) (λr=>K r.1 r.2)
def C6R{C}{h}{o}{K:AV->Mem->Prop}{ρ:Operand->AV}{M}(hw:C6e C h o K ρ M):A4F C h o K ρ M:=by
 have i:(∀f args ts,o.op≠.call {callee:=.value f,args:=args,argTypes:=ts})->(∀args ts,o.op≠.call {callee:=.builtin .append,args:=args,argTypes:=ts})->A0S (mOp C h o ρ M) (λr=>K r.1 r.2)->A4F C h o K ρ M:=by
  intro h1 h2 hs;cases hm:mOp C h o ρ M with
  |none=>rw[hm]at hs;exact hs.elim
  |some r=>
   obtain⟨v,M'⟩:=r;rw[hm]at hs;have he:=B3o hm;unfold A4F;split
   .rename_i heq;exact absurd heq (by intro e;exact h1 _ _ _ e)
   .rename_i heq;exact absurd heq (by intro e;exact h2 _ _ e)
   .rw[he];exact hs
 obtain⟨d,op,t,p,af,g⟩:=o;unfold C6e at hw;simp only at hw;split at hw
 .rename_i bop bt x y yt;rw[C6f];rcases D3v hw with⟨b,o,b2,o2,hx,hy,hw⟩|hw
  .unfold C7G;have en:A1A C.P bop bt (.ptr b o) (.ptr b2 o2)=none:=D2G;(have e1:A1a C ⟨d,.binOp bop bt x y yt,t,p,af,g⟩ ρ=(B3m C.P bop bt b o b2 o2).map λb=>.val (.bool b):=by cases bop;(case eql=>show(B1m C.P bt (B1t y) (ρ x) (ρ y)).map _=_;rw[hx,hy,B9y]);(case neq=>show(B1m C.P bt (B1t y) (ρ x) (ρ y)).map _=_;rw[hx,hy,B9y];unfold B3m;split<;>(try split)<;>(try split)<;>(try split)<;>rfl);all_goals (unfold B3m;split<;>(try split)<;>(try split)<;>(try split)<;>rfl));rw[hx,hy,en,e1];simp only[Z3k];cases hp:B3m C.P bop bt b o b2 o2 with
   |none=>rw[hp]at hw;exact hw.elim
   |some r=>rw[hp]at hw;exact hw
  unfold B3J at hw;unfold C7G;cases hb:A1A C.P bop bt (ρ x) (ρ y)with
  |some v=>rw[hb]at hw;exact hw
  |none=>
   rw[hb]at hw;simp only[Z3k];cases he:A1a C ⟨d,.binOp bop bt x y yt,t,p,af,g⟩ ρ with
   |none=>exact hw
   |some v=>
    (have:∃b,v=.val (.bool b):=by cases bop<;>first|(simp[A1a]at he;done)|(simp only[A1a,Z0l]at he;obtain⟨b,_,rfl⟩:=he;exact⟨_,rfl⟩));obtain⟨b,rfl⟩:=this
    exact hw.2 b
 .rename_i f args ts;exact hw
 .rename_i args ts;split at hw;case h_2=>exact hw.elim
  rename_i s x t' u ha ht;have a:args=#[s,x]:=by apply Z1K;simpa using ha
  have c:ts=#[t',u]:=by apply Z1K;simpa using ht
  subst a;subst c;rw[C4b];exact hw
 .rename_i hne0 hne1 hne2;exact i hne1 hne2 hw
def B3C(C:Ctx)(h:A2j)(ops:Array Oper):List Oper->(Env->Mem->Prop)->Env->Mem->Prop
 |[],K,T,M=>K T M
 |o::rest,K,T,M=>A2q ops o T (C6e C h o (λv M'=>B3C C h ops rest K (T.put o.dst v) M') (T.ev C) M) (B3C C h ops rest K (T.put o.dst (.val undef)) M)
def B0U{C}{h}{ops}{K:Env->Mem->Prop}:∀(l:List Oper) (T:Env) (M:Mem),B3C C h ops l K T M->B5e C h ops l K T M
 |[],T,M,hw=>hw
 |o::rest,T,M,hw=>by simp only[B3C]at hw;simp only[B5e];exact A6c (λh1=>D0k (λv m h2=>B0U rest _ _ h2) (C6R h1)) (λh1=>B0U rest _ _ h1) hw
def A5d(C:Ctx)(h:A2j)(N:Nat):Code->(Exit->Env->Mem->Prop)->Env->Mem->Prop
 |.skip,Q,T,M=>Q .normal T M
 |.label _,Q,T,M=>Q .normal T M
 |.region id ops draw,Q,T,M=>if draw=true then AWp C N (.region id ops true) Q T M else B3C C h ops ops.toList (λT M=>Q .normal T M) T M
 |.seq x y,Q,T,M=>A5d C h N x (C3c (A5d C h N y Q) Q) T M
 |.cond c x y,Q,T,M=>C6T (T.ev C c) (A5d C h N x Q T M) (A5d C h N y Q T M)
 |.block id c,Q,T,M=>A5d C h N c (A8Z id Q) T M
 |.exit id,Q,T,M=>Q (.exit id) T M
 |.ret,Q,T,M=>Q .ret T M
 |c,Q,T,M=>AWp C N c Q T M
def A4o{C}{h}{N}:∀(c:Code) (Q:Exit->Env->Mem->Prop) (T:Env) (M:Mem),A2L N c=true->A5d C h N c Q T M->AWp C N c Q T M
 |.skip,Q,T,M,_,hv=>D1U hv
 |.label _,Q,T,M,_,hv=>C9v hv
 |.region id ops draw,Q,T,M,hin,hv=>by
  simp only[A5d]at hv;cases draw with
  |true=>simpa using hv
  |false=>exact C6u (by simpa[A2L]using hin) (B0U _ _ _ (by simpa using hv))
 |.seq x y,Q,T,M,hin,hv=>by
  simp only[A2L,Z0h]at hin;simp only[A5d]at hv;refine D4K ((A4o x _ T M hin.1 hv).mono ?_);intro e T' M' hq;cases e with
  |normal=>exact A4o y Q T' M' hin.2 hq
  |_=>exact hq
 |.cond c x y,Q,T,M,hin,hv=>by
  simp only[A2L,Z0h]at hin;simp only[A5d,C6T]at hv;split at hv
  .rename_i b hb;refine D2o hin.1.1 hb (λe=>?_) (λe=>?_)
   .rw[Z0c e]at hv;exact A4o x Q T M hin.1.2 hv
   .rw[Z0d (by simp[e])]at hv;exact A4o y Q T M hin.2 hv
  .exact hv.elim
 |.block id c,Q,T,M,hin,hv=>D0g (A4o c _ T M (by simpa[A2L]using hin) hv)
 |.exit id,Q,T,M,_,hv=>D2u hv
 |.ret,Q,T,M,_,hv=>D4u hv
 |.loop c,Q,T,M,_,hv=>hv
 |.rangeFunc _ _ _ _,Q,T,M,_,hv=>hv
 |.scope _,Q,T,M,_,hv=>hv
 |.goto _,Q,T,M,_,hv=>hv
 |.refuse _,Q,T,M,_,hv=>hv
def D1C(C:Ctx)(f:AV)(args:List AV)(M:Mem)(K:AV->Mem->Prop):Prop:=match f with
 |.func (.func g) first captured=>∃r,(∀M,A3E C g (first++args++captured) M (λv M'=>v=r/\M'=M))/\K r M
 |_=>False
def D0B(C:Ctx)(f:AV)(args:List AV)(M:Mem)(K:AV->Mem->Prop):Prop:=match f with
 |.func (.func g) first captured=>∃r M1,A3E C g (first++args++captured) M (λv M'=>v=r/\M'=M1)/\K r M1
 |_=>False
def D1p(P:Program)(n:Nat)(e:TypeId)(x i:AV):Option AV:=match x,i with
 |.agg cs,.val (.int _ i)=>match A1j P e with
  |some sz=>if 0<=i/\i<n/\i.toNat*sz+sz<=cs.length then A0y P e (cs.drop (i.toNat*sz))else none
  |none=>none
 |_,_=>none
def B6X(P:Program)(u:Option TypeDesc)(x i:AV):Option AV:=match u with
 |some (.array n e)=>D1p P n e x i
 |u=>B4f u x i
@[simp] def D9O{P:Program}{x i:AV}:B6X P (some .string) x i=B4f (some .string) x i:=(rfl)
def C8x{C:Ctx}{h:A2j}{d:Option Tmp}{xt t:TypeId}{x i:Operand}{p:String}{af:Array Edge}{g:Option (Nat×Bool)}{ρ:Operand->AV}{v:AV}(hv:B6X C.P (C.P.underlying xt) (ρ x) (ρ i)=some v):(A0I C h ⟨d,.index xt x i,t,p,af,g⟩ ρ).or (A1a C ⟨d,.index xt x i,t,p,af,g⟩ ρ)=some v:=by
 unfold B6X at hv;split at hv
 .rename_i n e hu;have e1:A0I C h ⟨d,.index xt x i,t,p,af,g⟩ ρ=none:=by simp[A0I,hu]
  rw[e1,Z3k];simp only[A1a,C1j,hu];unfold D1p at hv;cases hx:ρ x<;>rw[hx]at hv<;>first|(simp at hv;done)|skip
  cases hi:ρ i<;>rw[hi]at hv<;>first|(simp at hv;done)|skip
  rename_i q;cases q<;>first|(simp at hv;done)|exact hv
 .have e1:A0I C h ⟨d,.index xt x i,t,p,af,g⟩ ρ=some v:=A6Z (by simpa only[pOp]using hv);rw[e1];rfl
def wsD(C:Ctx)(h:A2j)(cls rob:Nat)(o:Oper)(ρ:Operand->AV)(M:Mem)(K:AV->Mem->Prop):Prop:=match cls with
 |0=>match o.op with
  |.call {callee:=.value f,args,..}=>D1C C (ρ f) (args.toList.map ρ) M K
  |.call {callee:=.builtin .append,..}=>False
  |.alloc _=>False
  |.index t x i=>A0S (B6X C.P (C.P.underlying t) (ρ x) (ρ i)) (λv=>K v M)
  |_=>A0S (pOp C h o ρ) (λv=>K v M)
 |1=>match o.op with
  |.load t x=>A1g o ρ=some rob/\A0S (A0M C.P t M (ρ x)) (λv=>K v M)
  |.lookup t m k ok=>A1g o ρ=some rob/\A0S (A1S C.P t M (ρ m) (ρ k) ok) (λv=>K v M)
  |_=>False
 |2=>match o.op with
  |.call {callee:=.value f,args,..}=>D0B C (ρ f) (args.toList.map ρ) M K
  |.call {callee:=.builtin .append,args,argTypes}=>match args.toList,argTypes.toList with
   |[s,x],[t,u]=>B3i C (A1X h.own o.dst) (A1X h.vec o.dst) t u (ρ s) (ρ x) M K
   |_,_=>False
  |_=>A0S (mOp C h o ρ M) (λr=>K r.1 r.2)
 |_=>False
def B5D{f:Mem->Option (AV×Mem)}{M}{K:AV->Mem->Prop}(h:A0S (f M) (λr=>K r.1 r.2)):A6W false f M K:=by
 unfold A6W;cases hf:f M with
 |none=>rw[hf]at h;exact h.elim
 |some r=>rw[hf]at h;exact⟨λe=>by simp at e,h⟩
def B4e{C:Ctx}{h:A2j}{cls rob:Nat}{o:Oper}{ρ:Operand->AV}{M:Mem}{K:AV->Mem->Prop}(hw:wsD C h cls rob o ρ M K):dOp C h false cls rob 0 o ρ M K:=by
 have a:∀c,(∀f args ts,o.op≠.call {callee:=.value f,args:=args,argTypes:=ts})->(∀args ts,o.op≠.call {callee:=.builtin .append,args:=args,argTypes:=ts})->(∀e,o.op≠.alloc e)->
  (if c=0 then A0S ((A0I C h o ρ).or (A1a C o ρ)) (λv=>K v M)else if c=1 then A1g o ρ=some rob/\A0S (A3I C o ρ M) (λv=>K v M)else if c=5 then A4i o ρ=some 0/\A0S (A0W C h o ρ M) (λr=>K r.1 r.2)else c=2/\A6W false (A0W C h o ρ) M K)->dOp C h false c rob 0 o ρ M K:=by
  intro c h1 h2 h3 hp
  unfold dOp
  split
  .rename_i heq;exact absurd heq (by intro e;exact h1 _ _ _ e)
  .rename_i heq;exact absurd heq (by intro e;exact h2 _ _ e)
  .rename_i heq;exact absurd heq (by intro e;exact h3 _ e)
  .exact hp
 unfold wsD at hw;split at hw
 .split at hw
  .rename_i f args ts hop;obtain⟨d,op,t,p,af,g⟩:=o;simp only at hop;subst hop;simp only[dOp];unfold D1C at hw;split at hw
   ·(rename_i g' first captured hf);simp only[hf,Z1f]
    exact hw
   .exact hw.elim
  .exact hw.elim
  .exact hw.elim
  .rename_i xt x i hop;refine a 0 (by simp[hop]) (by simp[hop]) (by simp[hop]) ?_;rw[Z0c rfl];obtain⟨d,op,t,p,af,g⟩:=o;simp only at hop;subst hop;cases hv:B6X C.P (C.P.underlying xt) (ρ x) (ρ i)with
   |none=>rw[hv]at hw;exact hw.elim
   |some v=>rw[hv]at hw;rw[C8x hv];exact hw
  .rename_i h1 h2 h3 h4;refine a 0 (λf args ts e=>h1 _ _ _ e) (λargs ts e=>h2 _ _ e) (λe he=>h3 _ he) ?_;rw[Z0c rfl];cases hp:pOp C h o ρ with
   |none=>rw[hp]at hw;exact hw.elim
   |some v=>rw[hp]at hw;rw[A6Z hp];exact hw
 .split at hw
  .rename_i lt x hop;refine a 1 (by simp[hop]) (by simp[hop]) (by simp[hop]) ?_;rw[Z0d Q0,Z0c rfl];refine⟨hw.1,?_⟩;simp only[A3I,hop];exact hw.2
  .rename_i lt m k ok hop;refine a 1 (by simp[hop]) (by simp[hop]) (by simp[hop]) ?_;rw[Z0d Q0,Z0c rfl];refine⟨hw.1,?_⟩;simp only[A3I,hop];exact hw.2
  .exact hw.elim
 .split at hw
  .rename_i f args ts hop;obtain⟨d,op,t,p,af,g⟩:=o;simp only at hop;subst hop;simp only[dOp];unfold D0B at hw;split at hw
   ·(rename_i g' first captured hf);simp only[hf]
    rw[Z0d Q1];obtain⟨r,M1,q1,q2⟩:=hw;exact⟨r,M1,by trivial,q1,λe=>by simp at e,q2⟩
   .exact hw.elim
  .rename_i args ts hop;obtain⟨d,op,t,p,af,g⟩:=o;simp only at hop;subst hop;simp only[dOp];split at hw;(case h_2=>exact hw.elim);rename_i s x t' u ha ht;rw[ha,ht];obtain⟨e,sz,bytes,q1,q2⟩:=hw;exact⟨e,sz,bytes,q1,by trivial,B5D q2⟩
  .rename_i h1 h2;have hm:A6W false (A0W C h o ρ) M K:=by
    refine B5D ?_;cases hm:mOp C h o ρ M with
    |none=>rw[hm]at hw;exact hw.elim
    |some r=>rw[hm]at hw;rw[B3o (M':=r.2) (v:=r.1) hm];exact hw
   by_cases ha:∃e,o.op=.alloc e
   .obtain⟨e,he⟩:=ha;obtain⟨d,op,t,p,af,g⟩:=o;simp only at he;subst he;simp only[dOp];rw[Z0d Q1];exact⟨by trivial,hm⟩
   .refine a 2 (λf args ts e=>h1 _ _ _ e) (λargs ts e=>h2 _ _ e) (λe he=>ha ⟨e,he⟩) ?_;rw[Z0d Q0,Z0d Q0];exact⟨rfl,hm⟩
 .exact hw.elim
def B4Q(C:Ctx)(h:A2j)(ops:Array Oper)(cls rob:Nat->Nat):Nat->List Oper->Env->Mem->(Env->Mem->Prop)->Prop
 |_,[],T,M,K=>K T M
 |k,o::rest,T,M,K=>A2q ops o T (wsD C h (cls k) (rob k) o (T.ev C) M (λv M'=>B4Q C h ops cls rob (k+1) rest (T.put o.dst v) M' K)) (B4Q C h ops cls rob (k+1) rest (T.put o.dst (.val undef)) M K)
def A6d(cls rob:Nat->Nat):B1N:={cls:=λk=>if cls k=5 then 3 else cls k,rob:=rob}
def B4t{C}{h}{c r}{o}{ρ:Operand->AV}{M}{K K':AV->Mem->Prop}(hk:∀v m,K v m->K' v m)(hv:dOp C h false c r 0 o ρ M K):dOp C h false c r 0 o ρ M K':=by
 have on:∀{α:Type} (o:Option α) (f g:α->Prop),(∀a,f a->g a)->A0S o f->A0S o g:=by
  intro α o f g d ho;cases o with
  |none=>exact ho
  |some a=>exact d a ho
 have b:∀(fl:Bool) (f:Mem->Option (AV×Mem)) (M:Mem) (K K':AV->Mem->Prop),(∀v m,K v m->K' v m)->A6W fl f M K->A6W fl f M K':=by
  intro fl f M K K' hk h;unfold A6W at h|-;split at h
  .exact⟨h.1,hk _ _ h.2⟩
  .exact h
 unfold dOp at hv|-;split at hv
 .split at hv
  .split at hv
   .rename_i e;rw[Z0c e];obtain⟨r,q1,q2⟩:=hv;exact⟨r,q1,hk _ _ q2⟩
   .rename_i e;rw[Z0d e];obtain⟨r,M1,q1,q2,q3,q4⟩:=hv;exact⟨r,M1,q1,q2,q3,hk _ _ q4⟩
  .exact hv.elim
 .split at hv
  .obtain⟨e,sz,bytes,h1,i,h2⟩:=hv;exact⟨e,sz,bytes,h1,i,b _ _ _ _ _ hk h2⟩
  .exact hv.elim
 .split at hv
  .rename_i e;rw[Z0c e];exact⟨hv.1,hv.2.1,on _ _ _ (λa h=>hk _ _ h) hv.2.2⟩
  .rename_i e;rw[Z0d e];exact⟨hv.1,b _ _ _ _ _ hk hv.2⟩
 .split at hv
  .rename_i e;rw[Z0c e];exact on _ _ _ (λa h=>hk _ _ h) hv
  .rename_i e;rw[Z0d e];split at hv
   .rename_i e1;rw[Z0c e1];exact⟨hv.1,on _ _ _ (λa h=>hk _ _ h) hv.2⟩
   .rename_i e1;rw[Z0d e1];split at hv
    .rename_i e2;rw[Z0c e2];exact⟨hv.1,on _ _ _ (λa h=>hk _ _ h) hv.2⟩
    .rename_i e2;rw[Z0d e2];exact⟨hv.1,b _ _ _ _ _ hk hv.2⟩
def B0c{C}{h}{ops}{cls rob:Nat->Nat}{K:Env->Mem->Prop}:∀(l:List Oper) (k:Nat) (T:Env) (M:Mem),B4Q C h ops cls rob k l T M K->A1t C h ops (A6d cls rob) k l T M K
 |[],k,T,M,hw=>hw
 |o::rest,k,T,M,hw=>by
  simp only[B4Q]at hw;simp only[A1t];exact A6c (λh1=>B4t (λv m h2=>⟨λi _ ha=>by simp[A6d]at ha,B0c rest _ _ _ h2⟩) (by
   have hd:=B4e h1;by_cases e:cls k=5
   .rw[e]at h1;exact h1.elim
   .simpa only[A6d,Z0d e]using hd)) (λh1=>B0c rest _ _ _ h1) hw
def C5k{C}{N}{h}{id}{ops}{Q:Exit->Env->Mem->Prop}{T}{M}(a:C.P.follows .mixedOrders=true)(cls rob:Nat->Nat)(d:A2u N ops ops.toList=true)(b:A4D ops (A6d cls λ_=>0)=true)
 (hr:B4Q C h ops cls rob 0 ops.toList T M (λT M=>Q .normal T M)):AWp C N (.region id ops true) Q T M:=by
 have h4:∀i o,ops[i]?=some o->(A6d cls rob).cls i≠4:=by intro i o ho e;have:=(A4Z b ho).2.1 e;simp[A6d]at this
 have h5:∀k,(A6d cls rob).cls k≠5:=by intro k;simp only[A6d];split<;>omega
 have c:A4D ops (A6d cls rob)=true:=by
  have hp:∀i,i<ops.size->A6q ((A6d cls rob).cls i)=false:=λi hi=>by
   cases e:A6q ((A6d cls rob).cls i)with
   |false=>rfl
   |true=>
    rcases A9k.1 e with h|h
    .exact absurd h (h4 i _ (Z1e hi))
    .exact absurd h (h5 i)
  have:∀i j,i<ops.size->j<ops.size->A2b (A6d cls rob) j i=A2b (A6d cls λ_=>0) j i:=by intro i j hi hj;have b1:=hp i hi;have b2:=hp j hj;have c1:(A6d cls λ_=>0).cls=(A6d cls rob).cls:=rfl;have c2:(A6d cls λ_=>0).aff=(A6d cls rob).aff:=rfl;simp only[A2b,c1,c2,b1,b2,Z2V,Z0J,Z3V]
  refine Z0D.2 λi hi=>?_;have h0:=Z0D.1 b i hi;have f:=Z1W.1 hi;cases ho:ops[i]? with
  |none=>rfl
  |some o=>
   rw[ho]at h0;simp only[Z0h]at h0|-;refine⟨h0.1,Z0D.2 λj hj=>?_⟩;have h1:=Z0D.1 h0.2 j hj;have g:=Z1W.1 hj;cases hx:ops[j]? with
   |none=>rfl
   |some x=>rw[hx]at h1;simp only at h1|-;rw[this i j f Q0];exact h1
 refine B0u (h:=h) a (A6d cls rob) d c (λk hk hc=>?_) (B0c _ _ _ _ hr)
 exact absurd hc (h4 k _ (Z1e hk))
end Go.Abs
