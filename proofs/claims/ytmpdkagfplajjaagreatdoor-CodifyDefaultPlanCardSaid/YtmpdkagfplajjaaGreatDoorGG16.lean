/- The texts AbsV5, AbsR, AbsR2, AbsR3, AbsR4, AbsR5. -/
import Derived.Test.YtmpdkagfplajjaaGreatDoorGG15
import Derived.Laws.Externs
set_option linter.all false
namespace Go.Abs
def D6M:List AV->Mem->Option XR
 |[v],M=>some (v,M,[])
 |_,_=>none
def B4i:List AV->Mem->Option XR
 |[.val (.string s),.val (.int .u8 c)],M=>some (.val (match(List.range s.size).find? λi=>s[i]! ==c.toNat.toUInt8 with
  |some i=>goInt i
  |none=>goInt (-1)),M,[])
 |_,_=>none
section
variable {C:Ctx} {f:FuncId} {fn:Func}
def D5I(hf:C.P.funcs[f]?=some fn)(a:(fn.name== "runtime.NumGoroutine")=false)(hb:fn.body.isNone=true)(hn:Extern.findNext fn=none)(he:Extern.find fn=some Extern.AbiNoEscape.same):∀args M v M1 ws,D6M args M=some (v,M1,ws)->A4A C f args M (λr m=>r=v/\m=M1)/\D0y (D6M args) M v M1 ws:=by
 intro args M v M1 ws h
 unfold D6M at h
 split at h
 case h_2=>simp at h
 rename_i u M
 simp only[Z0b,Z0f]at h
 obtain⟨rfl,rfl,rfl⟩:=h
 refine⟨.inr λG w vs hi hr=>?_,.same λ_ _ _=>rfl⟩
 simp only[A0u]at hr
 obtain⟨y,_,rfl,hy,rfl⟩:=hr
 exact⟨y,w,G,_,_,by rw[run_callFunc_extern hf a hb hn he];rfl,⟨rfl,rfl⟩,.refl _,hi,hy,.refl _⟩
def C1u(hf:C.P.funcs[f]?=some fn)(a:(fn.name== "runtime.NumGoroutine")=false)(hb:fn.body.isNone=true)(hn:Extern.findNext fn=none)(he:Extern.find fn=some Extern.BytealgIndexByte.indexByte):∀args M v M1 ws,B4i args M=some (v,M1,ws)->A4A C f args M (λr m=>r=v/\m=M1)/\D0y (B4i args) M v M1 ws:=by
 intro args M v M1 ws h
 unfold B4i at h
 split at h
 case h_2=>simp at h
 rename_i M s c
 simp only[Z0b,Z0f]at h
 obtain⟨rfl,rfl,rfl⟩:=h
 refine⟨.inr λG w vs hi hr=>?_,.same λ_ _ _=>rfl⟩
 simp only[A0u,Rep]at hr
 obtain⟨y,_,rfl,rfl,y2,_,rfl,rfl,rfl⟩:=hr
 have key:((Extern.BytealgIndexByte.indexByte #[.string s,.int .u8 c]).run C.P w)=.ok (match(List.range s.size).find? λi=>s[i]! ==c.toNat.toUInt8 with
  |some i=>goInt i
  |none=>goInt (-1)) w:=by
  show((match(List.range s.size).find? λi=>s[i]! ==c.toNat.toUInt8 with
   |some i=>pure (goInt i)
   |none=>pure (goInt (-1))):Sem Value).run C.P w=_
  generalize(List.range s.size).find? _=r
  cases r<;>rfl
 have run:(callFunc f #[.string s,.int .u8 c]).run C.P w=.ok (.value (match(List.range s.size).find? λi=>s[i]! ==c.toNat.toUInt8 with
  |some i=>goInt i
  |none=>goInt (-1))) w:=by
  rw[run_callFunc_extern hf a hb hn he,key];rfl
 exact⟨_,w,G,_,_,run,⟨rfl,rfl⟩,.refl _,hi,by simp only[Rep],.refl _⟩
end
def D4t(P:Program)(t:TypeId):AV->Option AV
 |.cptr cs=>A1x P t cs
 |_=>none
@[simp] def D9T{P}{t:TypeId}{cs}:D4t P t (.cptr cs)=A1x P t cs:=rfl
def E3y(imm:Bool)(x:AV):Option AV:=if imm&&x.storable then some (.cptr x.cells)else none
def B5x(u:Option TypeDesc)(x i:AV):Option AV:=match u,x,i with
 |some .string,.val (.string s),.val (.int _ i)=>if 0<=i/\i<s.size then some (.val (.int .u8 (s.data.getD i.toNat 0).toNat))else none
 |_,_,_=>none
def A0L(s:ByteArray)(i:Nat):Int:=(s.data.getD i 0).toNat
@[simp] def E1h{s}{k}{i}:B5x (some .string) (.val (.string s)) (.val (.int k i))=if 0<=i/\i<s.size then some (.val (.int .u8 (A0L s i.toNat)))else none:=rfl
def C4c(P:Program)(f:Option (Nat×TypeId))(x:AV):Option AV:=match f,x with
 |some (k,ft),.agg cs=>if(A1t P ft).any (λn=>decide (k+n<=cs.length))then A1x P ft (cs.drop k)else none
 |_,_=>none
@[simp] def D9L{P}{k}{ft:TypeId}{cs}:C4c P (some (k,ft)) (.agg cs)=if(A1t P ft).any (λn=>decide (k+n<=cs.length))=true then A1x P ft (cs.drop k)else none:=rfl
def D4l:AV->Option AV
 |.val (.int k n)=>some (.val (.int k (k.wrap (0-n))))
 |_=>none
@[simp] def E2C{k}{n}:D4l (.val (.int k n))=some (.val (.int k (k.wrap (0-n)))):=rfl
def pOp(C:Ctx)(h:A2r)(o:Oper)(ρ:Operand->AV):Option AV:=match o.op with
 |.move x=>some (ρ x)
 |.assign x=>some (ρ x)
 |.pick c a b=>B8a (ρ c) (ρ a) (ρ b)
 |.nilCheck x=>B7t (ρ x)
 |.binOp op t x y _=>A1z C.P op t (ρ x) (ρ y)
 |.unOp .not _ x=>C7T (ρ x)
 |.unOp .neg _ x=>D4l (ρ x)
 |.fieldAddr t x f=>B0V (A1y C.P t f) (ρ x)
 |.field t x f=>C4c C.P (A0P C.P t f) (ρ x)
 |.extract x i=>B0l (ρ x) i
 |.indexAddr t x i=>A6N ((A1h C.P t).map (A1t C.P)) (ρ x) (ρ i)
 |.index t x i=>B5x (C.P.underlying t) (ρ x) (ρ i)
 |.makeFunc fn f c=>some (.func fn (f.toList.map ρ) (c.toList.map ρ))
 |.slice t x lo hi mx=>A2z C.P t (ρ x) (lo.map ρ) (hi.map ρ) (mx.map ρ)
 |.build t ps=>A0w C.P t (ps.toList.map λp=>(p.1,ρ p.2))
 |.buildSlice t n ps=>if B7x C h t o.dst then none else A0n C.P t n (ps.toList.map λp=>(p.1,ρ p.2))
 |.load t x=>D4t C.P t (ρ x)
 |.box _ x=>E3y (A2y h.imm o.dst) (ρ x)
 |.convert a b x=>A4v C.P a b (ρ x)
 |.call {callee:=.builtin .len,args,argTypes}=>match args.toList,argTypes.toList with
  |[x],[t]=>(A2v C.P t (ρ x)).map λ(n:Nat)=>AV.val (.int .i64 n)
  |_,_=>none
 |.call {callee:=.builtin .max,args,argTypes}=>match args.toList with
  |[x,y]=>A7U true (ρ x) (ρ y)
  |_=>none
 |.call {callee:=.builtin .min,args,argTypes}=>match args.toList with
  |[x,y]=>A7U false (ρ x) (ρ y)
  |_=>none
 |_=>none
def A8A{C}{h}{o}{ρ:Operand->AV}{v}(hp:pOp C h o ρ=some v):A0E C h o ρ=some v:=by
 obtain⟨d,op,t,p,af,g⟩:=o;cases op<;>first|exact hp|(simp[pOp]at hp;done)|skip
 case unOp op t x=>cases op<;>first|exact hp|(simp[pOp]at hp;done)
 case indexAddr t x i=>
  have e:A0E C h ⟨d,.indexAddr t x i,t,p,af,g⟩ ρ=A6N ((A1h C.P t).map (A1t C.P)) (ρ x) (ρ i):=by
   simp only[A0E,A6N];cases A1h C.P t with
   |none=>rfl
   |some e=>cases ρ x<;>first|rfl|(cases ρ i<;>first|rfl|(rename_i v;cases v<;>rfl))
  exact e.trans hp
 case call c=>
  obtain⟨callee,args,ts⟩:=c;cases callee with
  |builtin b=>
   cases b<;>first|(simp[pOp]at hp;done)|skip
   (case len=>simp only[pOp]at hp;simp only[A0E];split at hp;(case h_2=>simp at hp);rename_i x t' ha ht;(have a:ts=#[t']:=by apply Z1N;simpa using ht);subst a;rw[ha];exact hp);case max=>simp only[pOp]at hp;simp only[A0E];split at hp;(case h_2=>simp at hp);rename_i x y ha;rw[ha];exact hp
   case min=>simp only[pOp]at hp;simp only[A0E];split at hp;(case h_2=>simp at hp);rename_i x y ha;rw[ha];exact hp
  |_=>simp[pOp]at hp
def mOp(C:Ctx)(h:A2r)(o:Oper)(ρ:Operand->AV)(M:Mem):Option (AV×Mem):=match o.op with
 |.load t x=>(A1m C.P t M (ρ x)).map λv=>(v,M)
 |.store t a x=>(A0m (A1t C.P t) M (ρ a) (ρ x)).map λM'=>(.val undef,M')
 |.alloc e=>A0l C.P e M
 |.box e x=>C2n (A2y h.imm o.dst) e M (ρ x)
 |.makeMap _ none=>some (.mapr M.length,M++[.map [] 0])
 |.lookup t m k ok=>(A1S C.P t M (ρ m) (ρ k) ok).map λv=>(v,M)
 |.mapUpdate t m k x=>(A1N C.P t M (ρ m) (ρ k) (ρ x)).map λM'=>(.val undef,M')
 |.insert t m k x=>(A1N C.P t M (ρ m) (ρ k) (ρ x)).map λM'=>(.val undef,M')
 |.makeSlice t l c=>A4V C.P t (ρ l) (ρ c) M
 |.buildSlice t n ps=>if B7x C h t o.dst=true then A1J C.P t n (ps.toList.map λp=>(p.1,ρ p.2)) M else(A0n C.P t n (ps.toList.map λp=>(p.1,ρ p.2))).map λv=>(v,M)
 |.range t x=>A7X C.P t (ρ x) M
 |.next x true=>A7e (ρ x) M
 |.call {callee:=.builtin .len,args,argTypes}=>match args.toList,argTypes.toList with
  |[x],[t]=>((A2v C.P t (ρ x)).or (A3v C.P t M (ρ x))).map λ(n:Nat)=>(AV.val (.int .i64 n),M)
  |_,_=>none
 |.call {callee:=.builtin .copy,args,argTypes}=>match args.toList,argTypes.toList with
  |[x,y],[t,u]=>A7m C.P t u M (ρ x) (ρ y)
  |_,_=>none
 |.convert a b x=>match A4v C.P a b (ρ x)with
  |some v=>some (v,M)
  |none=>A0Q C h o ρ M
 |.build t ps=>match A0w C.P t (ps.toList.map λp=>(p.1,ρ p.2))with
  |some v=>some (v,M)
  |none=>A0Q C h o ρ M
 |.indexAddr t x i=>match A6N ((A1h C.P t).map (A1t C.P)) (ρ x) (ρ i)with
  |some v=>some (v,M)
  |none=>A0Q C h o ρ M
 |.slice t x lo hi mx=>match A2z C.P t (ρ x) (lo.map ρ) (hi.map ρ) (mx.map ρ)with
  |some v=>some (v,M)
  |none=>A0Q C h o ρ M
 |.call {callee:=.builtin .clear,..}=>A0Q C h o ρ M
 |.call {callee:=.builtin .unsafeSliceData,..}=>A0Q C h o ρ M
 |.call {callee:=.builtin .unsafeString,..}=>A0Q C h o ρ M
 |_=>(pOp C h o ρ).map λv=>(v,M)
def C6g{C:Ctx}{h:A2r}{o:Oper}{ρ:Operand->AV}{M M':Mem}{v:AV}(hm:mOp C h o ρ M=some (v,M')):A0Q C h o ρ M=some (v,M'):=by
 have f:(pOp C h o ρ).map (λv=>(v,M))=some (v,M')->A0Q C h o ρ M=some (v,M'):=by intro hp;simp only[Z0j,Z0f]at hp;obtain⟨u,hu,rfl,rfl⟩:=hp;simp only[A0Q,A8A hu]
 have vc:B6o o.op=false->B0p C o ρ=false->A4D C h o (λv2 m=>v2=v/\m=M') ρ M->A0Q C h o ρ M=some (v,M'):=by
  intro h1 h2 h3;obtain⟨d,op,t,p,af,g⟩:=o;rw[A3A h1 h2]at h3;cases he:A0Q C h ⟨d,op,t,p,af,g⟩ ρ M with
  |none=>rw[he]at h3;exact h3.elim
  |some r=>rw[he]at h3;obtain⟨a,b⟩:=r;simp only[C5v]at h3;rw[h3.1,h3.2]
 obtain⟨d,op,t,p,af,g⟩:=o;cases op<;>first|exact f hm|skip
 case load lt x=>refine vc rfl rfl ?_;rw[C2l];simp only[mOp,Z0j,Z0f]at hm;obtain⟨u,hu,rfl,rfl⟩:=hm;rw[hu];exact⟨rfl,rfl⟩
 case store lt x y=>refine vc rfl rfl ?_;rw[C9P];simp only[mOp,Z0j,Z0f]at hm;obtain⟨u,hu,rfl,rfl⟩:=hm;rw[hu];exact⟨rfl,rfl⟩
 case alloc e=>refine vc rfl rfl ?_;rw[C9t];simp only[mOp]at hm;rw[hm];exact⟨rfl,rfl⟩
 case box e x=>refine vc rfl rfl ?_;rw[D6f];simp only[mOp]at hm;rw[hm];exact⟨rfl,rfl⟩
 case makeMap mt r=>
  cases r with
  |some r=>exact f hm
  |none=>refine vc rfl rfl ?_;rw[C4H];simp only[mOp,Z0b,Z0f]at hm;exact hm
 case lookup mt m k ok=>refine vc rfl rfl ?_;rw[B6W];simp only[mOp,Z0j,Z0f]at hm;obtain⟨u,hu,rfl,rfl⟩:=hm;rw[hu];exact⟨rfl,rfl⟩
 case mapUpdate mt m k x=>refine vc rfl rfl ?_;rw[B8I];simp only[mOp,Z0j,Z0f]at hm;obtain⟨u,hu,rfl,rfl⟩:=hm;rw[hu];exact⟨rfl,rfl⟩
 case insert mt m k x=>refine vc rfl rfl ?_;rw[C5p];simp only[mOp,Z0j,Z0f]at hm;obtain⟨u,hu,rfl,rfl⟩:=hm;rw[hu];exact⟨rfl,rfl⟩
 case makeSlice st l c=>refine vc rfl rfl ?_;rw[C0Q];simp only[mOp]at hm;rw[hm];exact⟨rfl,rfl⟩
 case buildSlice bt n ps=>
  obtain⟨ps⟩:=ps;refine vc rfl rfl ?_;have e:=@B7I C h M (λv2 m=>v2=v/\m=M') ρ d t p af g bt n ps;rw[e];simp only[mOp]at hm;split
  .rename_i hv;rw[Z0d hv]at hm;rw[hm];exact⟨rfl,rfl⟩
  .rename_i hv;rw[Z0c hv]at hm;simp only[Z0j,Z0f]at hm;obtain⟨u,hu,rfl,rfl⟩:=hm;rw[hu];exact⟨rfl,rfl⟩
 case build bt ps=>
  simp only[mOp]at hm;split at hm
  .rename_i u hu;simp only[Z0b,Z0f]at hm;obtain⟨rfl,rfl⟩:=hm;have:A0E C h ⟨d,.build bt ps,t,p,af,g⟩ ρ=some u:=A8A (by simpa only[pOp]using hu);simp only[A0Q,this]
  .exact hm
 case indexAddr it x i=>
  simp only[mOp]at hm;split at hm
  .rename_i u hu;simp only[Z0b,Z0f]at hm;obtain⟨rfl,rfl⟩:=hm;have:A0E C h ⟨d,.indexAddr it x i,t,p,af,g⟩ ρ=some u:=A8A (by simpa only[pOp]using hu);simp only[A0Q,this]
  .exact hm
 case slice st x lo hi mx=>
  simp only[mOp]at hm;split at hm
  .rename_i u hu;simp only[Z0b,Z0f]at hm;obtain⟨rfl,rfl⟩:=hm;have:A0E C h ⟨d,.slice st x lo hi mx,t,p,af,g⟩ ρ=some u:=A8A (by simpa only[pOp]using hu);simp only[A0Q,this]
  .exact hm
 case convert a b x=>
  simp only[mOp]at hm;split at hm
  .rename_i u hu;simp only[Z0b,Z0f]at hm;obtain⟨rfl,rfl⟩:=hm;have:A0E C h ⟨d,.convert a b x,t,p,af,g⟩ ρ=some u:=hu;simp only[A0Q,this]
  .exact hm
 case range rt x=>simp only[mOp]at hm;exact hm
 case next x b=>
  cases b with
  |false=>exact f hm
  |true=>simp only[mOp]at hm;exact hm
 case call c=>
  obtain⟨callee,args,ts⟩:=c;cases callee with
  |builtin b=>
   cases b<;>first|exact f hm|exact hm|skip
   case len=>
    simp only[mOp]at hm;split at hm;(case h_2=>simp at hm);rename_i x t' ha ht;(have j:args=#[x]:=by apply Z1N;simpa using ha);(have q:ts=#[t']:=by apply Z1N;simpa using ht);subst j;subst q;simp only[Z0j,Z0f]at hm;obtain⟨n,hn,rfl,rfl⟩:=hm;simp only[A0Q,A0E,A8K,Z0s,Z2c];cases hl:A2v C.P t' (ρ x)with
    |none=>rw[hl]at hn;simp only[Z3e]at hn;simp[hl,hn,A1u,A1p,A3u,goInt]
    |some n'=>rw[hl]at hn;simp only[Option.some_or,Z0b]at hn;subst hn;simp[hl,goInt]
   case copy=>simp only[mOp]at hm;split at hm;(case h_2=>simp at hm);rename_i x y t' u ha ht;(have j:args=#[x,y]:=by apply Z1N;simpa using ha);(have q:ts=#[t',u]:=by apply Z1N;simpa using ht);subst j;subst q;simp only[A0Q,A0E,A8K,Z0s,Z2c];simp[A1u,A1p,A3u,hm]
  |_=>exact f hm
def B1L(P:Program)(op:BinOp)(t:TypeId)(b o b2 o2:Nat):Option Bool:=match P.underlying t with
 |some (.pointer e)=>match A1t P e with
  |some n=>if n=0 then none else if b=b2 then match op with
   |.eql=>some (o==o2)
   |.neq=>some (!(o==o2))
   |_=>none
   else none
  |none=>none
 |_=>none
def C8k(P:Program)(op:BinOp)(t:TypeId)(x y:AV)(f:AV->Prop):Prop:=match x,y with
 |.ptr b o,.ptr b2 o2=>A0U ((B1L P op t b o b2 o2).map λb=>.val (.bool b)) f
 |_,_=>B4W P op t x y f
def D5P{P}{op}{t:TypeId}{b o b2 o2}:A1z P op t (.ptr b o) (.ptr b2 o2)=none:=by
 have h0:A2O P op t (.ptr b o) (.ptr b2 o2)=none:=by simp[A2O,A3F]
 simp only[A1z,h0,A4s]
def C1C{P}{t:TypeId}{cx}{b o b2 o2}:B1p P t cx (.ptr b o) (.ptr b2 o2)=B1L P .eql t b o b2 o2:=by
 unfold B1p B1L;cases P.underlying t with
 |none=>rfl
 |some u=>cases u<;>rfl
def D6C{P}{op}{t:TypeId}{x y}{f:AV->Prop}(h:C8k P op t x y f):(∃b o b2 o2,x=.ptr b o/\y=.ptr b2 o2/\A0U ((B1L P op t b o b2 o2).map λb=>.val (.bool b)) f)\/B4W P op t x y f:=by
 unfold C8k at h;split at h
 .exact .inl ⟨_,_,_,_,rfl,rfl,h⟩
 .exact .inr h
def C9v(C:Ctx)(h:A2r)(o:Oper)(K:AV->Mem->Prop)(ρ:Operand->AV)(M:Mem):Prop:=match o.op with
 |.binOp op t x y _=>C8k C.P op t (ρ x) (ρ y) (λv=>K v M)
 |.call {callee:=.value f,args,..}=>D4g C (ρ f) (args.toList.map ρ) M K
 |.call {callee:=.builtin .append,args,argTypes}=>match args.toList,argTypes.toList with
  |[s,x],[t,u]=>B4u C (A2y h.own o.dst) (A2y h.vec o.dst) t u (ρ s) (ρ x) M K
  |_,_=>False
 |_=>A0U (mOp C h o ρ M) (λr=>K r.1 r.2)
def D0q{C}{h}{o}{K:AV->Mem->Prop}{ρ:Operand->AV}{M}(hw:C9v C h o K ρ M):A4D C h o K ρ M:=by
 have i:(∀f args ts,o.op≠.call {callee:=.value f,args:=args,argTypes:=ts})->(∀args ts,o.op≠.call {callee:=.builtin .append,args:=args,argTypes:=ts})->A0U (mOp C h o ρ M) (λr=>K r.1 r.2)->A4D C h o K ρ M:=by
  intro h1 h2 hs;cases hm:mOp C h o ρ M with
  |none=>rw[hm]at hs;exact hs.elim
  |some r=>
   obtain⟨v,M'⟩:=r;rw[hm]at hs;have he:=C6g hm;unfold A4D;split
   .rename_i heq;exact absurd heq (by intro e;exact h1 _ _ _ e)
   .rename_i heq;exact absurd heq (by intro e;exact h2 _ _ e)
   .rw[he];exact hs
 obtain⟨d,op,t,p,af,g⟩:=o;unfold C9v at hw;simp only at hw;split at hw
 .rename_i bop bt x y yt;rw[C0d];rcases D6C hw with⟨b,o,b2,o2,hx,hy,hw⟩|hw
  .unfold C7P;have en:A1z C.P bop bt (.ptr b o) (.ptr b2 o2)=none:=D5P;(have e1:A0Y C ⟨d,.binOp bop bt x y yt,t,p,af,g⟩ ρ=(B1L C.P bop bt b o b2 o2).map λb=>.val (.bool b):=by cases bop;(case eql=>show(B1p C.P bt (B0C y) (ρ x) (ρ y)).map _=_;rw[hx,hy,C1C]);(case neq=>show(B1p C.P bt (B0C y) (ρ x) (ρ y)).map _=_;rw[hx,hy,C1C];unfold B1L;split<;>(try split)<;>(try split)<;>(try split)<;>rfl);all_goals (unfold B1L;split<;>(try split)<;>(try split)<;>(try split)<;>rfl));rw[hx,hy,en,e1];simp only[Z3e];cases hp:B1L C.P bop bt b o b2 o2 with
   |none=>rw[hp]at hw;exact hw.elim
   |some r=>rw[hp]at hw;exact hw
  unfold B4W at hw;unfold C7P;cases hb:A1z C.P bop bt (ρ x) (ρ y)with
  |some v=>rw[hb]at hw;exact hw
  |none=>
   rw[hb]at hw;simp only[Z3e];cases he:A0Y C ⟨d,.binOp bop bt x y yt,t,p,af,g⟩ ρ with
   |none=>exact hw
   |some v=>
    (have:∃b,v=.val (.bool b):=by cases bop<;>first|(simp[A0Y]at he;done)|(simp only[A0Y,Z0j]at he;obtain⟨b,_,rfl⟩:=he;exact⟨_,rfl⟩));obtain⟨b,rfl⟩:=this
    exact hw.2 b
 .rename_i f args ts;exact hw
 .rename_i args ts;split at hw;case h_2=>exact hw.elim
  rename_i s x t' u ha ht;have a:args=#[s,x]:=by apply Z1N;simpa using ha
  have c:ts=#[t',u]:=by apply Z1N;simpa using ht
  subst a;subst c;rw[C7u];exact hw
 .rename_i hne0 hne1 hne2;exact i hne1 hne2 hw
def B4M(C:Ctx)(h:A2r)(ops:Array Oper):List Oper->(Env->Mem->Prop)->Env->Mem->Prop
 |[],K,T,M=>K T M
 |o::rest,K,T,M=>A2B ops o T (C9v C h o (λv M'=>B4M C h ops rest K (T.put o.dst v) M') (T.ev C) M) (B4M C h ops rest K (T.put o.dst (.val undef)) M)
def B2m{C}{h}{ops}{K:Env->Mem->Prop}:∀(l:List Oper) (T:Env) (M:Mem),B4M C h ops l K T M->A9U C h ops l K T M
 |[],T,M,hw=>hw
 |o::rest,T,M,hw=>by simp only[B4M]at hw;simp only[A9U];exact A5y (λh1=>D3B (λv m h2=>B2m rest _ _ h2) (D0q h1)) (λh1=>B2m rest _ _ h1) hw
def A5E(C:Ctx)(h:A2r)(N:Nat):Code->(Exit->Env->Mem->Prop)->Env->Mem->Prop
 |.skip,Q,T,M=>Q .normal T M
 |.label _,Q,T,M=>Q .normal T M
 |.region id ops draw,Q,T,M=>if draw=true then AWp C N (.region id ops true) Q T M else B4M C h ops ops.toList (λT M=>Q .normal T M) T M
 |.seq x y,Q,T,M=>A5E C h N x (B6H (A5E C h N y Q) Q) T M
 |.cond c x y,Q,T,M=>D0r (T.ev C c) (A5E C h N x Q T M) (A5E C h N y Q T M)
 |.block id c,Q,T,M=>A5E C h N c (A9W id Q) T M
 |.exit id,Q,T,M=>Q (.exit id) T M
 |.ret,Q,T,M=>Q .ret T M
 |c,Q,T,M=>AWp C N c Q T M
def A3l{C}{h}{N}:∀(c:Code) (Q:Exit->Env->Mem->Prop) (T:Env) (M:Mem),A1W N c=true->A5E C h N c Q T M->AWp C N c Q T M
 |.skip,Q,T,M,_,hv=>C6G hv
 |.label _,Q,T,M,_,hv=>C2Q hv
 |.region id ops draw,Q,T,M,hin,hv=>by
  simp only[A5E]at hv;cases draw with
  |true=>simpa using hv
  |false=>exact C0y (by simpa[A1W]using hin) (B2m _ _ _ (by simpa using hv))
 |.seq x y,Q,T,M,hin,hv=>by
  simp only[A1W,Z0g]at hin;simp only[A5E]at hv;refine B7N ((A3l x _ T M hin.1 hv).mono ?_);intro e T' M' hq;cases e with
  |normal=>exact A3l y Q T' M' hin.2 hq
  |_=>exact hq
 |.cond c x y,Q,T,M,hin,hv=>by
  simp only[A1W,Z0g]at hin;simp only[A5E,D0r]at hv;split at hv
  .rename_i b hb;refine C6V hin.1.1 hb (λe=>?_) (λe=>?_)
   .rw[Z0d e]at hv;exact A3l x Q T M hin.1.2 hv
   .rw[Z0c (by simp[e])]at hv;exact A3l y Q T M hin.2 hv
  .exact hv.elim
 |.block id c,Q,T,M,hin,hv=>C3q (A3l c _ T M (by simpa[A1W]using hin) hv)
 |.exit id,Q,T,M,_,hv=>C6Y hv
 |.ret,Q,T,M,_,hv=>D0z hv
 |.loop c,Q,T,M,_,hv=>hv
 |.rangeFunc _ _ _ _,Q,T,M,_,hv=>hv
 |.scope _,Q,T,M,_,hv=>hv
 |.goto _,Q,T,M,_,hv=>hv
 |.refuse _,Q,T,M,_,hv=>hv
def D4M(C:Ctx)(f:AV)(args:List AV)(M:Mem)(K:AV->Mem->Prop):Prop:=match f with
 |.func (.func g) first captured=>∃r,(∀M,A4A C g (first++args++captured) M (λv M'=>v=r/\M'=M))/\K r M
 |_=>False
def D3P(C:Ctx)(f:AV)(args:List AV)(M:Mem)(K:AV->Mem->Prop):Prop:=match f with
 |.func (.func g) first captured=>∃r M1,A4A C g (first++args++captured) M (λv M'=>v=r/\M'=M1)/\K r M1
 |_=>False
def D4B(P:Program)(n:Nat)(e:TypeId)(x i:AV):Option AV:=match x,i with
 |.agg cs,.val (.int _ i)=>match A1t P e with
  |some sz=>if 0<=i/\i<n/\i.toNat*sz+sz<=cs.length then A1x P e (cs.drop (i.toNat*sz))else none
  |none=>none
 |_,_=>none
def C8I(P:Program)(u:Option TypeDesc)(x i:AV):Option AV:=match u with
 |some (.array n e)=>D4B P n e x i
 |u=>B5x u x i
@[simp] def E3c{P:Program}{x i:AV}:C8I P (some .string) x i=B5x (some .string) x i:=rfl
def D1X{C:Ctx}{h:A2r}{d:Option Tmp}{xt t:TypeId}{x i:Operand}{p:String}{af:Array Edge}{g:Option (Nat×Bool)}{ρ:Operand->AV}{v:AV}(hv:C8I C.P (C.P.underlying xt) (ρ x) (ρ i)=some v):(A0E C h ⟨d,.index xt x i,t,p,af,g⟩ ρ).or (A0Y C ⟨d,.index xt x i,t,p,af,g⟩ ρ)=some v:=by
 unfold C8I at hv;split at hv
 .rename_i n e hu;have e1:A0E C h ⟨d,.index xt x i,t,p,af,g⟩ ρ=none:=by simp[A0E,hu]
  rw[e1,Z3e];simp only[A0Y,C5X,hu];unfold D4B at hv;cases hx:ρ x<;>rw[hx]at hv<;>first|(simp at hv;done)|skip
  cases hi:ρ i<;>rw[hi]at hv<;>first|(simp at hv;done)|skip
  rename_i q;cases q<;>first|(simp at hv;done)|exact hv
 .have e1:A0E C h ⟨d,.index xt x i,t,p,af,g⟩ ρ=some v:=A8A (by simpa only[pOp]using hv);rw[e1];rfl
def wsD(C:Ctx)(h:A2r)(cls rob:Nat)(o:Oper)(ρ:Operand->AV)(M:Mem)(K:AV->Mem->Prop):Prop:=match cls with
 |0=>match o.op with
  |.call {callee:=.value f,args,..}=>D4M C (ρ f) (args.toList.map ρ) M K
  |.call {callee:=.builtin .append,..}=>False
  |.alloc _=>False
  |.index t x i=>A0U (C8I C.P (C.P.underlying t) (ρ x) (ρ i)) (λv=>K v M)
  |_=>A0U (pOp C h o ρ) (λv=>K v M)
 |1=>match o.op with
  |.load t x=>A1a o ρ=some rob/\A0U (A1m C.P t M (ρ x)) (λv=>K v M)
  |.lookup t m k ok=>A1a o ρ=some rob/\A0U (A1S C.P t M (ρ m) (ρ k) ok) (λv=>K v M)
  |_=>False
 |2=>match o.op with
  |.call {callee:=.value f,args,..}=>D3P C (ρ f) (args.toList.map ρ) M K
  |.call {callee:=.builtin .append,args,argTypes}=>match args.toList,argTypes.toList with
   |[s,x],[t,u]=>B4u C (A2y h.own o.dst) (A2y h.vec o.dst) t u (ρ s) (ρ x) M K
   |_,_=>False
  |_=>A0U (mOp C h o ρ M) (λr=>K r.1 r.2)
 |_=>False
def B7f{f:Mem->Option (AV×Mem)}{M}{K:AV->Mem->Prop}(h:A0U (f M) (λr=>K r.1 r.2)):A7V false f M K:=by
 unfold A7V;cases hf:f M with
 |none=>rw[hf]at h;exact h.elim
 |some r=>rw[hf]at h;exact⟨λe=>by simp at e,h⟩
def B2I{C:Ctx}{h:A2r}{cls rob:Nat}{o:Oper}{ρ:Operand->AV}{M:Mem}{K:AV->Mem->Prop}(hw:wsD C h cls rob o ρ M K):dOp C h false cls rob 0 o ρ M K:=by
 have a:∀c,(∀f args ts,o.op≠.call {callee:=.value f,args:=args,argTypes:=ts})->(∀args ts,o.op≠.call {callee:=.builtin .append,args:=args,argTypes:=ts})->(∀e,o.op≠.alloc e)->
  (if c=0 then A0U ((A0E C h o ρ).or (A0Y C o ρ)) (λv=>K v M)else if c=1 then A1a o ρ=some rob/\A0U (A4y C o ρ M) (λv=>K v M)else if c=5 then A8I o ρ=some 0/\A0U (A0Q C h o ρ M) (λr=>K r.1 r.2)else c=2/\A7V false (A0Q C h o ρ) M K)->dOp C h false c rob 0 o ρ M K:=by
  intro c h1 h2 h3 hp
  unfold dOp
  split
  .rename_i heq;exact absurd heq (by intro e;exact h1 _ _ _ e)
  .rename_i heq;exact absurd heq (by intro e;exact h2 _ _ e)
  .rename_i heq;exact absurd heq (by intro e;exact h3 _ e)
  .exact hp
 unfold wsD at hw;split at hw
 .split at hw
  .rename_i f args ts hop;obtain⟨d,op,t,p,af,g⟩:=o;simp only at hop;subst hop;simp only[dOp];unfold D4M at hw;split at hw
   ·(rename_i g' first captured hf);simp only[hf,Z0M]
    exact hw
   .exact hw.elim
  .exact hw.elim
  .exact hw.elim
  .rename_i xt x i hop;refine a 0 (by simp[hop]) (by simp[hop]) (by simp[hop]) ?_;rw[Z0d rfl];obtain⟨d,op,t,p,af,g⟩:=o;simp only at hop;subst hop;cases hv:C8I C.P (C.P.underlying xt) (ρ x) (ρ i)with
   |none=>rw[hv]at hw;exact hw.elim
   |some v=>rw[hv]at hw;rw[D1X hv];exact hw
  .rename_i h1 h2 h3 h4;refine a 0 (λf args ts e=>h1 _ _ _ e) (λargs ts e=>h2 _ _ e) (λe he=>h3 _ he) ?_;rw[Z0d rfl];cases hp:pOp C h o ρ with
   |none=>rw[hp]at hw;exact hw.elim
   |some v=>rw[hp]at hw;rw[A8A hp];exact hw
 .split at hw
  .rename_i lt x hop;refine a 1 (by simp[hop]) (by simp[hop]) (by simp[hop]) ?_;rw[Z0c (by omega),Z0d rfl];refine⟨hw.1,?_⟩;simp only[A4y,hop];exact hw.2
  .rename_i lt m k ok hop;refine a 1 (by simp[hop]) (by simp[hop]) (by simp[hop]) ?_;rw[Z0c (by omega),Z0d rfl];refine⟨hw.1,?_⟩;simp only[A4y,hop];exact hw.2
  .exact hw.elim
 .split at hw
  .rename_i f args ts hop;obtain⟨d,op,t,p,af,g⟩:=o;simp only at hop;subst hop;simp only[dOp];unfold D3P at hw;split at hw
   ·(rename_i g' first captured hf);simp only[hf]
    rw[Z0c (by simp)];obtain⟨r,M1,q1,q2⟩:=hw;exact⟨r,M1,by trivial,q1,λe=>by simp at e,q2⟩
   .exact hw.elim
  .rename_i args ts hop;obtain⟨d,op,t,p,af,g⟩:=o;simp only at hop;subst hop;simp only[dOp];split at hw;(case h_2=>exact hw.elim);rename_i s x t' u ha ht;rw[ha,ht];obtain⟨e,sz,bytes,q1,q2⟩:=hw;exact⟨e,sz,bytes,q1,by trivial,B7f q2⟩
  .rename_i h1 h2;have hm:A7V false (A0Q C h o ρ) M K:=by
    refine B7f ?_;cases hm:mOp C h o ρ M with
    |none=>rw[hm]at hw;exact hw.elim
    |some r=>rw[hm]at hw;rw[C6g (M':=r.2) (v:=r.1) hm];exact hw
   by_cases ha:∃e,o.op=.alloc e
   .obtain⟨e,he⟩:=ha;obtain⟨d,op,t,p,af,g⟩:=o;simp only at he;subst he;simp only[dOp];rw[Z0c (by simp)];exact⟨by trivial,hm⟩
   .refine a 2 (λf args ts e=>h1 _ _ _ e) (λargs ts e=>h2 _ _ e) (λe he=>ha ⟨e,he⟩) ?_;rw[Z0c (by omega),Z0c (by omega)];exact⟨rfl,hm⟩
 .exact hw.elim
def B6r(C:Ctx)(h:A2r)(ops:Array Oper)(cls rob:Nat->Nat):Nat->List Oper->Env->Mem->(Env->Mem->Prop)->Prop
 |_,[],T,M,K=>K T M
 |k,o::rest,T,M,K=>A2B ops o T (wsD C h (cls k) (rob k) o (T.ev C) M (λv M'=>B6r C h ops cls rob (k+1) rest (T.put o.dst v) M' K)) (B6r C h ops cls rob (k+1) rest (T.put o.dst (.val undef)) M K)
def A6o(cls rob:Nat->Nat):B1I:={cls:=λk=>if cls k=5 then 3 else cls k,rob:=rob}
def B2R{C}{h}{c r}{o}{ρ:Operand->AV}{M}{K K':AV->Mem->Prop}(hk:∀v m,K v m->K' v m)(hv:dOp C h false c r 0 o ρ M K):dOp C h false c r 0 o ρ M K':=by
 have on:∀{α:Type} (o:Option α) (f g:α->Prop),(∀a,f a->g a)->A0U o f->A0U o g:=by
  intro α o f g d ho;cases o with
  |none=>exact ho
  |some a=>exact d a ho
 have b:∀(fl:Bool) (f:Mem->Option (AV×Mem)) (M:Mem) (K K':AV->Mem->Prop),(∀v m,K v m->K' v m)->A7V fl f M K->A7V fl f M K':=by
  intro fl f M K K' hk h;unfold A7V at h|-;split at h
  .exact⟨h.1,hk _ _ h.2⟩
  .exact h
 unfold dOp at hv|-;split at hv
 .split at hv
  .split at hv
   .rename_i e;rw[Z0d e];obtain⟨r,q1,q2⟩:=hv;exact⟨r,q1,hk _ _ q2⟩
   .rename_i e;rw[Z0c e];obtain⟨r,M1,q1,q2,q3,q4⟩:=hv;exact⟨r,M1,q1,q2,q3,hk _ _ q4⟩
  .exact hv.elim
 .split at hv
  .obtain⟨e,sz,bytes,h1,i,h2⟩:=hv;exact⟨e,sz,bytes,h1,i,b _ _ _ _ _ hk h2⟩
  .exact hv.elim
 .split at hv
  .rename_i e;rw[Z0d e];exact⟨hv.1,hv.2.1,on _ _ _ (λa h=>hk _ _ h) hv.2.2⟩
  .rename_i e;rw[Z0c e];exact⟨hv.1,b _ _ _ _ _ hk hv.2⟩
 .split at hv
  .rename_i e;rw[Z0d e];exact on _ _ _ (λa h=>hk _ _ h) hv
  .rename_i e;rw[Z0c e];split at hv
   .rename_i e1;rw[Z0d e1];exact⟨hv.1,on _ _ _ (λa h=>hk _ _ h) hv.2⟩
   .rename_i e1;rw[Z0c e1];split at hv
    .rename_i e2;rw[Z0d e2];exact⟨hv.1,on _ _ _ (λa h=>hk _ _ h) hv.2⟩
    .rename_i e2;rw[Z0c e2];exact⟨hv.1,b _ _ _ _ _ hk hv.2⟩
def B1f{C}{h}{ops}{cls rob:Nat->Nat}{K:Env->Mem->Prop}:∀(l:List Oper) (k:Nat) (T:Env) (M:Mem),B6r C h ops cls rob k l T M K->A1X C h ops (A6o cls rob) k l T M K
 |[],k,T,M,hw=>hw
 |o::rest,k,T,M,hw=>by
  simp only[B6r]at hw;simp only[A1X];exact A5y (λh1=>B2R (λv m h2=>⟨λi _ ha=>by simp[A6o]at ha,B1f rest _ _ _ h2⟩) (by
   have hd:=B2I h1;by_cases e:cls k=5
   .rw[e]at h1;exact h1.elim
   .simpa only[A6o,Z0c e]using hd)) (λh1=>B1f rest _ _ _ h1) hw
def C8E{C}{N}{h}{id}{ops}{Q:Exit->Env->Mem->Prop}{T}{M}(a:C.P.follows .mixedOrders=true)(cls rob:Nat->Nat)(d:A2q N ops ops.toList=true)(b:A4K ops (A6o cls λ_=>0)=true)
 (hr:B6r C h ops cls rob 0 ops.toList T M (λT M=>Q .normal T M)):AWp C N (.region id ops true) Q T M:=by
 have h4:∀i o,ops[i]?=some o->(A6o cls rob).cls i≠4:=by intro i o ho e;have:=(A5d b ho).2.1 e;simp[A6o]at this
 have h5:∀k,(A6o cls rob).cls k≠5:=by intro k;simp only[A6o];split<;>omega
 have c:A4K ops (A6o cls rob)=true:=by
  have hp:∀i,i<ops.size->A6m ((A6o cls rob).cls i)=false:=λi hi=>by
   cases e:A6m ((A6o cls rob).cls i)with
   |false=>rfl
   |true=>
    rcases A8h.1 e with h|h
    .exact absurd h (h4 i _ (Z0R hi))
    .exact absurd h (h5 i)
  have:∀i j,i<ops.size->j<ops.size->A2e (A6o cls rob) j i=A2e (A6o cls λ_=>0) j i:=by intro i j hi hj;have b1:=hp i hi;have b2:=hp j hj;have c1:(A6o cls λ_=>0).cls=(A6o cls rob).cls:=rfl;have c2:(A6o cls λ_=>0).aff=(A6o cls rob).aff:=rfl;simp only[A2e,c1,c2,b1,b2,Z3f,Z0B,Z3U]
  refine Z0u.2 λi hi=>?_;have h0:=Z0u.1 b i hi;have f:=Z1q.1 hi;cases ho:ops[i]? with
  |none=>rfl
  |some o=>
   rw[ho]at h0;simp only[Z0g]at h0|-;refine⟨h0.1,Z0u.2 λj hj=>?_⟩;have h1:=Z0u.1 h0.2 j hj;have g:=Z1q.1 hj;cases hx:ops[j]? with
   |none=>rfl
   |some x=>rw[hx]at h1;simp only at h1|-;rw[this i j f (by omega)];exact h1
 refine A9M (h:=h) a (A6o cls rob) d c (λk hk hc=>?_) (B1f _ _ _ _ hr)
 exact absurd hc (h4 k _ (Z0R hk))
end Go.Abs
