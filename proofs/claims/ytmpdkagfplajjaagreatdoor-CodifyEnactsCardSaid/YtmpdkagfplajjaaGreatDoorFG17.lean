/- The texts AbsV5, AbsR, AbsR2, AbsR3, AbsR4, AbsR5, AbsZ0, AbsZ1, AbsZ2, AbsZ3, AbsZ4. -/
import Derived.Test.YtmpdkagfplajjaaGreatDoorFG16
import Derived.Laws.Externs
set_option linter.all false
namespace Go.Abs
def D1j:List AV->Mem->Option XR
 |[v],M=>some (v,M,[])
 |_,_=>none
def B0P:List AV->Mem->Option XR
 |[.val (.string s),.val (.int .u8 c)],M=>some (.val (match(List.range s.size).find? λi=>s[i]! ==c.toNat.toUInt8 with
  |some i=>goInt i
  |none=>goInt (-1)),M,[])
 |_,_=>none
section
variable {C:Ctx} {f:FuncId} {fn:Func}
def C6I(hf:C.P.funcs[f]?=some fn)(a:(fn.name== "runtime.NumGoroutine")=false)(hb:fn.body.isNone=true)(hn:Extern.findNext fn=none)(he:Extern.find fn=some Extern.AbiNoEscape.same):∀args M v M1 ws,D1j args M=some (v,M1,ws)->A4d C f args M (λr m=>r=v/\m=M1)/\A9H (D1j args) M v M1 ws:=by
 intro args M v M1 ws h
 unfold D1j at h
 split at h
 case h_2=>simp at h
 rename_i u M
 simp only[Z0a,Z0c]at h
 obtain⟨rfl,rfl,rfl⟩:=h
 refine⟨.inr λG w vs hi hr=>?_,.same λ_ _ _=>rfl⟩
 simp only[A0w]at hr
 obtain⟨y,_,rfl,hy,rfl⟩:=hr
 exact⟨y,w,G,_,_,by rw[run_callFunc_extern hf a hb hn he];rfl,⟨rfl,rfl⟩,.refl _,hi,hy,.refl _⟩
def B2N(hf:C.P.funcs[f]?=some fn)(a:(fn.name== "runtime.NumGoroutine")=false)(hb:fn.body.isNone=true)(hn:Extern.findNext fn=none)(he:Extern.find fn=some Extern.BytealgIndexByte.indexByte):∀args M v M1 ws,B0P args M=some (v,M1,ws)->A4d C f args M (λr m=>r=v/\m=M1)/\A9H (B0P args) M v M1 ws:=by
 intro args M v M1 ws h
 unfold B0P at h
 split at h
 case h_2=>simp at h
 rename_i M s c
 simp only[Z0a,Z0c]at h
 obtain⟨rfl,rfl,rfl⟩:=h
 refine⟨.inr λG w vs hi hr=>?_,.same λ_ _ _=>rfl⟩
 simp only[A0w,Rep]at hr
 obtain⟨y,_,rfl,rfl,y2,_,rfl,rfl,rfl⟩:=hr
 have key:((Extern.BytealgIndexByte.indexByte #[.string s,.int .u8 c]).run C.P w)=.ok (match(List.range s.size).find? λi=>s[i]! ==c.toNat.toUInt8 with
  |some i=>goInt i
  |none=>goInt (-1)) w:=by
  show((match(List.range s.size).find? λi=>s[i]! ==c.toNat.toUInt8 with
   |some i=>pure (goInt i)
   |none=>pure (goInt (-1))):Sem Value).run C.P w=_
  generalize(List.range s.size).find? _=r
  cases r<;>rfl
 have run:(callFunc f #[.string s,.int .u8 c]).run C.P w=.ok (.value (match(List.range s.size).find? λi=>s[i]! ==c.toNat.toUInt8 with
  |some i=>goInt i
  |none=>goInt (-1))) w:=by
  rw[run_callFunc_extern hf a hb hn he,key];rfl
 exact⟨_,w,G,_,_,run,⟨rfl,rfl⟩,.refl _,hi,by simp only[Rep],.refl _⟩
end
def D4m(P:Program)(t:TypeId):AV->Option AV
 |.cptr cs=>A1g P t cs
 |_=>none
@[simp] def D9u{P}{t:TypeId}{cs}:D4m P t (.cptr cs)=A1g P t cs:=rfl
def E3d(imm:Bool)(x:AV):Option AV:=if imm&&x.storable then some (.cptr x.cells)else none
def B5d(u:Option TypeDesc)(x i:AV):Option AV:=match u,x,i with
 |some .string,.val (.string s),.val (.int _ i)=>if 0<=i/\i<s.size then some (.val (.int .u8 (s.data.getD i.toNat 0).toNat))else none
 |_,_,_=>none
def A1c(s:ByteArray)(i:Nat):Int:=(s.data.getD i 0).toNat
@[simp] def E0I{s}{k}{i}:B5d (some .string) (.val (.string s)) (.val (.int k i))=if 0<=i/\i<s.size then some (.val (.int .u8 (A1c s i.toNat)))else none:=rfl
def C3o(P:Program)(f:Option (Nat×TypeId))(x:AV):Option AV:=match f,x with
 |some (k,ft),.agg cs=>if(A1h P ft).any (λn=>decide (k+n<=cs.length))then A1g P ft (cs.drop k)else none
 |_,_=>none
@[simp] def D9k{P}{k}{ft:TypeId}{cs}:C3o P (some (k,ft)) (.agg cs)=if(A1h P ft).any (λn=>decide (k+n<=cs.length))=true then A1g P ft (cs.drop k)else none:=rfl
def D4d:AV->Option AV
 |.val (.int k n)=>some (.val (.int k (k.wrap (0-n))))
 |_=>none
@[simp] def E2d{k}{n}:D4d (.val (.int k n))=some (.val (.int k (k.wrap (0-n)))):=rfl
def pOp(C:Ctx)(h:A2x)(o:Oper)(ρ:Operand->AV):Option AV:=match o.op with
 |.move x=>some (ρ x)
 |.assign x=>some (ρ x)
 |.pick c a b=>B7z (ρ c) (ρ a) (ρ b)
 |.nilCheck x=>B4X (ρ x)
 |.binOp op t x y _=>A1s C.P op t (ρ x) (ρ y)
 |.unOp .not _ x=>C2z (ρ x)
 |.unOp .neg _ x=>D4d (ρ x)
 |.fieldAddr t x f=>A8Y (A1q C.P t f) (ρ x)
 |.field t x f=>C3o C.P (A0O C.P t f) (ρ x)
 |.extract x i=>A7Z (ρ x) i
 |.indexAddr t x i=>A6s ((A0R C.P t).map (A1h C.P)) (ρ x) (ρ i)
 |.index t x i=>B5d (C.P.underlying t) (ρ x) (ρ i)
 |.makeFunc fn f c=>some (.func fn (f.toList.map ρ) (c.toList.map ρ))
 |.slice t x lo hi mx=>A2r C.P t (ρ x) (lo.map ρ) (hi.map ρ) (mx.map ρ)
 |.build t ps=>A0D C.P t (ps.toList.map λp=>(p.1,ρ p.2))
 |.buildSlice t n ps=>if B3L C h t o.dst then none else A0p C.P t n (ps.toList.map λp=>(p.1,ρ p.2))
 |.load t x=>D4m C.P t (ρ x)
 |.box _ x=>E3d (A1V h.imm o.dst) (ρ x)
 |.convert a b x=>A7e C.P a b (ρ x)
 |.call {callee:=.builtin .len,args,argTypes}=>match args.toList,argTypes.toList with
  |[x],[t]=>(A1Z C.P t (ρ x)).map λ(n:Nat)=>AV.val (.int .i64 n)
  |_,_=>none
 |.call {callee:=.builtin .max,args,argTypes}=>match args.toList with
  |[x,y]=>A7L true (ρ x) (ρ y)
  |_=>none
 |.call {callee:=.builtin .min,args,argTypes}=>match args.toList with
  |[x,y]=>A7L false (ρ x) (ρ y)
  |_=>none
 |_=>none
def A8u{C}{h}{o}{ρ:Operand->AV}{v}(hp:pOp C h o ρ=some v):A0q C h o ρ=some v:=by
 obtain⟨d,op,t,p,af,g⟩:=o;cases op<;>first|exact hp|(simp[pOp]at hp;done)|skip
 case unOp op t x=>cases op<;>first|exact hp|(simp[pOp]at hp;done)
 case indexAddr t x i=>
  have e:A0q C h ⟨d,.indexAddr t x i,t,p,af,g⟩ ρ=A6s ((A0R C.P t).map (A1h C.P)) (ρ x) (ρ i):=by
   simp only[A0q,A6s];cases A0R C.P t with
   |none=>rfl
   |some e=>cases ρ x<;>first|rfl|(cases ρ i<;>first|rfl|(rename_i v;cases v<;>rfl))
  exact e.trans hp
 case call c=>
  obtain⟨callee,args,ts⟩:=c;cases callee with
  |builtin b=>
   cases b<;>first|(simp[pOp]at hp;done)|skip
   (case len=>simp only[pOp]at hp;simp only[A0q];split at hp;(case h_2=>simp at hp);rename_i x t' ha ht;(have a:ts=#[t']:=by apply Z1B;simpa using ht);subst a;rw[ha];exact hp);case max=>simp only[pOp]at hp;simp only[A0q];split at hp;(case h_2=>simp at hp);rename_i x y ha;rw[ha];exact hp
   case min=>simp only[pOp]at hp;simp only[A0q];split at hp;(case h_2=>simp at hp);rename_i x y ha;rw[ha];exact hp
  |_=>simp[pOp]at hp
def mOp(C:Ctx)(h:A2x)(o:Oper)(ρ:Operand->AV)(M:Mem):Option (AV×Mem):=match o.op with
 |.load t x=>(A1D C.P t M (ρ x)).map λv=>(v,M)
 |.store t a x=>(A0n (A1h C.P t) M (ρ a) (ρ x)).map λM'=>(.val undef,M')
 |.alloc e=>A0m C.P e M
 |.box e x=>C1J (A1V h.imm o.dst) e M (ρ x)
 |.makeMap _ none=>some (.mapr M.length,M++[.map [] 0])
 |.lookup t m k ok=>(A1J C.P t M (ρ m) (ρ k) ok).map λv=>(v,M)
 |.mapUpdate t m k x=>(A1u C.P t M (ρ m) (ρ k) (ρ x)).map λM'=>(.val undef,M')
 |.insert t m k x=>(A1u C.P t M (ρ m) (ρ k) (ρ x)).map λM'=>(.val undef,M')
 |.makeSlice t l c=>A4r C.P t (ρ l) (ρ c) M
 |.buildSlice t n ps=>if B3L C h t o.dst=true then A1C C.P t n (ps.toList.map λp=>(p.1,ρ p.2)) M else(A0p C.P t n (ps.toList.map λp=>(p.1,ρ p.2))).map λv=>(v,M)
 |.range t x=>A6z C.P t (ρ x) M
 |.next x true=>A5D (ρ x) M
 |.call {callee:=.builtin .len,args,argTypes}=>match args.toList,argTypes.toList with
  |[x],[t]=>((A1Z C.P t (ρ x)).or (A3d C.P t M (ρ x))).map λ(n:Nat)=>(AV.val (.int .i64 n),M)
  |_,_=>none
 |.call {callee:=.builtin .copy,args,argTypes}=>match args.toList,argTypes.toList with
  |[x,y],[t,u]=>A5H C.P t u M (ρ x) (ρ y)
  |_,_=>none
 |.convert a b x=>match A7e C.P a b (ρ x)with
  |some v=>some (v,M)
  |none=>A0A C h o ρ M
 |.build t ps=>match A0D C.P t (ps.toList.map λp=>(p.1,ρ p.2))with
  |some v=>some (v,M)
  |none=>A0A C h o ρ M
 |.indexAddr t x i=>match A6s ((A0R C.P t).map (A1h C.P)) (ρ x) (ρ i)with
  |some v=>some (v,M)
  |none=>A0A C h o ρ M
 |.slice t x lo hi mx=>match A2r C.P t (ρ x) (lo.map ρ) (hi.map ρ) (mx.map ρ)with
  |some v=>some (v,M)
  |none=>A0A C h o ρ M
 |.call {callee:=.builtin .clear,..}=>A0A C h o ρ M
 |.call {callee:=.builtin .unsafeSliceData,..}=>A0A C h o ρ M
 |.call {callee:=.builtin .unsafeString,..}=>A0A C h o ρ M
 |_=>(pOp C h o ρ).map λv=>(v,M)
def C5J{C:Ctx}{h:A2x}{o:Oper}{ρ:Operand->AV}{M M':Mem}{v:AV}(hm:mOp C h o ρ M=some (v,M')):A0A C h o ρ M=some (v,M'):=by
 have f:(pOp C h o ρ).map (λv=>(v,M))=some (v,M')->A0A C h o ρ M=some (v,M'):=by intro hp;simp only[Z0i,Z0c]at hp;obtain⟨u,hu,rfl,rfl⟩:=hp;simp only[A0A,A8u hu]
 have vc:B5T o.op=false->A9Y C o ρ=false->A4z C h o (λv2 m=>v2=v/\m=M') ρ M->A0A C h o ρ M=some (v,M'):=by
  intro h1 h2 h3;obtain⟨d,op,t,p,af,g⟩:=o;rw[A4a h1 h2]at h3;cases he:A0A C h ⟨d,op,t,p,af,g⟩ ρ M with
  |none=>rw[he]at h3;exact h3.elim
  |some r=>rw[he]at h3;obtain⟨a,b⟩:=r;simp only[C4O]at h3;rw[h3.1,h3.2]
 obtain⟨d,op,t,p,af,g⟩:=o;cases op<;>first|exact f hm|skip
 case load lt x=>refine vc rfl rfl ?_;rw[C1H];simp only[mOp,Z0i,Z0c]at hm;obtain⟨u,hu,rfl,rfl⟩:=hm;rw[hu];exact⟨rfl,rfl⟩
 case store lt x y=>refine vc rfl rfl ?_;rw[C9F];simp only[mOp,Z0i,Z0c]at hm;obtain⟨u,hu,rfl,rfl⟩:=hm;rw[hu];exact⟨rfl,rfl⟩
 case alloc e=>refine vc rfl rfl ?_;rw[C9b];simp only[mOp]at hm;rw[hm];exact⟨rfl,rfl⟩
 case box e x=>refine vc rfl rfl ?_;rw[D5J];simp only[mOp]at hm;rw[hm];exact⟨rfl,rfl⟩
 case makeMap mt r=>
  cases r with
  |some r=>exact f hm
  |none=>refine vc rfl rfl ?_;rw[C4b];simp only[mOp,Z0a,Z0c]at hm;exact hm
 case lookup mt m k ok=>refine vc rfl rfl ?_;rw[B6B];simp only[mOp,Z0i,Z0c]at hm;obtain⟨u,hu,rfl,rfl⟩:=hm;rw[hu];exact⟨rfl,rfl⟩
 case mapUpdate mt m k x=>refine vc rfl rfl ?_;rw[B8g];simp only[mOp,Z0i,Z0c]at hm;obtain⟨u,hu,rfl,rfl⟩:=hm;rw[hu];exact⟨rfl,rfl⟩
 case insert mt m k x=>refine vc rfl rfl ?_;rw[C4K];simp only[mOp,Z0i,Z0c]at hm;obtain⟨u,hu,rfl,rfl⟩:=hm;rw[hu];exact⟨rfl,rfl⟩
 case makeSlice st l c=>refine vc rfl rfl ?_;rw[C0i];simp only[mOp]at hm;rw[hm];exact⟨rfl,rfl⟩
 case buildSlice bt n ps=>
  obtain⟨ps⟩:=ps;refine vc rfl rfl ?_;have e:=@B7h C h M (λv2 m=>v2=v/\m=M') ρ d t p af g bt n ps;rw[e];simp only[mOp]at hm;split
  .rename_i hv;rw[Z0d hv]at hm;rw[hm];exact⟨rfl,rfl⟩
  .rename_i hv;rw[Z0e hv]at hm;simp only[Z0i,Z0c]at hm;obtain⟨u,hu,rfl,rfl⟩:=hm;rw[hu];exact⟨rfl,rfl⟩
 case build bt ps=>
  simp only[mOp]at hm;split at hm
  .rename_i u hu;simp only[Z0a,Z0c]at hm;obtain⟨rfl,rfl⟩:=hm;have:A0q C h ⟨d,.build bt ps,t,p,af,g⟩ ρ=some u:=A8u (by simpa only[pOp]using hu);simp only[A0A,this]
  .exact hm
 case indexAddr it x i=>
  simp only[mOp]at hm;split at hm
  .rename_i u hu;simp only[Z0a,Z0c]at hm;obtain⟨rfl,rfl⟩:=hm;have:A0q C h ⟨d,.indexAddr it x i,t,p,af,g⟩ ρ=some u:=A8u (by simpa only[pOp]using hu);simp only[A0A,this]
  .exact hm
 case slice st x lo hi mx=>
  simp only[mOp]at hm;split at hm
  .rename_i u hu;simp only[Z0a,Z0c]at hm;obtain⟨rfl,rfl⟩:=hm;have:A0q C h ⟨d,.slice st x lo hi mx,t,p,af,g⟩ ρ=some u:=A8u (by simpa only[pOp]using hu);simp only[A0A,this]
  .exact hm
 case convert a b x=>
  simp only[mOp]at hm;split at hm
  .rename_i u hu;simp only[Z0a,Z0c]at hm;obtain⟨rfl,rfl⟩:=hm;have:A0q C h ⟨d,.convert a b x,t,p,af,g⟩ ρ=some u:=hu;simp only[A0A,this]
  .exact hm
 case range rt x=>simp only[mOp]at hm;exact hm
 case next x b=>
  cases b with
  |false=>exact f hm
  |true=>simp only[mOp]at hm;exact hm
 case call c=>
  obtain⟨callee,args,ts⟩:=c;cases callee with
  |builtin b=>
   cases b<;>first|exact f hm|exact hm|skip
   case len=>
    simp only[mOp]at hm;split at hm;(case h_2=>simp at hm);rename_i x t' ha ht;(have j:args=#[x]:=by apply Z1B;simpa using ha);(have q:ts=#[t']:=by apply Z1B;simpa using ht);subst j;subst q;simp only[Z0i,Z0c]at hm;obtain⟨n,hn,rfl,rfl⟩:=hm;simp only[A0A,A0q,A6M,Z0B,Z2g];cases hl:A1Z C.P t' (ρ x)with
    |none=>rw[hl]at hn;simp only[Z2M]at hn;simp[hl,hn,A0U,A0Q,A2e,goInt]
    |some n'=>rw[hl]at hn;simp only[Option.some_or,Z0a]at hn;subst hn;simp[hl,goInt]
   case copy=>simp only[mOp]at hm;split at hm;(case h_2=>simp at hm);rename_i x y t' u ha ht;(have j:args=#[x,y]:=by apply Z1B;simpa using ha);(have q:ts=#[t',u]:=by apply Z1B;simpa using ht);subst j;subst q;simp only[A0A,A0q,A6M];simp[A0U,A0Q,A2e,hm]
  |_=>exact f hm
def B1j(P:Program)(op:BinOp)(t:TypeId)(b o b2 o2:Nat):Option Bool:=match P.underlying t with
 |some (.pointer e)=>match A1h P e with
  |some n=>if n=0 then none else if b=b2 then match op with
   |.eql=>some (o==o2)
   |.neq=>some (!(o==o2))
   |_=>none
   else none
  |none=>none
 |_=>none
def C7M(P:Program)(op:BinOp)(t:TypeId)(x y:AV)(f:AV->Prop):Prop:=match x,y with
 |.ptr b o,.ptr b2 o2=>A0L ((B1j P op t b o b2 o2).map λb=>.val (.bool b)) f
 |_,_=>B4z P op t x y f
def D5v{P}{op}{t:TypeId}{b o b2 o2}:A1s P op t (.ptr b o) (.ptr b2 o2)=none:=by
 have h0:A2F P op t (.ptr b o) (.ptr b2 o2)=none:=by simp[A2F,A3E]
 simp only[A1s,h0,A4t]
def C0Z{P}{t:TypeId}{cx}{b o b2 o2}:B1X P t cx (.ptr b o) (.ptr b2 o2)=B1j P .eql t b o b2 o2:=by
 unfold B1X B1j;cases P.underlying t with
 |none=>rfl
 |some u=>cases u<;>rfl
def D6f{P}{op}{t:TypeId}{x y}{f:AV->Prop}(h:C7M P op t x y f):(∃b o b2 o2,x=.ptr b o/\y=.ptr b2 o2/\A0L ((B1j P op t b o b2 o2).map λb=>.val (.bool b)) f)\/B4z P op t x y f:=by
 unfold C7M at h;split at h
 .exact .inl ⟨_,_,_,_,rfl,rfl,h⟩
 .exact .inr h
def C9h(C:Ctx)(h:A2x)(o:Oper)(K:AV->Mem->Prop)(ρ:Operand->AV)(M:Mem):Prop:=match o.op with
 |.binOp op t x y _=>C7M C.P op t (ρ x) (ρ y) (λv=>K v M)
 |.call {callee:=.value f,args,..}=>D3Y C (ρ f) (args.toList.map ρ) M K
 |.call {callee:=.builtin .append,args,argTypes}=>match args.toList,argTypes.toList with
  |[s,x],[t,u]=>B3U C (A1V h.own o.dst) (A1V h.vec o.dst) t u (ρ s) (ρ x) M K
  |_,_=>False
 |_=>A0L (mOp C h o ρ M) (λr=>K r.1 r.2)
def D0f{C}{h}{o}{K:AV->Mem->Prop}{ρ:Operand->AV}{M}(hw:C9h C h o K ρ M):A4z C h o K ρ M:=by
 have i:(∀f args ts,o.op≠.call {callee:=.value f,args:=args,argTypes:=ts})->(∀args ts,o.op≠.call {callee:=.builtin .append,args:=args,argTypes:=ts})->A0L (mOp C h o ρ M) (λr=>K r.1 r.2)->A4z C h o K ρ M:=by
  intro h1 h2 hs;cases hm:mOp C h o ρ M with
  |none=>rw[hm]at hs;exact hs.elim
  |some r=>
   obtain⟨v,M'⟩:=r;rw[hm]at hs;have he:=C5J hm;unfold A4z;split
   .rename_i heq;exact absurd heq (by intro e;exact h1 _ _ _ e)
   .rename_i heq;exact absurd heq (by intro e;exact h2 _ _ e)
   .rw[he];exact hs
 obtain⟨d,op,t,p,af,g⟩:=o;unfold C9h at hw;simp only at hw;split at hw
 .rename_i bop bt x y yt;rw[C9j];rcases D6f hw with⟨b,o,b2,o2,hx,hy,hw⟩|hw
  .unfold D0Y;have en:A1s C.P bop bt (.ptr b o) (.ptr b2 o2)=none:=D5v;(have e1:A0E C ⟨d,.binOp bop bt x y yt,t,p,af,g⟩ ρ=(B1j C.P bop bt b o b2 o2).map λb=>.val (.bool b):=by cases bop;(case eql=>show(B1X C.P bt (B2i y) (ρ x) (ρ y)).map _=_;rw[hx,hy,C0Z]);(case neq=>show(B1X C.P bt (B2i y) (ρ x) (ρ y)).map _=_;rw[hx,hy,C0Z];unfold B1j;split<;>(try split)<;>(try split)<;>(try split)<;>rfl);all_goals (unfold B1j;split<;>(try split)<;>(try split)<;>(try split)<;>rfl));rw[hx,hy,en,e1];simp only[Z2M];cases hp:B1j C.P bop bt b o b2 o2 with
   |none=>rw[hp]at hw;exact hw.elim
   |some r=>rw[hp]at hw;exact hw
  unfold B4z at hw;unfold D0Y;cases hb:A1s C.P bop bt (ρ x) (ρ y)with
  |some v=>rw[hb]at hw;exact hw
  |none=>
   rw[hb]at hw;simp only[Z2M];cases he:A0E C ⟨d,.binOp bop bt x y yt,t,p,af,g⟩ ρ with
   |none=>exact hw
   |some v=>
    (have:∃b,v=.val (.bool b):=by cases bop<;>first|(simp[A0E]at he;done)|(simp only[A0E,Z0i]at he;obtain⟨b,_,rfl⟩:=he;exact⟨_,rfl⟩));obtain⟨b,rfl⟩:=this
    exact hw.2 b
 .rename_i f args ts;exact hw
 .rename_i args ts;split at hw;case h_2=>exact hw.elim
  rename_i s x t' u ha ht;have a:args=#[s,x]:=by apply Z1B;simpa using ha
  have c:ts=#[t',u]:=by apply Z1B;simpa using ht
  subst a;subst c;rw[C6V];exact hw
 .rename_i hne0 hne1 hne2;exact i hne1 hne2 hw
def B4q(C:Ctx)(h:A2x)(ops:Array Oper):List Oper->(Env->Mem->Prop)->Env->Mem->Prop
 |[],K,T,M=>K T M
 |o::rest,K,T,M=>A2o ops o T (C9h C h o (λv M'=>B4q C h ops rest K (T.put o.dst v) M') (T.ev C) M) (B4q C h ops rest K (T.put o.dst (.val undef)) M)
def B1C{C}{h}{ops}{K:Env->Mem->Prop}:∀(l:List Oper) (T:Env) (M:Mem),B4q C h ops l K T M->A9L C h ops l K T M
 |[],T,M,hw=>hw
 |o::rest,T,M,hw=>by simp only[B4q]at hw;simp only[A9L];exact A4q (λh1=>C2K (λv m h2=>B1C rest _ _ h2) (D0f h1)) (λh1=>B1C rest _ _ h1) hw
def A5E(C:Ctx)(h:A2x)(N:Nat):Code->(Exit->Env->Mem->Prop)->Env->Mem->Prop
 |.skip,Q,T,M=>Q .normal T M
 |.label _,Q,T,M=>Q .normal T M
 |.region id ops draw,Q,T,M=>if draw=true then AWp C N (.region id ops true) Q T M else B4q C h ops ops.toList (λT M=>Q .normal T M) T M
 |.seq x y,Q,T,M=>A5E C h N x (C5U (A5E C h N y Q) Q) T M
 |.cond c x y,Q,T,M=>D0h (T.ev C c) (A5E C h N x Q T M) (A5E C h N y Q T M)
 |.block id c,Q,T,M=>A5E C h N c (A7w id Q) T M
 |.exit id,Q,T,M=>Q (.exit id) T M
 |.ret,Q,T,M=>Q .ret T M
 |c,Q,T,M=>AWp C N c Q T M
def A4Q{C}{h}{N}:∀(c:Code) (Q:Exit->Env->Mem->Prop) (T:Env) (M:Mem),A2X N c=true->A5E C h N c Q T M->AWp C N c Q T M
 |.skip,Q,T,M,_,hv=>C6o hv
 |.label _,Q,T,M,_,hv=>C2d hv
 |.region id ops draw,Q,T,M,hin,hv=>by
  simp only[A5E]at hv;cases draw with
  |true=>simpa using hv
  |false=>exact B9T (by simpa[A2X]using hin) (B1C _ _ _ (by simpa using hv))
 |.seq x y,Q,T,M,hin,hv=>by
  simp only[A2X,Z0g]at hin;simp only[A5E]at hv;refine C3t ((A4Q x _ T M hin.1 hv).mono ?_);intro e T' M' hq;cases e with
  |normal=>exact A4Q y Q T' M' hin.2 hq
  |_=>exact hq
 |.cond c x y,Q,T,M,hin,hv=>by
  simp only[A2X,Z0g]at hin;simp only[A5E,D0h]at hv;split at hv
  .rename_i b hb;refine B9v hin.1.1 hb (λe=>?_) (λe=>?_)
   .rw[Z0d e]at hv;exact A4Q x Q T M hin.1.2 hv
   .rw[Z0e (by simp[e])]at hv;exact A4Q y Q T M hin.2 hv
  .exact hv.elim
 |.block id c,Q,T,M,hin,hv=>B2x (A4Q c _ T M (by simpa[A2X]using hin) hv)
 |.exit id,Q,T,M,_,hv=>C6C hv
 |.ret,Q,T,M,_,hv=>D0o hv
 |.loop c,Q,T,M,_,hv=>hv
 |.rangeFunc _ _ _ _,Q,T,M,_,hv=>hv
 |.scope _,Q,T,M,_,hv=>hv
 |.goto _,Q,T,M,_,hv=>hv
 |.refuse _,Q,T,M,_,hv=>hv
def D4B(C:Ctx)(f:AV)(args:List AV)(M:Mem)(K:AV->Mem->Prop):Prop:=match f with
 |.func (.func g) first captured=>∃r,(∀M,A4d C g (first++args++captured) M (λv M'=>v=r/\M'=M))/\K r M
 |_=>False
def D3J(C:Ctx)(f:AV)(args:List AV)(M:Mem)(K:AV->Mem->Prop):Prop:=match f with
 |.func (.func g) first captured=>∃r M1,A4d C g (first++args++captured) M (λv M'=>v=r/\M'=M1)/\K r M1
 |_=>False
def D4s(P:Program)(n:Nat)(e:TypeId)(x i:AV):Option AV:=match x,i with
 |.agg cs,.val (.int _ i)=>match A1h P e with
  |some sz=>if 0<=i/\i<n/\i.toNat*sz+sz<=cs.length then A1g P e (cs.drop (i.toNat*sz))else none
  |none=>none
 |_,_=>none
def C8m(P:Program)(u:Option TypeDesc)(x i:AV):Option AV:=match u with
 |some (.array n e)=>D4s P n e x i
 |u=>B5d u x i
@[simp] def E2F{P:Program}{x i:AV}:C8m P (some .string) x i=B5d (some .string) x i:=rfl
def D1S{C:Ctx}{h:A2x}{d:Option Tmp}{xt t:TypeId}{x i:Operand}{p:String}{af:Array Edge}{g:Option (Nat×Bool)}{ρ:Operand->AV}{v:AV}(hv:C8m C.P (C.P.underlying xt) (ρ x) (ρ i)=some v):(A0q C h ⟨d,.index xt x i,t,p,af,g⟩ ρ).or (A0E C ⟨d,.index xt x i,t,p,af,g⟩ ρ)=some v:=by
 unfold C8m at hv;split at hv
 .rename_i n e hu;have e1:A0q C h ⟨d,.index xt x i,t,p,af,g⟩ ρ=none:=by simp[A0q,hu]
  rw[e1,Z2M];simp only[A0E,C5u,hu];unfold D4s at hv;cases hx:ρ x<;>rw[hx]at hv<;>first|(simp at hv;done)|skip
  cases hi:ρ i<;>rw[hi]at hv<;>first|(simp at hv;done)|skip
  rename_i q;cases q<;>first|(simp at hv;done)|exact hv
 .have e1:A0q C h ⟨d,.index xt x i,t,p,af,g⟩ ρ=some v:=A8u (by simpa only[pOp]using hv);rw[e1];rfl
def wsD(C:Ctx)(h:A2x)(cls rob:Nat)(o:Oper)(ρ:Operand->AV)(M:Mem)(K:AV->Mem->Prop):Prop:=match cls with
 |0=>match o.op with
  |.call {callee:=.value f,args,..}=>D4B C (ρ f) (args.toList.map ρ) M K
  |.call {callee:=.builtin .append,..}=>False
  |.alloc _=>False
  |.index t x i=>A0L (C8m C.P (C.P.underlying t) (ρ x) (ρ i)) (λv=>K v M)
  |_=>A0L (pOp C h o ρ) (λv=>K v M)
 |1=>match o.op with
  |.load t x=>A0M o ρ=some rob/\A0L (A1D C.P t M (ρ x)) (λv=>K v M)
  |.lookup t m k ok=>A0M o ρ=some rob/\A0L (A1J C.P t M (ρ m) (ρ k) ok) (λv=>K v M)
  |_=>False
 |2=>match o.op with
  |.call {callee:=.value f,args,..}=>D3J C (ρ f) (args.toList.map ρ) M K
  |.call {callee:=.builtin .append,args,argTypes}=>match args.toList,argTypes.toList with
   |[s,x],[t,u]=>B3U C (A1V h.own o.dst) (A1V h.vec o.dst) t u (ρ s) (ρ x) M K
   |_,_=>False
  |_=>A0L (mOp C h o ρ M) (λr=>K r.1 r.2)
 |_=>False
def B6L{f:Mem->Option (AV×Mem)}{M}{K:AV->Mem->Prop}(h:A0L (f M) (λr=>K r.1 r.2)):A5B false f M K:=by
 unfold A5B;cases hf:f M with
 |none=>rw[hf]at h;exact h.elim
 |some r=>rw[hf]at h;exact⟨λe=>by simp at e,h⟩
def B2b{C:Ctx}{h:A2x}{cls rob:Nat}{o:Oper}{ρ:Operand->AV}{M:Mem}{K:AV->Mem->Prop}(hw:wsD C h cls rob o ρ M K):dOp C h false cls rob 0 o ρ M K:=by
 have a:∀c,(∀f args ts,o.op≠.call {callee:=.value f,args:=args,argTypes:=ts})->(∀args ts,o.op≠.call {callee:=.builtin .append,args:=args,argTypes:=ts})->(∀e,o.op≠.alloc e)->
  (if c=0 then A0L ((A0q C h o ρ).or (A0E C o ρ)) (λv=>K v M)else if c=1 then A0M o ρ=some rob/\A0L (A2s C o ρ M) (λv=>K v M)else if c=5 then A5U o ρ=some 0/\A0L (A0A C h o ρ M) (λr=>K r.1 r.2)else c=2/\A5B false (A0A C h o ρ) M K)->dOp C h false c rob 0 o ρ M K:=by
  intro c h1 h2 h3 hp
  unfold dOp
  split
  .rename_i heq;exact absurd heq (by intro e;exact h1 _ _ _ e)
  .rename_i heq;exact absurd heq (by intro e;exact h2 _ _ e)
  .rename_i heq;exact absurd heq (by intro e;exact h3 _ e)
  .exact hp
 unfold wsD at hw;split at hw
 .split at hw
  .rename_i f args ts hop;obtain⟨d,op,t,p,af,g⟩:=o;simp only at hop;subst hop;simp only[dOp];unfold D4B at hw;split at hw
   ·(rename_i g' first captured hf);simp only[hf,Z0H]
    exact hw
   .exact hw.elim
  .exact hw.elim
  .exact hw.elim
  .rename_i xt x i hop;refine a 0 (by simp[hop]) (by simp[hop]) (by simp[hop]) ?_;rw[Z0d rfl];obtain⟨d,op,t,p,af,g⟩:=o;simp only at hop;subst hop;cases hv:C8m C.P (C.P.underlying xt) (ρ x) (ρ i)with
   |none=>rw[hv]at hw;exact hw.elim
   |some v=>rw[hv]at hw;rw[D1S hv];exact hw
  .rename_i h1 h2 h3 h4;refine a 0 (λf args ts e=>h1 _ _ _ e) (λargs ts e=>h2 _ _ e) (λe he=>h3 _ he) ?_;rw[Z0d rfl];cases hp:pOp C h o ρ with
   |none=>rw[hp]at hw;exact hw.elim
   |some v=>rw[hp]at hw;rw[A8u hp];exact hw
 .split at hw
  .rename_i lt x hop;refine a 1 (by simp[hop]) (by simp[hop]) (by simp[hop]) ?_;rw[Z0e (by omega),Z0d rfl];refine⟨hw.1,?_⟩;simp only[A2s,hop];exact hw.2
  .rename_i lt m k ok hop;refine a 1 (by simp[hop]) (by simp[hop]) (by simp[hop]) ?_;rw[Z0e (by omega),Z0d rfl];refine⟨hw.1,?_⟩;simp only[A2s,hop];exact hw.2
  .exact hw.elim
 .split at hw
  .rename_i f args ts hop;obtain⟨d,op,t,p,af,g⟩:=o;simp only at hop;subst hop;simp only[dOp];unfold D3J at hw;split at hw
   ·(rename_i g' first captured hf);simp only[hf]
    rw[Z0e (by simp)];obtain⟨r,M1,q1,q2⟩:=hw;exact⟨r,M1,by trivial,q1,λe=>by simp at e,q2⟩
   .exact hw.elim
  .rename_i args ts hop;obtain⟨d,op,t,p,af,g⟩:=o;simp only at hop;subst hop;simp only[dOp];split at hw;(case h_2=>exact hw.elim);rename_i s x t' u ha ht;rw[ha,ht];obtain⟨e,sz,bytes,q1,q2⟩:=hw;exact⟨e,sz,bytes,q1,by trivial,B6L q2⟩
  .rename_i h1 h2;have hm:A5B false (A0A C h o ρ) M K:=by
    refine B6L ?_;cases hm:mOp C h o ρ M with
    |none=>rw[hm]at hw;exact hw.elim
    |some r=>rw[hm]at hw;rw[C5J (M':=r.2) (v:=r.1) hm];exact hw
   by_cases ha:∃e,o.op=.alloc e
   .obtain⟨e,he⟩:=ha;obtain⟨d,op,t,p,af,g⟩:=o;simp only at he;subst he;simp only[dOp];rw[Z0e (by simp)];exact⟨by trivial,hm⟩
   .refine a 2 (λf args ts e=>h1 _ _ _ e) (λargs ts e=>h2 _ _ e) (λe he=>ha ⟨e,he⟩) ?_;rw[Z0e (by omega),Z0e (by omega)];exact⟨rfl,hm⟩
 .exact hw.elim
def B5V(C:Ctx)(h:A2x)(ops:Array Oper)(cls rob:Nat->Nat):Nat->List Oper->Env->Mem->(Env->Mem->Prop)->Prop
 |_,[],T,M,K=>K T M
 |k,o::rest,T,M,K=>A2o ops o T (wsD C h (cls k) (rob k) o (T.ev C) M (λv M'=>B5V C h ops cls rob (k+1) rest (T.put o.dst v) M' K)) (B5V C h ops cls rob (k+1) rest (T.put o.dst (.val undef)) M K)
def A6I(cls rob:Nat->Nat):B1c:={cls:=λk=>if cls k=5 then 3 else cls k,rob:=rob}
def B2l{C}{h}{c r}{o}{ρ:Operand->AV}{M}{K K':AV->Mem->Prop}(hk:∀v m,K v m->K' v m)(hv:dOp C h false c r 0 o ρ M K):dOp C h false c r 0 o ρ M K':=by
 have on:∀{α:Type} (o:Option α) (f g:α->Prop),(∀a,f a->g a)->A0L o f->A0L o g:=by
  intro α o f g d ho;cases o with
  |none=>exact ho
  |some a=>exact d a ho
 have b:∀(fl:Bool) (f:Mem->Option (AV×Mem)) (M:Mem) (K K':AV->Mem->Prop),(∀v m,K v m->K' v m)->A5B fl f M K->A5B fl f M K':=by
  intro fl f M K K' hk h;unfold A5B at h|-;split at h
  .exact⟨h.1,hk _ _ h.2⟩
  .exact h
 unfold dOp at hv|-;split at hv
 .split at hv
  .split at hv
   .rename_i e;rw[Z0d e];obtain⟨r,q1,q2⟩:=hv;exact⟨r,q1,hk _ _ q2⟩
   .rename_i e;rw[Z0e e];obtain⟨r,M1,q1,q2,q3,q4⟩:=hv;exact⟨r,M1,q1,q2,q3,hk _ _ q4⟩
  .exact hv.elim
 .split at hv
  .obtain⟨e,sz,bytes,h1,i,h2⟩:=hv;exact⟨e,sz,bytes,h1,i,b _ _ _ _ _ hk h2⟩
  .exact hv.elim
 .split at hv
  .rename_i e;rw[Z0d e];exact⟨hv.1,hv.2.1,on _ _ _ (λa h=>hk _ _ h) hv.2.2⟩
  .rename_i e;rw[Z0e e];exact⟨hv.1,b _ _ _ _ _ hk hv.2⟩
 .split at hv
  .rename_i e;rw[Z0d e];exact on _ _ _ (λa h=>hk _ _ h) hv
  .rename_i e;rw[Z0e e];split at hv
   .rename_i e1;rw[Z0d e1];exact⟨hv.1,on _ _ _ (λa h=>hk _ _ h) hv.2⟩
   .rename_i e1;rw[Z0e e1];split at hv
    .rename_i e2;rw[Z0d e2];exact⟨hv.1,on _ _ _ (λa h=>hk _ _ h) hv.2⟩
    .rename_i e2;rw[Z0e e2];exact⟨hv.1,b _ _ _ _ _ hk hv.2⟩
def B0H{C}{h}{ops}{cls rob:Nat->Nat}{K:Env->Mem->Prop}:∀(l:List Oper) (k:Nat) (T:Env) (M:Mem),B5V C h ops cls rob k l T M K->A1E C h ops (A6I cls rob) k l T M K
 |[],k,T,M,hw=>hw
 |o::rest,k,T,M,hw=>by
  simp only[B5V]at hw;simp only[A1E];exact A4q (λh1=>B2l (λv m h2=>⟨λi _ ha=>by simp[A6I]at ha,B0H rest _ _ _ h2⟩) (by
   have hd:=B2b h1;by_cases e:cls k=5
   .rw[e]at h1;exact h1.elim
   .simpa only[A6I,Z0e e]using hd)) (λh1=>B0H rest _ _ _ h1) hw
def C8i{C}{N}{h}{id}{ops}{Q:Exit->Env->Mem->Prop}{T}{M}(a:C.P.follows .mixedOrders=true)(cls rob:Nat->Nat)(d:A2m N ops ops.toList=true)(b:A4H ops (A6I cls λ_=>0)=true)
 (hr:B5V C h ops cls rob 0 ops.toList T M (λT M=>Q .normal T M)):AWp C N (.region id ops true) Q T M:=by
 have h4:∀i o,ops[i]?=some o->(A6I cls rob).cls i≠4:=by intro i o ho e;have:=(A4Z b ho).2.1 e;simp[A6I]at this
 have h5:∀k,(A6I cls rob).cls k≠5:=by intro k;simp only[A6I];split<;>omega
 have c:A4H ops (A6I cls rob)=true:=by
  have hp:∀i,i<ops.size->A3p ((A6I cls rob).cls i)=false:=λi hi=>by
   cases e:A3p ((A6I cls rob).cls i)with
   |false=>rfl
   |true=>
    rcases A5a.1 e with h|h
    .exact absurd h (h4 i _ (Z0R hi))
    .exact absurd h (h5 i)
  have:∀i j,i<ops.size->j<ops.size->A1N (A6I cls rob) j i=A1N (A6I cls λ_=>0) j i:=by intro i j hi hj;have b1:=hp i hi;have b2:=hp j hj;have c1:(A6I cls λ_=>0).cls=(A6I cls rob).cls:=rfl;have c2:(A6I cls λ_=>0).aff=(A6I cls rob).aff:=rfl;simp only[A1N,c1,c2,b1,b2,Z1L,Z0q,Z3P]
  refine Z0t.2 λi hi=>?_;have h0:=Z0t.1 b i hi;have f:=Z1i.1 hi;cases ho:ops[i]? with
  |none=>rfl
  |some o=>
   rw[ho]at h0;simp only[Z0g]at h0|-;refine⟨h0.1,Z0t.2 λj hj=>?_⟩;have h1:=Z0t.1 h0.2 j hj;have g:=Z1i.1 hj;cases hx:ops[j]? with
   |none=>rfl
   |some x=>rw[hx]at h1;simp only at h1|-;rw[this i j f (by omega)];exact h1
 refine A8d (h:=h) a (A6I cls rob) d c (λk hk hc=>?_) (B0H _ _ _ _ hr)
 exact absurd hc (h4 k _ (Z0R hk))
noncomputable def BT.getR(t:BT):Nat->AV:=BT.rec (motive:=λ_=>Nat->AV) (λv n=>Nat.rec (motive:=λ_=>AV) v (λ_ _=>.poison) n) (λ_ _ gl gr n=>Nat.rec (motive:=λ_=>AV) (gl (Nat.div n 2)) (λ_ _=>gr (Nat.div n 2)) (Nat.mod n 2)) t
def BT.getR_eq:∀(t:BT) (n:Nat),t.getR n=t.get n
 |.leaf v,n=>by cases n<;>rfl
 |.node l r,n=>by show Nat.rec (motive:=λ_=>AV) (l.getR (n/2)) (λ_ _=>r.getR (n/2)) (n%2)=_;rw[BT.getR_eq l,BT.getR_eq r];simp only[BT.get];rcases Z2G n with h|h<;>rw[h]<;>rfl
noncomputable def BT.putR(t:BT):Nat->AV->Option BT:=BT.rec (motive:=λ_=>Nat->AV->Option BT) (λ_ n v=>Nat.rec (motive:=λ_=>Option BT) (some (.leaf v)) (λ_ _=>none) n) (λl r pl pr n v=>Nat.rec (motive:=λ_=>Option BT) (Option.rec (motive:=λ_=>Option BT) none (λl'=>some (.node l' r)) (pl (Nat.div n 2) v)) (λ_ _=>Option.rec (motive:=λ_=>Option BT) none (λr'=>some (.node l r')) (pr (Nat.div n 2) v)) (Nat.mod n 2)) t
def BT.putR_eq:∀(t:BT) (n:Nat) (v:AV),t.putR n v=t.put n v
 |.leaf u,n,v=>by cases n<;>rfl
 |.node l r,n,v=>by
  show Nat.rec (motive:=λ_=>Option BT) (Option.rec (motive:=λ_=>Option BT) none (λl'=>some (.node l' r)) (l.putR (n/2) v)) (λ_ _=>Option.rec (motive:=λ_=>Option BT) none (λr'=>some (.node l r')) (r.putR (n/2) v)) (n%2)=_;rw[BT.putR_eq l,BT.putR_eq r];simp only[BT.put];rcases Z2G n with h|h<;>rw[h]
  .cases l.put (n/2) v<;>rfl
  .cases r.put (n/2) v<;>rfl
noncomputable def BT.setR(t:BT)(d:Option Nat)(v:AV):Option BT:=match d with
 |none=>some t
 |some d=>t.putR d v
def BT.setR_eq(t:BT)(d:Option Nat)(v:AV):t.setR d v=t.set d v:=by
 cases d with
 |none=>rfl
 |some d=>exact BT.putR_eq t d v
inductive HT where
 |nil
 |node (o:A0l) (l r:HT)
noncomputable def HT.get(t:HT):Nat->Option A0l:=HT.rec (motive:=λ_=>Nat->Option A0l) (λ_=>none) (λo _ _ gl gr n=>Nat.rec (motive:=λ_=>Option A0l) (some o) (λm _=>Nat.rec (motive:=λ_=>Option A0l) (gl (Nat.div m 2)) (λ_ _=>gr (Nat.div m 2)) (Nat.mod m 2)) n) t
noncomputable def HT.put(t:HT):Nat->A0l->HT:=HT.rec (motive:=λ_=>Nat->A0l->HT) (λ_ o=>.node o .nil .nil) (λx l r pl pr n o=>Nat.rec (motive:=λ_=>HT) (.node o l r) (λm _=>Nat.rec (motive:=λ_=>HT) (.node x (pl (Nat.div m 2) o) r) (λ_ _=>.node x l (pr (Nat.div m 2) o)) (Nat.mod m 2)) n) t
def HT.get_nil(n:Nat):HT.nil.get n=none:=rfl
def HT.get_zero(x:A0l)(l r:HT):(HT.node x l r).get 0=some x:=rfl
def HT.put_zero(x:A0l)(l r:HT)(o:A0l):(HT.node x l r).put 0 o=.node o l r:=rfl
def HT.put_nil(n:Nat)(o:A0l):HT.nil.put n o=.node o .nil .nil:=rfl
def HT.get_succ(x:A0l)(l r:HT)(n:Nat):(HT.node x l r).get (n+1)=if n%2=0 then l.get (n/2)else r.get (n/2):=by show Nat.rec (motive:=λ_=>Option A0l) (l.get (n/2)) (λ_ _=>r.get (n/2)) (n%2)=_;rcases Z2G n with h|h<;>rw[h]<;>rfl
def HT.put_succ(x:A0l)(l r:HT)(n:Nat)(o:A0l):(HT.node x l r).put (n+1) o=if n%2=0 then .node x (l.put (n/2) o) r else .node x l (r.put (n/2) o):=by show Nat.rec (motive:=λ_=>HT) (HT.node x (l.put (n/2) o) r) (λ_ _=>.node x l (r.put (n/2) o)) (n%2)=_;rcases Z2G n with h|h<;>rw[h]<;>rfl
def HT.get_put:∀(t:HT) (n:Nat) (o:A0l),(t.get n≠none\/∀i,i<n->t.get i≠none)->∀m,(t.put n o).get m=if m=n then some o else t.get m
 |.nil,n,o,h,m=>by
  have hn:n=0:=by
   rcases h with h|h
   .exact absurd rfl h
   .cases n with
    |zero=>rfl
    |succ n=>exact absurd rfl (h 0 (by omega))
  subst hn;cases m with
  |zero=>rfl
  |succ m=>rw[HT.put_nil,HT.get_succ];simp[HT.get_nil]
 |.node x l r,n,o,h,m=>by
  cases n with
  |zero=>
   cases m with
   |zero=>rfl
   |succ m=>rw[HT.put_zero,HT.get_succ,HT.get_succ];simp
  |succ n=>
   rw[HT.put_succ];by_cases e:n%2=0
   .rw[Z0d e];have hl:l.get (n/2)≠none\/∀i,i<n/2->l.get i≠none:=by
     rcases h with h|h
     .left;rw[HT.get_succ,Z0d e]at h;exact h
     .right;intro i hi;have:=h (2*i+1) (by omega);rw[HT.get_succ,Z0d (by omega),show 2*i/2=i from by omega]at this;exact this
    have ih:=HT.get_put l (n/2) o hl;cases m with
    |zero=>rw[HT.get_zero,HT.get_zero];simp
    |succ m=>
     rw[HT.get_succ,HT.get_succ];by_cases e2:m%2=0
     .rw[Z0d e2,Z0d e2,ih (m/2)];by_cases e3:m/2=n/2
      .rw[Z0d e3,Z0d (by omega)]
      .rw[Z0e e3,Z0e (by omega)]
     .rw[Z0e e2,Z0e e2,Z0e (by omega)]
   .rw[Z0e e];have hr:r.get (n/2)≠none\/∀i,i<n/2->r.get i≠none:=by
     rcases h with h|h
     .left;rw[HT.get_succ,Z0e e]at h;exact h
     .right;intro i hi;have:=h (2*i+1+1) (by omega);rw[HT.get_succ,Z0e (by omega),show(2*i+1)/2=i from by omega]at this;exact this
    have ih:=HT.get_put r (n/2) o hr;cases m with
    |zero=>rw[HT.get_zero,HT.get_zero];simp
    |succ m=>
     rw[HT.get_succ,HT.get_succ];by_cases e2:m%2=0
     .rw[Z0d e2,Z0d e2,Z0e (by omega)]
     .rw[Z0e e2,Z0e e2,ih (m/2)];by_cases e3:m/2=n/2
      .rw[Z0d e3,Z0d (by omega)]
      .rw[Z0e e3,Z0e (by omega)]
structure Hp (h:HT) (n:Nat) (M:Mem):Prop where
 len:M.length=n
 at_:∀i,h.get i=M[i]?
def Hp.fn{h}{n}{M}(k:Hp h n M):h.get=λi=>M[i]?:=funext k.at_
def Hp.put{h}{n b}{M}{o}(k:Hp h n M)(hb:b<n):Hp (h.put b o) n (M.set b o):=by
 refine⟨by simp[k.len],λi=>?_⟩;rw[HT.get_put h b o (.inl (by rw[k.at_,Z0l (by rw[k.len];exact hb)];simp)),k.at_,Z2o];by_cases e:i=b
 .subst e;simp[k.len,hb]
 .rw[Z0e e,Z0e (λh=>e h.symm)]
def Hp.push{h}{n}{M}{o}(k:Hp h n M):Hp (h.put n o) (n+1) (M++[o]):=by
 refine⟨by simp[k.len],λi=>?_⟩;rw[HT.get_put h n o (.inr (λi hi=>by rw[k.at_,Z0l (by rw[k.len];exact hi)];simp)),k.at_];by_cases e:i=n
 .subst e;rw[Z0d rfl,Z1n (by rw[k.len];exact Z0o _)];simp[k.len]
 .rw[Z0e e];by_cases h1:i<n
  .rw[Z0h (by rw[k.len];exact h1)]
  .rw[Z1d (by rw[k.len];omega),Z1d (by simp[k.len];omega)]
inductive Ef where
 |non
 |put (b:Nat) (o:A0l)
 |push (o:A0l)
def Ef.mem:Ef->Mem->Mem
 |.non,M=>M
 |.put b o,M=>M.set b o
 |.push o,M=>M++[o]
noncomputable def Ef.ht:Ef->HT->Nat->HT
 |.non,h,_=>h
 |.put b o,h,_=>h.put b o
 |.push o,h,n=>h.put n o
def Ef.n:Ef->Nat->Nat
 |.push _,n=>n+1
 |_,n=>n
def Ef.ok(n:Nat):Ef->Prop
 |.put b _=>b<n
 |_=>True
def Hp.ef{h:HT}{n:Nat}{M:Mem}(k:Hp h n M){e:Ef}(he:e.ok n):Hp (e.ht h n) (e.n n) (e.mem M):=by
 cases e with
 |non=>exact k
 |put b o=>exact k.put he
 |push o=>exact k.push
abbrev GT:=Nat->Option A0l
def B9L(g:GT):AV->Option (List AV)
 |.cptr cs=>some cs
 |.ptr b off=>match g b with
  |some (.cells _ cs)=>if off<=cs.length then some (cs.drop off)else none
  |_=>none
 |.vptr f t off=>match g f with
  |some (.vec _ sz cs _ hist)=>match hist.lookup t with
   |some n=>some ((cs.take (n*sz)).drop off)
   |none=>none
  |_=>none
 |_=>none
def A7b(g:GT)(sz:Nat):AV->Option (List AV×Nat)
 |.val (.slice none 0 0)=>some ([],0)
 |.val (.string s)=>if sz=1 then some (s.data.toList.map λb=>.val (.int .u8 b.toNat),s.size)else none
 |.list s rows _=>if s=sz then some (rows.flatten,rows.length)else none
 |.vref f h s lo len=>match g f with
  |some (.vec _ s' cs _ hist)=>match hist.lookup h with
   |some n=>if s=sz/\s'=sz/\lo+len<=n then some ((cs.drop (lo*sz)).take (len*sz),len)else none
   |none=>none
  |_=>none
 |_=>none
def D0g(g:GT):AV->Option (List (AV×AV×Nat))
 |.val (.map none)=>some []
 |.mapr b=>match g b with|some (.map es _)=>some es|_=>none
 |_=>none
def D0y(P:Program)(t:TypeId)(g:GT)(m k:AV)(ok:Bool):Option AV:=
 match A7G P t,D0g g m with
 |some (kt,et),some es=>if(A6b P kt||B4x P kt)&&A5h P 30 kt k then
  match A2R P kt k es with
  |some (some (_,v))=>some (if ok then .tuple [v,.val (.bool true)]else v)
  |some none=>(A7I P et).map λz=>if ok then .tuple [z,.val (.bool false)]else z
  |none=>none
  else none
 |_,_=>none
def B7u(P:Program)(t:TypeId)(g:GT)(m k v:AV):Option Ef:=
 match A7G P t,m with
 |some (kt,et),.mapr b=>match g b with
  |some (.map es clock)=>if(A6b P kt||B4x P kt)&&A5h P 30 kt k then
   match A2R P kt k es with
   |some (some (i,_))=>match es[i]? with
    |some (ok,_,born)=>match A7t ok,A7t k with
     |some a,some c=>if Instr.sameBits 10000 a c then some (.put b (.map (es.set i (k,v,born)) clock))else none
     |_,_=>none
    |none=>none
   |some none=>some (.put b (.map (es++[(k,v,clock)]) (clock+1)))
   |none=>none
   else none
  |_=>none
 |_,_=>none
def C7a(P:Program)(t:TypeId)(g:GT)(x:AV):Option Nat:=match x with
 |.mapr b=>match P.underlying t,g b with
  |some (.map _ _),some (.map es _)=>some es.length
  |_,_=>none
 |_=>none
def D5H(P:Program)(t u:TypeId)(g:GT)(d s:AV):Option (AV×Ef):=match A0R P t with
 |some e=>
  match A1h P e with
  |some sz=>match A7b g sz s with
   |some (news,m)=>match d with
    |.vref f h sz' lo len=>match g f with
     |some (.vec ty sz2 cs g' hist)=>match hist.lookup h with
      |some n=>if sz'=sz/\sz2=sz/\m<=len/\lo+len<=n then
       if m=0 then some (.val (goInt 0),.non)else
       some (.val (goInt m),.put f (.vec ty sz (A0e cs (lo*sz) news) g' (A1A sz h (lo*sz) hist)))
       else none
      |none=>none
     |_=>none
    |_=>none
   |none=>none
  |none=>none
 |none=>none
def B7n(P:Program)(t:TypeId)(n:Nat)(parts:List (Nat×AV))(len:Nat):Option (AV×Ef):=match A0R P t with
 |some e=>match A1h P e,A0C P e with
  |some sz,some z=>if n*sz<=2^24/\z.length=sz/\z.all (·.oneCell')/\0<sz then
   (A0Z sz parts (List.replicate n (z.map .val))).map λrows=>(.vref len 0 sz 0 n,.push (.vec e sz rows.flatten 0 [(0,n)]))
   else none
  |_,_=>none
 |none=>none
def C9G(P:Program)(t:TypeId)(l c:AV)(len:Nat):Option (AV×Ef):=
 match A0R P t,l,c with
 |some e,.val (.int _ l),.val (.int _ c)=>match A1h P e,A0C P e,B7o P e with
  |some sz,some z,some b=>if z.length=sz/\z.all (·.oneCell')/\0<sz/\0<=l/\l<=c/\c.toNat*sz<=16777216/\(b:Int)*c<=281474976710656 then
   some (.vref len 0 sz 0 l.toNat,.push (.vec e sz (List.replicate l.toNat (z.map .val)).flatten 0 [(0,l.toNat)]))
   else none
  |_,_,_=>none
 |_,_,_=>none
def C2X(P:Program)(t:TypeId)(x:AV)(len:Nat):Option (AV×Ef):=match P.underlying t,x with
 |some .string,.val (.string s)=>some (.ptr len 0,.push (.siter s 0))
 |_,_=>none
def D4L(x:AV)(g:GT):Option (AV×Ef):=match x with
 |.ptr b 0=>match g b with
  |some (.siter s pos)=>if pos<s.size then
   some (.tuple [.val (.bool true),.val (goInt pos),.val (.int .i32 (Utf8.decode s pos).1)],.put b (.siter s (pos+(Utf8.decode s pos).2)))
   else some (.tuple [.val (.bool false)],.non)
  |_=>none
 |_=>none
def B8B(P:Program)(t:TypeId)(gt:GT)(x:AV)(lo hi mx:Option AV):Option AV:=match x with
 |.vref f g sz lo0 len=>match hi,gt f with
  |some h,some (.vec _ _ _ _ hist)=>match hist.lookup g with
   |some n=>if lo0<=n then match mx with
    |none=>A4X P t f g sz lo0 (n-lo0) lo (some h) none
    |some m=>match A0R P t,A8U (n-lo0) (some m)with
     |some e,some (some q)=>match A1h P e,A1v q (some h)with
      |some _,some hh=>match B0U hh lo with
       |some _=>some .poison
       |none=>none
      |_,_=>none
     |_,_=>none
    else none
   |none=>none
  |_,_=>none
 |_=>none
def C9g(P:Program)(t:TypeId)(gt:GT)(x:AV):Option (AV×Ef):=match x with
 |.vref f g sz lo len=>match A0R P t with
  |some e=>match A0C P e,gt f with
   |some z,some (.vec ty sz2 cs g' hist)=>match hist.lookup g with
    |some n=>if z.length=sz/\sz2=sz/\0<sz/\z.all (·.oneCell')/\lo+len<=n then
     if len=0 then some (.tuple [],.non)else
     some (.tuple [],.put f (.vec ty sz (A0e cs (lo*sz) (List.replicate len (z.map .val)).flatten) g' (A1A sz g (lo*sz) hist)))
     else none
    |none=>none
   |_,_=>none
  |none=>none
 |_=>none
def D9a(P:Program)(src dst:TypeId)(g:GT)(x:AV):Option AV:=match P.underlying src,P.underlying dst,x with
 |some (.pointer t),some .unsafePointer,.ptr b off=>match g b,A1h P t with
  |some (.cells bt cs),some n=>if n≠0/\off<cs.length then some (.ptr b off)else none
  |_,_=>none
 |some .unsafePointer,some (.pointer u),.ptr b off=>match g b,A1h P u with
  |some (.cells bt cs),some n=>if n≠0/\liesAt P P.depth bt (cs.length/P.cellsOf bt) off u 1=true then some (.ptr b off)else none
  |_,_=>none
 |_,_,_=>none
def B9y(gt:GT)(x:AV):Option AV:=match x with
 |.val (.slice none 0 0)=>some (.val (.pointer none))
 |.vref f g sz lo len=>match gt f with
  |some (.vec _ _ _ _ hist)=>match hist.lookup g with
   |some n=>if lo<n then some (.vptr f g (lo*sz))else none
   |none=>none
  |_=>none
 |_=>none
section
variable {P:Program} {M:Mem}
def D0X(a:AV):A3b M a=B9L (λi=>M[i]?) a:=rfl
def B0C(sz:Nat)(a:AV):A0z M sz a=A7b (λi=>M[i]?) sz a:=rfl
def D4b(t:TypeId)(m k:AV)(ok:Bool):A1J P t M m k ok=D0y P t (λi=>M[i]?) m k ok:=rfl
def D1z(t:TypeId)(x:AV):A3d P t M x=C7a P t (λi=>M[i]?) x:=rfl
def C6K(t:TypeId)(x:AV)(lo hi mx:Option AV):A3j P t M x lo hi mx=B8B P t (λi=>M[i]?) x lo hi mx:=rfl
def C6L(x:AV):A3K M x=B9y (λi=>M[i]?) x:=rfl
def D8q(s d:TypeId)(x:AV):B6o P s d M x=D9a P s d (λi=>M[i]?) x:=rfl
def C7p{t:TypeId}{m k v}{e}(h:B7u P t (λi=>M[i]?) m k v=some e):A1u P t M m k v=some (e.mem M)/\e.ok M.length:=by
 unfold B7u at h;split at h;case h_2=>simp at h
 rename_i kt et b hkv;split at h;case h_2=>simp at h
 rename_i es clock hM;have hb:=A0x hM;split at h;case isFalse=>simp at h
 rename_i hc;split at h
 .rename_i i e0 hf;split at h;case h_2=>simp at h
  rename_i ok e1 born hes;split at h;case h_2=>simp at h
  rename_i a c ha hc2;split at h;case isFalse=>simp at h
  rename_i hsb;simp only[Z0a]at h;subst h;exact⟨by simp only[A1u,hkv,hM,hc,Z0H,hf,hes,ha,hc2,hsb,Ef.mem],hb⟩
 .rename_i hf;simp only[Z0a]at h;subst h;exact⟨by simp only[A1u,hkv,hM,hc,Z0H,hf,Ef.mem],hb⟩
 .simp at h
def D9S{t u:TypeId}{d s v}{e}(h:D5H P t u (λi=>M[i]?) d s=some (v,e)):A5H P t u M d s=some (v,e.mem M)/\e.ok M.length:=by
 unfold D5H at h;split at h;case h_2=>simp at h
 rename_i e0 he;split at h;case h_2=>simp at h
 rename_i sz hsz;split at h;case h_2=>simp at h
 rename_i news m hsrc;rw[<-B0C]at hsrc;split at h;case h_2=>simp at h
 rename_i f g sz' lo len;split at h;case h_2=>simp at h
 rename_i ety sz2 cs g' hist hM;split at h;case h_2=>simp at h
 rename_i n hn;split at h;case isFalse=>simp at h
 rename_i hc;split at h
 .rename_i h0;simp only[Z0a,Z0c]at h;obtain⟨rfl,rfl⟩:=h;exact⟨by simp only[A5H,he,hsz,hsrc,hM,hn,Z0d hc,Z0d h0,Ef.mem],trivial⟩
 .rename_i h0;simp only[Z0a,Z0c]at h;obtain⟨rfl,rfl⟩:=h;exact⟨by simp only[A5H,he,hsz,hsrc,hM,hn,Z0d hc,Z0e h0,Ef.mem],A0x hM⟩
def D6a{t:TypeId}{n}{parts}{v}{e}(h:B7n P t n parts M.length=some (v,e)):A1C P t n parts M=some (v,e.mem M)/\e.ok M.length:=by
 unfold B7n at h;split at h;case h_2=>simp at h
 rename_i e he;split at h;case h_2=>simp at h
 rename_i sz z hs hz;split at h;case isFalse=>simp at h
 rename_i hc;simp only[Z0i,Z0c]at h;obtain⟨rows,hr,rfl,rfl⟩:=h;exact⟨by simp only[A1C,he,hs,hz,Z0d hc,hr,Z0M,Ef.mem],trivial⟩
def D6W{t:TypeId}{l c v}{e}(h:C9G P t l c M.length=some (v,e)):A4r P t l c M=some (v,e.mem M)/\e.ok M.length:=by
 unfold C9G at h;split at h;case h_2=>simp at h
 rename_i e kl l kc c he;split at h;case h_2=>simp at h
 rename_i sz z b hs hz hb;split at h;case isFalse=>simp at h
 rename_i hc;simp only[Z0a,Z0c]at h;obtain⟨rfl,rfl⟩:=h;exact⟨by simp only[A4r,he,hs,hz,hb,Z0d hc,Ef.mem],trivial⟩
def D8z{t:TypeId}{x v}{e}(h:C2X P t x M.length=some (v,e)):A6z P t x M=some (v,e.mem M)/\e.ok M.length:=by
 unfold C2X at h;split at h;case h_2=>simp at h
 rename_i str hu;simp only[Z0a,Z0c]at h;obtain⟨rfl,rfl⟩:=h;exact⟨by simp only[A6z,hu,Ef.mem],trivial⟩
def E0U{x v}{e}(h:D4L x (λi=>M[i]?)=some (v,e)):A5D x M=some (v,e.mem M)/\e.ok M.length:=by
 unfold D4L at h;split at h;case h_2=>simp at h
 rename_i b hx;split at h;case h_2=>simp at h
 rename_i str pos hM;split at h
 .rename_i hlt;simp only[Z0a,Z0c]at h;obtain⟨rfl,rfl⟩:=h;exact⟨by simp only[A5D,hM,Z0d hlt,Ef.mem],A0x hM⟩
 .rename_i hlt;simp only[Z0a,Z0c]at h;obtain⟨rfl,rfl⟩:=h;exact⟨by simp only[A5D,hM,Z0e hlt,Ef.mem],trivial⟩
def D6M{t:TypeId}{x v}{e}(h:C9g P t (λi=>M[i]?) x=some (v,e)):A5u P t M x=some (v,e.mem M)/\e.ok M.length:=by
 unfold C9g at h;split at h;case h_2=>simp at h
 rename_i f g sz lo len;split at h;case h_2=>simp at h
 rename_i e0 hel;split at h;case h_2=>simp at h
 rename_i z ety sz2 cs g2 hist hz hM;split at h;case h_2=>simp at h
 rename_i n hn;split at h;case isFalse=>simp at h
 rename_i hc;split at h
 .rename_i h0;simp only[Z0a,Z0c]at h;obtain⟨rfl,rfl⟩:=h;exact⟨by simp only[A5u,hel,hz,hM,hn,Z0d hc,Z0d h0,Ef.mem],trivial⟩
 .rename_i h0;simp only[Z0a,Z0c]at h;obtain⟨rfl,rfl⟩:=h;exact⟨by simp only[A5u,hel,hz,hM,hn,Z0d hc,Z0e h0,Ef.mem],A0x hM⟩
def B4C(e:TypeId)(sz:Nat)(s x:AV)(gt:GT):Option (AV×Ef):=
 match A7b gt sz x,s with
 |some (news,m),.vref f h s' lo len=>match gt f with
  |some (.vec e2 s2 cs g hist)=>match hist.lookup h with
   |some n=>if e2=e/\s'=sz/\s2=sz/\0<m/\lo+len+m<=n then
    some (.vref f h sz lo (len+m),.put f (.vec e sz (A0e cs ((lo+len)*sz) news) g (A1A sz h ((lo+len)*sz) hist)))
    else none
   |none=>none
  |_=>none
 |_,_=>none
def D6g(e:TypeId)(sz:Nat)(s x:AV)(gt:GT)(ln:Nat):Option (AV×Ef):=
 match A7b gt sz x with
 |none=>none
 |some (news,m)=>match s with
  |.val (.slice none 0 0)=>if m=0 then some (s,.non)else some (.vref ln 0 sz 0 m,.push (.vec e sz news 0 [(0,m)]))
  |.list s' [] .full=>if s'=sz then(if m=0 then some (s,.non)else some (.vref ln 0 sz 0 m,.push (.vec e sz news 0 [(0,m)])))else none
  |.vref f h s' lo len=>match gt f with
   |some (.vec e2 s2 cs g hist)=>match hist.lookup h with
    |some n=>if e2=e/\s'=sz/\s2=sz/\lo+len<=n then
     if m=0 then some (s,.non)else
     some (.vref f (g+1) sz 0 (len+m),.put f (.vec e sz ((cs.drop (lo*sz)).take (len*sz)++news) (g+1) ((g+1,len+m)::if lo=0 then hist.filter (λp=>decide (p.2<=len))else[])))
     else none
    |none=>none
   |_=>none
  |_=>none
def C5p(e:TypeId)(sz:Nat)(s x:AV):A3g e sz s x M=(B4C e sz s x (λi=>M[i]?)).map λr=>(r.1,r.2.mem M):=by
 unfold A3g B4C;rw[B0C];cases A7b (λi=>M[i]?) sz x with
 |none=>rfl
 |some r=>
  cases s<;>try rfl
  rename_i f h s' lo len;simp only;cases M[f]? with
  |none=>rfl
  |some ob=>
   cases ob<;>try rfl
   simp only;rename_i hist;cases hist.lookup h with
   |none=>rfl
   |some n=>simp only;split<;>rfl
def D2y{e:TypeId}{sz}{s x v}{ef}(h:B4C e sz s x (λi=>M[i]?)=some (v,ef)):ef.ok M.length:=by
 unfold B4C at h;split at h;case h_2=>simp at h
 split at h;case h_2=>simp at h
 rename_i hM;split at h;case h_2=>simp at h
 split at h;case isFalse=>simp at h
 simp only[Z0a,Z0c]at h;obtain⟨rfl,rfl⟩:=h;exact A0x hM
def E1a{e:TypeId}{sz}{s0 x v}{ef}(h:D6g e sz s0 x (λi=>M[i]?) M.length=some (v,ef)):A2L e sz s0 x M=some (v,ef.mem M)/\ef.ok M.length:=by
 unfold D6g at h;split at h
 .simp at h
 rename_i news m hsrc;rw[<-B0C]at hsrc;split at h
 .split at h
  .rename_i h0;simp only[Z0a,Z0c]at h;obtain⟨rfl,rfl⟩:=h;exact⟨by simp only[A2L,hsrc,Z0d h0,Ef.mem],trivial⟩
  .rename_i h0;simp only[Z0a,Z0c]at h;obtain⟨rfl,rfl⟩:=h;exact⟨by simp only[A2L,hsrc,Z0e h0,Ef.mem],trivial⟩
 .split at h;case isFalse=>simp at h
  rename_i hss;split at h
  .rename_i h0;simp only[Z0a,Z0c]at h;obtain⟨rfl,rfl⟩:=h;exact⟨by simp only[A2L,hsrc,Z0d hss,Z0d h0,Ef.mem],trivial⟩
  .rename_i h0;simp only[Z0a,Z0c]at h;obtain⟨rfl,rfl⟩:=h;exact⟨by simp only[A2L,hsrc,Z0d hss,Z0e h0,Ef.mem],trivial⟩
 .rename_i f h' s' lo len;split at h;case h_2=>simp at h
  rename_i e2 s2 cs g hist hM;split at h;case h_2=>simp at h
  rename_i n hn;split at h;case isFalse=>simp at h
  rename_i hc;split at h
  .rename_i h0;simp only[Z0a,Z0c]at h;obtain⟨rfl,rfl⟩:=h;exact⟨by simp only[A2L,hsrc,hM,hn,Z0d hc,Z0d h0,Ef.mem],trivial⟩
  .rename_i h0;simp only[Z0a,Z0c]at h;obtain⟨rfl,rfl⟩:=h;exact⟨by simp only[A2L,hsrc,hM,hn,Z0d hc,Z0e h0,Ef.mem],A0x hM⟩
 .simp at h
def B7m(P:Program)(t u:TypeId)(s x:AV)(gt:GT)(ln:Nat):Option (AV×Ef):=match A0R P t with
 |some e=>match B2v P e with
  |some (sz,bytes)=>match C3l P u,A8R true s with
   |true,true=>match A7b gt sz s,A7b gt sz x with
    |some (_,k),some (_,m)=>if(k+m)*bytes<=140737488355328 then(match B4C e sz s x gt with|some r=>some r|none=>D6g e sz s x gt ln)else none
    |_,_=>none
   |_,_=>none
  |none=>none
 |none=>none
def C5O{t u:TypeId}{s x v}{ef}(h:B7m P t u s x (λi=>M[i]?) M.length=some (v,ef)):A7s P t u s x M=some (v,ef.mem M,A5w s)/\ef.ok M.length:=by
 unfold B7m at h;split at h;case h_2=>simp at h
 rename_i e he;split at h;case h_2=>simp at h
 rename_i sz bytes hf;split at h;case h_2=>simp at h
 rename_i hu hv;split at h;case h_2=>simp at h
 rename_i c1 k c2 m h1 h2;rw[<-B0C]at h1 h2;split at h;case isFalse=>simp at h
 rename_i hb;have key:∀r,(match A3g e sz s x M with|some r=>some r|none=>A2L e sz s x M)=some r->A3u false true e sz bytes s x M=some r:=by intro r hr;unfold A3u;rw[Z0d hv,h1,h2];simp only;rw[Z0d hb];exact hr
 split at h
 .rename_i r hr;simp only[Z0a]at h;subst h;have:=key (v,ef.mem M) (by rw[C5p,hr];rfl);exact⟨by simp only[A7s,he,hf,hu,hv,this],D2y hr⟩
 .rename_i hr;obtain⟨k1,k2⟩:=E1a h;have:=key (v,ef.mem M) (by rw[C5p,hr];exact k1);exact⟨by simp only[A7s,he,hf,hu,hv,this],k2⟩
end
inductive FK where
 |pure
 |read (r:Nat)
 |write (ws:List Nat)
def FK.ws:FK->List Nat
 |.write ws=>ws
 |_=>[]
def FK.foot(n:Nat):FK->A4V
 |.pure=>⟨0,0,0,[],0⟩
 |.read r=>⟨1,r,0,[],0⟩
 |.write ws=>⟨2,0,0,ws,n⟩
abbrev FR:=AV×Ef×FK
def C3w(s:Option Nat)(g:GT)(a v:AV):Option Ef:=match a with
 |.ptr b off=>match g b with
  |some (.cells bt cs)=>if v.storable&&decide (off+v.cells.length<=cs.length)&&decide (s=some v.cells.length)then some (.put b (.cells bt (A0e cs off v.cells)))else none
  |_=>none
 |.vptr f h off=>match g f with
  |some (.vec vt sz cs g' hist)=>match hist.lookup h with
   |some n=>if v.storable&&decide (off+v.cells.length<=n*sz)&&decide (s=some v.cells.length)then some (.put f (.vec vt sz (A0e cs off v.cells) g' (A1A sz h off hist)))else none
   |none=>none
  |_=>none
 |_=>none
def B3j(P:Program)(pt:TypeId)(gt:GT)(p n:AV):Option (AV×Ef):=match n with
 |.val (.int .i64 n)=>if n=0 then(match p with
  |.val (.pointer none)=>some (.val (.string .empty),.non)
  |.vptr _ _ _=>some (.val (.string .empty),.non)
  |_=>none)else match p with
  |.vptr f g off=>match P.underlying pt,gt f with
   |some (.pointer e),some (.vec ty 1 cs _ hist)=>match hist.lookup g with
    |some m=>if 0<n/\off+n.toNat<=m/\ty=e/\P.cellsOf e=1/\n<=9223372036854775807 then match B0n ((cs.drop off).take n.toNat)with
     |some l=>some (.val (.string ⟨l.toArray⟩),.put f .gone)
     |none=>none
     else none
    |none=>none
   |_,_=>none
  |_=>none
 |_=>none
def B4b(P:Program)(b:Builtin)(ts:List TypeId)(args:List AV)(g:GT):Option (AV×Ef):=match b,ts,args with
 |.copy,[t,u],[d,s]=>D5H P t u g d s
 |.clear,[t],[x]=>C9g P t g x
 |.unsafeSliceData,_,[x]=>match B9y g x with
  |some v=>some (v,.non)
  |none=>none
 |.unsafeString,[pt,it],[p,n]=>B3j P pt g p n
 |_,_,_=>none
def A5n(C:Ctx)(o:Oper)(ρ:Operand->AV)(g:GT)(n:Nat):Option (AV×Ef):=match o.op with
 |.store t a x=>match C3w (A1h C.P t) g (ρ a) (ρ x)with
  |some e=>some (.val undef,e)
  |none=>none
 |.alloc e=>match A0C C.P e with
  |some z=>if z.all (·.oneCell')then some (.ptr n 0,.push (.cells e (z.map .val)))else none
  |none=>none
 |.box e x=>if(ρ x).storable then some (.ptr n 0,.push (.cells e (ρ x).cells))else none
 |.buildSlice t k parts=>if C.data t then none else B7n C.P t k (parts.toList.map λp=>(p.1,ρ p.2)) n
 |.makeSlice t l c=>C9G C.P t (ρ l) (ρ c) n
 |.makeMap t none=>some (.mapr n,.push (.map [] 0))
 |.mapUpdate t m k x=>match B7u C.P t g (ρ m) (ρ k) (ρ x)with
  |some e=>some (.val undef,e)
  |none=>none
 |.insert t m k x=>match B7u C.P t g (ρ m) (ρ k) (ρ x)with
  |some e=>some (.val undef,e)
  |none=>none
 |.range t x=>C2X C.P t (ρ x) n
 |.next x true=>D4L (ρ x) g
 |.slice t x lo hi mx=>match B8B C.P t g (ρ x) (lo.map ρ) (hi.map ρ) (mx.map ρ)with
  |some v=>some (v,.non)
  |none=>none
 |.convert s d x=>match B0v C.P s d (ρ x)with
  |some v=>some (v,.non)
  |none=>match D9a C.P s d g (ρ x)with
   |some v=>some (v,.non)
   |none=>none
 |.call {callee:=.builtin b,args,argTypes}=>B4b C.P b argTypes.toList (args.toList.map ρ) g
 |_=>none
def B2T(C:Ctx)(o:Oper)(ρ:Operand->AV)(g:GT):Option AV:=match o.op with
 |.load t x=>(B9L g (ρ x)).bind (A1g C.P t)
 |.lookup t m k ok=>D0y C.P t g (ρ m) (ρ k) ok
 |.call {callee:=.builtin .len,args,argTypes}=>match args.toList,argTypes.toList with
  |[x],[t]=>(C7a C.P t g (ρ x)).map λ(n:Nat)=>AV.val (.int .i64 n)
  |_,_=>none
 |_=>none
def B0y(C:Ctx)(o:Oper)(ρ:Operand->AV)(g:GT)(n:Nat):Option FR:=match(A0q C HX o ρ).or (A0E C o ρ)with
 |some v=>some (v,.non,.pure)
 |none=>match A0M o ρ with
  |some r=>match B2T C o ρ g with
   |some v=>some (v,.non,.read r)
   |none=>none
  |none=>match A5n C o ρ g n with
   |some (v,e)=>some (v,e,.write (A2c o ρ))
   |none=>none
structure B4G (C:Ctx) (o:Oper) (ρ:Operand->AV) (M:Mem) (v:AV) (e:Ef) (k:FK):Prop where
 ok:e.ok M.length
 eval:A0A C HX o ρ M=some (v,e.mem M)
 kind:match k with
  |.pure=>(A0q C HX o ρ).or (A0E C o ρ)=some v/\e=.non
  |.read r=>(A0q C HX o ρ).or (A0E C o ρ)=none/\A0M o ρ=some r/\A2s C o ρ M=some v/\e=.non/\A2c o ρ=[]
  |.write ws=>(A0q C HX o ρ).or (A0E C o ρ)=none/\A0M o ρ=none/\ws=A2c o ρ
def C7v{C}{o}{ρ:Operand->AV}{M}{v}(h:(A0q C HX o ρ).or (A0E C o ρ)=some v):B4G C o ρ M v .non .pure:=by
 refine⟨trivial,?_,h,rfl⟩;rcases Z3z.1 h with h1|⟨h1,h2⟩
 .simp only[A0A,h1,Ef.mem]
 .have h3:=B1h (h:=HX) h2;simp only[A0A,h1,(h3 _).1,(h3 _).2,h2,Ef.mem]
def B6j{C}{M}{ρ:Operand->AV}{d}{lt:TypeId}{a x}{ty:TypeId}{p}{af}{gd}{e}(h:C3w (A1h C.P lt) (λi=>M[i]?) (ρ a) (ρ x)=some e):
 A0A C HX ⟨d,.store lt a x,ty,p,af,gd⟩ ρ M=some (.val undef,e.mem M)/\e.ok M.length:=by
 have hm:A0U C HX ⟨d,.store lt a x,ty,p,af,gd⟩ ρ M=some (.val undef,e.mem M)/\e.ok M.length:=by
  unfold C3w at h;split at h
  .rename_i b off hb;split at h;(case h_2=>simp at h);rename_i bt cs hM;split at h;(case isFalse=>simp at h);rename_i hc;simp only[Z0a]at h;subst h;exact⟨by simp only[A0U,hb,hM,hc,Z0H,Ef.mem],A0x hM⟩
  .rename_i f g' off hb;split at h;(case h_2=>simp at h);rename_i vt sz cs g2 hist hM;split at h;(case h_2=>simp at h);rename_i n hn;split at h;(case isFalse=>simp at h);rename_i hc;simp only[Z0a]at h;subst h;exact⟨by simp only[A0U,hb,hM,hn,hc,Z0H,Ef.mem],A0x hM⟩
  .simp at h
 refine⟨?_,hm.2⟩
 have hp:A0q C HX ⟨d,.store lt a x,ty,p,af,gd⟩ ρ=none:=rfl
 simp only[A0A,hp,hm.1]
def C5k{P}{M}{pt:TypeId}{p n v}{e}(h:B3j P pt (λi=>M[i]?) p n=some (v,e)):A2q P pt M p n=some (v,e.mem M)/\e.ok M.length:=by
 unfold B3j at h;split at h;case h_2=>simp at h
 rename_i n;split at h
 .rename_i h0;split at h
  .simp only[Z0a,Z0c]at h;obtain⟨rfl,rfl⟩:=h;exact⟨by simp only[A2q,Z0d h0,Ef.mem],trivial⟩
  .simp only[Z0a,Z0c]at h;obtain⟨rfl,rfl⟩:=h;exact⟨by simp only[A2q,Z0d h0,Ef.mem],trivial⟩
  .simp at h
 .rename_i h0;split at h;case h_2=>simp at h
  rename_i f g' off;split at h;case h_2=>simp at h
  rename_i e0 ety cs g2 hist hu hM;split at h;case h_2=>simp at h
  rename_i m hm;split at h;case isFalse=>simp at h
  rename_i hc;split at h;case h_2=>simp at h
  rename_i l hl;simp only[Z0a,Z0c]at h;obtain⟨rfl,rfl⟩:=h;exact⟨by simp only[A2q,Z0e h0,hu,hM,hm,Z0d hc,hl,Ef.mem],A0x hM⟩
def B7Z{C}{o}{ρ:Operand->AV}{M}{v}{e}(hp:(A0q C HX o ρ).or (A0E C o ρ)=none)(h:A5n C o ρ (λi=>M[i]?) M.length=some (v,e)):A0A C HX o ρ M=some (v,e.mem M)/\e.ok M.length:=by
 simp only[Z2Z]at hp;obtain⟨w,y⟩:=hp;have s:∀r,A0U C HX o ρ M=some r->A0A C HX o ρ M=some r:=λr hr=>by simp only[A0A,w,hr]
 have f:∀r,A0U C HX o ρ M=none->A0Q C HX o ρ M=some r->A0A C HX o ρ M=some r:=λr h1 hr=>by simp only[A0A,w,h1,hr]
 have j:∀r,A0U C HX o ρ M=none->A0Q C HX o ρ M=none->A2Q C o ρ M=some r->A0A C HX o ρ M=some r:=λr h1 h2 hr=>by simp only[A0A,w,h1,h2,y,hr]
 obtain⟨d,op,t,p,af,g⟩:=o;cases op<;>first|(simp[A5n]at h;done)|skip
 case store lt a x=>
  simp only[A5n]at h;split at h;case h_2=>simp at h
  rename_i e0 hs;simp only[Z0a,Z0c]at h;obtain⟨rfl,rfl⟩:=h;exact B6j hs
 case alloc et=>
  simp only[A5n]at h;split at h;case h_2=>simp at h
  rename_i z hz;split at h;case isFalse=>simp at h
  rename_i hc;simp only[Z0a,Z0c]at h;obtain⟨rfl,rfl⟩:=h;exact⟨s _ (by simp only[A0U,hz,hc,Z0H,Ef.mem]),trivial⟩
 case box et x=>
  simp only[A5n]at h;split at h;case isFalse=>simp at h
  rename_i hc;simp only[Z0a,Z0c]at h;obtain⟨rfl,rfl⟩:=h;exact⟨s _ (by simp only[A0U,hc,Z0H,Ef.mem]),trivial⟩
 case buildSlice bt n ps=>
  simp only[A5n]at h;split at h
  .simp at h
  rename_i q;have q:C.data bt=false:=by simpa using q
  obtain⟨k1,k2⟩:=D6a h;cases d with
  |none=>exfalso;simp only[A0q,B3L,A1V,Z0q]at w;unfold B7n at h;split at h;(case h_2=>simp at h);rename_i e0 he;split at h;(case h_2=>simp at h);rename_i sz z hs hz;split at h;(case isFalse=>simp at h);rename_i hc;simp only[Z0i,Z0c]at h;obtain⟨rows,hr,-,-⟩:=h;simp only[he,hs,hz,Z0d hc,hr]at w;simp at w
  |some d=>exact⟨f _ rfl (by show(if B3L C HX bt (some d)=true then A1C C.P bt n _ M else none)=_;rw[Z0d (show B3L C HX bt (some d)=true by simp[B3L,A1V,HX,q])];exact k1),k2⟩
 case makeSlice st l c=>simp only[A5n]at h;obtain⟨k1,k2⟩:=D6W h;exact⟨f _ rfl k1,k2⟩
 case makeMap mt r=>
  cases r with
  |some r=>simp[A5n]at h
  |none=>simp only[A5n,Z0a,Z0c]at h;obtain⟨rfl,rfl⟩:=h;exact⟨f _ rfl rfl,trivial⟩
 case mapUpdate mt m k x=>
  simp only[A5n]at h;split at h;case h_2=>simp at h
  rename_i e0 hs;simp only[Z0a,Z0c]at h;obtain⟨rfl,rfl⟩:=h;obtain⟨k1,k2⟩:=C7p hs;exact⟨f _ rfl (by simp only[A0Q,k1,Z0M]),k2⟩
 case insert mt m k x=>
  simp only[A5n]at h;split at h;case h_2=>simp at h
  rename_i e0 hs;simp only[Z0a,Z0c]at h;obtain⟨rfl,rfl⟩:=h;obtain⟨k1,k2⟩:=C7p hs;exact⟨f _ rfl (by simp only[A0Q,k1,Z0M]),k2⟩
 case range rt x=>simp only[A5n]at h;obtain⟨k1,k2⟩:=D8z h;exact⟨j _ rfl rfl k1,k2⟩
 case next x b=>
  cases b with
  |false=>simp[A5n]at h
  |true=>simp only[A5n]at h;obtain⟨k1,k2⟩:=E0U h;exact⟨j _ rfl rfl k1,k2⟩
 case slice st x lo hi mx=>
  simp only[A5n]at h;split at h;case h_2=>simp at h
  rename_i v0 hs;simp only[Z0a,Z0c]at h;obtain⟨rfl,rfl⟩:=h;rw[<-C6K]at hs;exact⟨j _ rfl rfl (by simp only[A2Q,hs,Z0M,Ef.mem]),trivial⟩
 case convert a b x=>
  simp only[A5n]at h;split at h
  .rename_i v0 hs;simp only[Z0a,Z0c]at h;obtain⟨rfl,rfl⟩:=h;exact⟨j _ rfl rfl (by simp only[A2Q,hs,Ef.mem]),trivial⟩
  .rename_i hs;split at h;(case h_2=>simp at h);rename_i v0 hs2;simp only[Z0a,Z0c]at h;obtain⟨rfl,rfl⟩:=h;rw[<-D8q]at hs2;exact⟨j _ rfl rfl (by simp only[A2Q,hs,hs2,Z0M,Ef.mem]),trivial⟩
 case call c=>
  obtain⟨callee,args,ts⟩:=c;cases callee with
  |builtin b=>
   simp only[A5n]at h;unfold B4b at h;split at h
   .rename_i t' u x s0 hts hargs;obtain⟨k1,k2⟩:=D9S h;exact⟨f _ rfl (by simp only[A0Q,hts,hargs,A2e,k1]),k2⟩
   .rename_i ty x hts hargs;obtain⟨k1,k2⟩:=D6M h;exact⟨j _ rfl (by simp only[A0Q,A2e]) (by simp only[A2Q,hts,hargs,A3n,k1]),k2⟩
   .rename_i x hargs;split at h;(case h_2=>simp at h);rename_i v0 hs;simp only[Z0a,Z0c]at h;obtain⟨rfl,rfl⟩:=h;rw[<-C6L]at hs;exact⟨j _ rfl (by simp only[A0Q,A2e]) (by simp only[A2Q,hargs,A3n,hs,Z0M,Ef.mem]),trivial⟩
   .rename_i pt it pp nn hts hargs;obtain⟨k1,k2⟩:=C5k h;exact⟨j _ rfl (by simp only[A0Q,A2e]) (by simp only[A2Q,hts,hargs,A3n,k1]),k2⟩
   .simp at h
  |_=>simp[A5n]at h
def B9C{C}{o}{ρ:Operand->AV}{M}{v}{r}(hp:(A0q C HX o ρ).or (A0E C o ρ)=none)(hr:A0M o ρ=some r)(h:B2T C o ρ (λi=>M[i]?)=some v):B4G C o ρ M v .non (.read r):=by
 have q:=hp;simp only[Z2Z]at hp;obtain⟨a,w⟩:=hp;obtain⟨d,op,t,p,af,g⟩:=o;cases op<;>first|(simp[B2T]at h;done)|skip
 case load lt x=>
  simp only[B2T,<-D0X]at h;have l:A2s C ⟨d,.load lt x,t,p,af,g⟩ ρ M=some v:=h;refine⟨trivial,?_,q,hr,l,rfl,rfl⟩;have hm:A0U C HX ⟨d,.load lt x,t,p,af,g⟩ ρ M=some (v,M):=by
   simp only[A0M]at hr;simp only[A0U];split at hr
   .rename_i b off hb;rw[hb]at h|-;simp only;rw[h];rfl
   .rename_i f h' off hb;rw[hb]at h|-;simp only;rw[h];rfl
   .simp at hr
  simp only[A0A,a,hm,Ef.mem]
 case lookup mt m k ok=>
  simp only[B2T,<-D4b]at h;refine⟨trivial,?_,q,hr,h,rfl,rfl⟩;have hm:A0U C HX ⟨d,.lookup mt m k ok,t,p,af,g⟩ ρ M=none:=rfl;have s:A0Q C HX ⟨d,.lookup mt m k ok,t,p,af,g⟩ ρ M=some (v,M):=by simp only[A0Q,h,Z0M]
  simp only[A0A,a,hm,s,Ef.mem]
 case call c=>
  obtain⟨callee,args,ts⟩:=c;cases callee with
  |builtin b=>
   cases b<;>first|(simp[B2T]at h;done)|skip
   case len=>
    simp only[B2T]at h;split at h;(case h_2=>simp at h);rename_i x t' ha ht;simp only[Z0i,<-D1z]at h;obtain⟨n,hn,rfl⟩:=h;(have j:args=#[x]:=by apply Z1B;simpa using ha);(have u:ts=#[t']:=by apply Z1B;simpa using ht);subst j;subst u;have hl:A1Z C.P t' (ρ x)=none:=by
     have e:A0q C HX ⟨d,.call {callee:=.builtin .len,args:=#[x],argTypes:=#[t']},t,p,af,g⟩ ρ=(A1Z C.P t' (ρ x)).map λ(n:Nat)=>AV.val (goInt (n:Int)):=rfl;rw[e]at a;cases hl:A1Z C.P t' (ρ x)with
     |none=>rfl
     |some n=>rw[hl]at a;simp at a
    (have l:A2s C ⟨d,.call {callee:=.builtin .len,args:=#[x],argTypes:=#[t']},t,p,af,g⟩ ρ M=some (.val (.int .i64 n)):=by simp only[A2s,hl,hn,Z2M,Z0M]);refine⟨trivial,?_,q,hr,l,rfl,?_⟩
    .have hm:A0U C HX ⟨d,.call {callee:=.builtin .len,args:=#[x],argTypes:=#[t']},t,p,af,g⟩ ρ M=none:=rfl;(have s:A0Q C HX ⟨d,.call {callee:=.builtin .len,args:=#[x],argTypes:=#[t']},t,p,af,g⟩ ρ M=some (.val (.int .i64 n),M):=by simp only[A0Q,Z0B,Z2g,A2e,hn];rfl);simp only[A0A,a,hm,s,Ef.mem]
    .simp only[A0M]at hr;simp only[A2c];split at hr
     .rename_i b hb;rw[hb]
     .simp at hr
  |_=>simp[B2T]at h
def A3Q{C}{o}{ρ:Operand->AV}{M}{v}{e}{k}(h:B0y C o ρ (λi=>M[i]?) M.length=some (v,e,k)):B4G C o ρ M v e k:=by
 unfold B0y at h;split at h
 .rename_i v0 hp;simp only[Z0a,Z0c]at h;obtain⟨rfl,rfl,rfl⟩:=h;exact C7v hp
 .rename_i hp;split at h
  .rename_i r hr;split at h;(case h_2=>simp at h);rename_i v0 hv;simp only[Z0a,Z0c]at h;obtain⟨rfl,rfl,rfl⟩:=h;exact B9C hp hr hv
  .rename_i hr;split at h;(case h_2=>simp at h);rename_i v0 e0 hv;simp only[Z0a,Z0c]at h;obtain⟨rfl,rfl,rfl⟩:=h;obtain⟨k1,k2⟩:=B7Z hp hv;exact⟨k2,k1,hp,hr,rfl⟩
inductive Arg where
 |tmp (i:Nat)
 |cst (v:AV)
def A3M(C:Ctx):Operand->Arg
 |.tmp t=>.tmp t
 |.const v=>.cst (.val v)
 |.global g=>.cst (C.gl g)
 |.func f=>.cst (.func (.func f) [] [])
noncomputable def rd(t:BT):Arg->AV
 |.tmp i=>t.getR i
 |.cst v=>v
def A4Y{C}{t}(x:Operand):rd t (A3M C x)=t.fn.ev C x:=by cases x<;>first|rfl|exact BT.getR_eq _ _
inductive FOp where
 |mv (a:Arg)
 |pick (c a b:Arg)
 |ld (ag:Option Bool) (n:Option Nat) (a:Arg)
 |st (s:Option Nat) (a x:Arg)
 |faddr (k:Option Nat) (a:Arg)
 |ext (a:Arg) (i:Nat)
 |bin (op:BinOp) (x y:Arg)
 |notb (a:Arg)
 |nilc (a:Arg)
 |idx (e:Option (Option Nat)) (x i:Arg)
 |lenS (a:Arg)
 |lenStr (a:Arg)
 |allc (e:TypeId) (z:List AV)
 |bx (e:TypeId) (a:Arg)
 |call (f:Arg) (as:List Arg)
 |app (t u:TypeId) (s x:Arg)
 |gen
def A3r(C:Ctx)(o:Oper):FOp:=match o.op with
 |.move x=>.mv (A3M C x)
 |.assign x=>.mv (A3M C x)
 |.pick c a b=>.pick (A3M C c) (A3M C a) (A3M C b)
 |.load t x=>.ld (A2i C.P t) (A1h C.P t) (A3M C x)
 |.store t a x=>.st (A1h C.P t) (A3M C a) (A3M C x)
 |.fieldAddr t x f=>.faddr (A1q C.P t f) (A3M C x)
 |.extract x i=>.ext (A3M C x) i
 |.binOp op t x y _=>.bin op (A3M C x) (A3M C y)
 |.unOp .not _ x=>.notb (A3M C x)
 |.nilCheck x=>.nilc (A3M C x)
 |.indexAddr t x i=>.idx ((A0R C.P t).map (A1h C.P)) (A3M C x) (A3M C i)
 |.alloc e=>match A0C C.P e with
  |some z=>match z.all (·.oneCell')with
   |true=>.allc e (z.map .val)
   |false=>.gen
  |none=>.gen
 |.box e x=>.bx e (A3M C x)
 |.call {callee:=.value f,args,..}=>.call (A3M C f) (args.toList.map (A3M C))
 |.call {callee:=.builtin .append,args,argTypes}=>match args.toList,argTypes.toList with
  |[s,x],[t,u]=>match o.dst with
   |some _=>.app t u (A3M C s) (A3M C x)
   |none=>.gen
  |_,_=>.gen
 |.call {callee:=.builtin .len,args,argTypes}=>match args.toList,argTypes.toList with
  |[x],[t]=>match C.P.underlying t with
   |some (.slice _)=>.lenS (A3M C x)
   |some .string=>.lenStr (A3M C x)
   |_=>.gen
  |_,_=>.gen
 |_=>.gen
def D8M(c a b:AV):Option FR:=match c with
 |.val (.bool true)=>some (a,.non,.pure)
 |.val (.bool false)=>some (b,.non,.pure)
 |_=>none
def okv(v:Option AV)(k:FK):Option FR:=match v with
 |some v=>some (v,.non,k)
 |none=>none
def rLd(ag:Option Bool)(n:Option Nat)(g:GT)(a:AV):Option FR:=match a with
 |.cptr cs=>okv (A7r ag n cs) .pure
 |.ptr b off=>match g b with
  |some (.cells _ cs)=>match Nat.ble off cs.length with
   |true=>okv (A7r ag n (cs.drop off)) (.read b)
   |false=>none
  |_=>none
 |.vptr f h off=>match B9L g (.vptr f h off)with
  |some cs=>okv (A7r ag n cs) (.read f)
  |none=>none
 |_=>none
def rSt(s:Option Nat)(g:GT)(a x:AV):Option FR:=match C3w s g a x with
 |some e=>some (.val undef,e,.write (match a with|.ptr b _=>[b]|.vptr f _ _=>[f]|_=>[]))
 |none=>none
def E3B(op:BinOp)(x y:AV)(gen:Option FR):Option FR:=match x,y with
 |.val (.int k a),.val (.int k' b)=>match decide (k=k')with
  |true=>match A9x op k a b with
   |some v=>some (.val v,.non,.pure)
   |none=>gen
  |false=>gen
 |_,_=>gen
def D8U(a:AV)(gen:Option FR):Option FR:=match a with
 |.vref _ _ _ _ len=>some (.val (.int .i64 len),.non,.pure)
 |.val (.slice none 0 0)=>some (.val (.int .i64 0),.non,.pure)
 |.list _ rows _=>some (.val (.int .i64 rows.length),.non,.pure)
 |_=>gen
def D0C(a:AV)(gen:Option FR):Option FR:=match a with
 |.val (.string s)=>some (.val (.int .i64 s.size),.non,.pure)
 |_=>gen
def rBx(e:TypeId)(n:Nat)(a:AV):Option FR:=match a.storable with
 |true=>some (.ptr n 0,.push (.cells e a.cells),.write [])
 |false=>none
noncomputable def A4M(C:Ctx)(o:Oper)(f:FOp)(t:BT)(g:GT)(n:Nat):Option FR:=match f with
 |.mv a=>some (rd t a,.non,.pure)
 |.pick c a b=>D8M (rd t c) (rd t a) (rd t b)
 |.ld ag s a=>rLd ag s g (rd t a)
 |.st s a x=>rSt s g (rd t a) (rd t x)
 |.faddr k a=>okv (A8Y k (rd t a)) .pure
 |.ext a i=>okv (A7Z (rd t a) i) .pure
 |.bin op x y=>E3B op (rd t x) (rd t y) (B0y C o (t.fn.ev C) g n)
 |.notb a=>okv (C2z (rd t a)) .pure
 |.nilc a=>okv (B4X (rd t a)) .pure
 |.idx e x i=>match A6s e (rd t x) (rd t i)with
  |some v=>some (v,.non,.pure)
  |none=>B0y C o (t.fn.ev C) g n
 |.lenS a=>D8U (rd t a) (B0y C o (t.fn.ev C) g n)
 |.lenStr a=>D0C (rd t a) (B0y C o (t.fn.ev C) g n)
 |.allc e z=>some (.ptr n 0,.push (.cells e z),.write [])
 |.bx e a=>rBx e n (rd t a)
 |.call _ _=>none
 |.app _ _ _ _=>none
 |.gen=>B0y C o (t.fn.ev C) g n
def B7V{v}{k}{r}(h:okv v k=some r):∃u,v=some u/\r=(u,.non,k):=by
 cases v with
 |none=>simp[okv]at h
 |some u=>simp only[okv,Z0a]at h;exact⟨u,rfl,h.symm⟩
def C5C{C}{o}{t}{M}{v}{e}{k}(h:A4M C o (A3r C o) t (λi=>M[i]?) M.length=some (v,e,k)):B4G C o (t.fn.ev C) M v e k:=by
 have j:∀{u:AV},A0q C HX o (t.fn.ev C)=some u->B4G C o (t.fn.ev C) M u .non .pure:=λhu=>C7v (by rw[hu];rfl);obtain⟨d,op,ty,p,af,g⟩:=o;have q:A4M C ⟨d,op,ty,p,af,g⟩ .gen t (λi=>M[i]?) M.length=some (v,e,k)->B4G C ⟨d,op,ty,p,af,g⟩ (t.fn.ev C) M v e k:=λh=>A3Q h;have m:∀{w:Option AV},okv w .pure=some (v,e,k)->A0q C HX ⟨d,op,ty,p,af,g⟩ (t.fn.ev C)=w->B4G C ⟨d,op,ty,p,af,g⟩ (t.fn.ev C) M v e k:=by intro w hw he;obtain⟨u,hu,hr⟩:=B7V hw;simp only[Z0c]at hr;obtain⟨rfl,rfl,rfl⟩:=hr;exact j (he.trans hu)
 cases op<;>first|exact q h|skip
 case move x=>simp only[A3r,A4M,A4Y,Z0a,Z0c]at h;obtain⟨rfl,rfl,rfl⟩:=h;exact j rfl
 case assign x=>simp only[A3r,A4M,A4Y,Z0a,Z0c]at h;obtain⟨rfl,rfl,rfl⟩:=h;exact j rfl
 case pick c a b=>
  simp only[A3r,A4M,A4Y]at h;unfold D8M at h;split at h
  .rename_i hc;simp only[Z0a,Z0c]at h;obtain⟨rfl,rfl,rfl⟩:=h;exact j (by simp only[A0q,hc,Z0H])
  .rename_i hc;simp only[Z0a,Z0c]at h;obtain⟨rfl,rfl,rfl⟩:=h;exact j (by simp only[A0q,hc];rfl)
  .simp at h
 case unOp uop ut x=>
  cases uop<;>first|exact q h|skip
  simp only[A3r,A4M,A4Y]at h;exact m h rfl
 case nilCheck x=>simp only[A3r,A4M,A4Y]at h;exact m h rfl
 case fieldAddr ft x f=>simp only[A3r,A4M,A4Y]at h;exact m h rfl
 case extract x i=>simp only[A3r,A4M,A4Y]at h;exact m h rfl
 case indexAddr it x i=>
  simp only[A3r,A4M,A4Y]at h;split at h
  .rename_i u hu;simp only[Z0a,Z0c]at h;obtain⟨rfl,rfl,rfl⟩:=h;refine j ?_;rw[<-hu];simp only[A0q,A6s];cases A0R C.P it with
   |none=>rfl
   |some e=>cases t.fn.ev C x<;>first|rfl|(cases t.fn.ev C i<;>first|rfl|(rename_i v;cases v<;>rfl))
  .exact A3Q h
 case binOp bop bt x y yt=>
  simp only[A3r,A4M,A4Y]at h;unfold E3B at h;split at h
  .rename_i k1 a k2 b hx hy;split at h
   .rename_i hk;simp only[Z0m]at hk;subst hk;split at h
    .rename_i u hu;simp only[Z0a,Z0c]at h;obtain⟨rfl,rfl,rfl⟩:=h;refine j ?_;simp only[A0q,hx,hy,D2J,hu,Z0M]
    .exact A3Q h
   .exact A3Q h
  .exact A3Q h
 case load lt x=>
  simp only[A3r,A4M,A4Y]at h;unfold rLd at h;split at h
  .rename_i cs hx;exact m h (by simp only[A0q,hx,A0k])
  .rename_i b off hx;split at h;(case h_2=>simp at h);rename_i bt cs hM;split at h;(case h_2=>simp at h);rename_i a0;have a0:=Z2Y a0;obtain⟨u,hu,hr⟩:=B7V h;simp only[Z0c]at hr;obtain⟨rfl,rfl,rfl⟩:=hr;refine B9C (by simp only[A0q,hx,A0E];rfl) (by simp only[A0M,hx]) ?_;simp only[B2T,hx,B9L,hM,Z0d a0,Z2C,A0k];exact hu
  .rename_i f h' off hx;split at h;(case h_2=>simp at h);rename_i cs hM;obtain⟨u,hu,hr⟩:=B7V h;simp only[Z0c]at hr;obtain⟨rfl,rfl,rfl⟩:=hr;refine B9C (by simp only[A0q,hx,A0E];rfl) (by simp only[A0M,hx]) ?_;simp only[B2T,hx,hM,Z2C,A0k];exact hu
  .simp at h
 case store lt a x=>
  simp only[A3r,A4M,A4Y]at h;unfold rSt at h;split at h;case h_2=>simp at h
  rename_i e0 hs;simp only[Z0a,Z0c]at h;obtain⟨rfl,rfl,rfl⟩:=h;obtain⟨k1,k2⟩:=B6j hs;exact⟨k2,k1,rfl,rfl,rfl⟩
 case alloc et=>
  simp only[A3r]at h;split at h;case h_2=>exact A3Q h
  rename_i z hz;split at h;case h_2=>exact A3Q h
  rename_i hall;simp only[A4M,Z0a,Z0c]at h;obtain⟨rfl,rfl,rfl⟩:=h;obtain⟨k1,k2⟩:=B7Z (C:=C) (o:=⟨d,.alloc et,ty,p,af,g⟩) (ρ:=t.fn.ev C) (M:=M) (v:=.ptr M.length 0) (e:=.push (.cells et (z.map .val))) rfl (by simp only[A5n,hz,hall,Z0H]);exact⟨k2,k1,rfl,rfl,rfl⟩
 case box et x=>
  simp only[A3r,A4M,A4Y]at h;unfold rBx at h;split at h;case h_2=>simp at h
  rename_i hs;simp only[Z0a,Z0c]at h;obtain⟨rfl,rfl,rfl⟩:=h;have hp:(A0q C HX ⟨d,.box et x,ty,p,af,g⟩ (t.fn.ev C)).or (A0E C ⟨d,.box et x,ty,p,af,g⟩ (t.fn.ev C))=none:=by
   (have hh:A1V HX.imm d=false:=by cases d<;>rfl);simp only[A0q,hh,Z0q]
   rfl
  obtain⟨k1,k2⟩:=B7Z (C:=C) (o:=⟨d,.box et x,ty,p,af,g⟩) (ρ:=t.fn.ev C) (M:=M) (v:=.ptr M.length 0) (e:=.push (.cells et (t.fn.ev C x).cells)) hp (by simp only[A5n,hs,Z0H]);exact⟨k2,k1,hp,rfl,rfl⟩
 case call c=>
  obtain⟨callee,args,ts⟩:=c;cases callee with
  |value f=>simp[A3r,A4M]at h
  |builtin b=>
   cases b<;>first|exact q h|skip
   case append=>
    simp only[A3r]at h;split at h
    .split at h
     .simp[A4M]at h
     .exact A3Q h
    .exact A3Q h
   case len=>
    simp only[A3r]at h;split at h;(case h_2=>exact A3Q h);rename_i x t' ha ht;(have a5:ts=#[t']:=by apply Z1B;simpa using ht);subst a5;(have r:args=#[x]:=by apply Z1B;simpa using ha);subst r;(have l:∀n:Nat,A1Z C.P t' (t.fn.ev C x)=some n->A0q C HX ⟨d,.call {callee:=.builtin .len,args:=#[x],argTypes:=#[t']},ty,p,af,g⟩ (t.fn.ev C)=some (.val (.int .i64 n)):=by intro n hn;show(A1Z C.P t' (t.fn.ev C x)).map (λ(n:Nat)=>AV.val (goInt (n:Int)))=_;rw[hn];rfl);split at h
    .rename_i et hu;simp only[A4M,A4Y]at h;unfold D8U at h;split at h
     .rename_i a1 a2 a3 a4 len hx;simp only[Z0a,Z0c]at h;obtain⟨rfl,rfl,rfl⟩:=h;exact j (l _ (by simp only[A1Z,hx,hu]))
     .rename_i hx;simp only[Z0a,Z0c]at h;obtain⟨rfl,rfl,rfl⟩:=h;exact j (l _ (by simp only[A1Z,hx,hu]))
     .rename_i sz rows own hx;simp only[Z0a,Z0c]at h;obtain⟨rfl,rfl,rfl⟩:=h;exact j (l _ (by simp only[A1Z,hx,hu]))
     .exact A3Q h
    .rename_i hu;simp only[A4M,A4Y]at h;unfold D0C at h;split at h
     .rename_i s hx;simp only[Z0a,Z0c]at h;obtain⟨rfl,rfl,rfl⟩:=h;exact j (l _ (by simp only[A1Z,hx,hu]))
     .exact A3Q h
    .exact A3Q h
  |_=>exact q h
end Go.Abs
