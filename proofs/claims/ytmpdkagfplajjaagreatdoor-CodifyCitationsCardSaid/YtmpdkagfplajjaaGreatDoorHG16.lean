/- The texts AbsV5, AbsR, AbsR2, AbsR3, AbsR4, AbsR5. -/
import Derived.Test.YtmpdkagfplajjaaGreatDoorHG15
import Derived.Laws.Externs
set_option linter.all false
namespace Go.Abs
def D6J:List AV->Mem->Option XR
 |[v],M=>some (v,M,[])
 |_,_=>none
def B4l:List AV->Mem->Option XR
 |[.val (.string s),.val (.int .u8 c)],M=>some (.val (match(List.range s.size).find? λi=>s[i]! ==c.toNat.toUInt8 with
  |some i=>goInt i
  |none=>goInt (-1)),M,[])
 |_,_=>none
section
variable {C:Ctx} {f:FuncId} {fn:Func}
def D5z(hf:C.P.funcs[f]?=some fn)(a:(fn.name== "runtime.NumGoroutine")=false)(hb:fn.body.isNone=true)(hn:Extern.findNext fn=none)(he:Extern.find fn=some Extern.AbiNoEscape.same):∀args M v M1 ws,D6J args M=some (v,M1,ws)->A4r C f args M (λr m=>r=v/\m=M1)/\D0w (D6J args) M v M1 ws:=by
 intro args M v M1 ws h
 unfold D6J at h
 split at h
 case h_2=>simp at h
 rename_i u M
 simp only[Z0b,Z0h]at h
 obtain⟨rfl,rfl,rfl⟩:=h
 refine⟨.inr λG w vs hi hr=>?_,.same λ_ _ _=>rfl⟩
 simp only[A0t]at hr
 obtain⟨y,_,rfl,hy,rfl⟩:=hr
 exact⟨y,w,G,_,_,by rw[run_callFunc_extern hf a hb hn he];rfl,⟨rfl,rfl⟩,.refl _,hi,hy,.refl _⟩
def C0T(hf:C.P.funcs[f]?=some fn)(a:(fn.name== "runtime.NumGoroutine")=false)(hb:fn.body.isNone=true)(hn:Extern.findNext fn=none)(he:Extern.find fn=some Extern.BytealgIndexByte.indexByte):∀args M v M1 ws,B4l args M=some (v,M1,ws)->A4r C f args M (λr m=>r=v/\m=M1)/\D0w (B4l args) M v M1 ws:=by
 intro args M v M1 ws h
 unfold B4l at h
 split at h
 case h_2=>simp at h
 rename_i M s c
 simp only[Z0b,Z0h]at h
 obtain⟨rfl,rfl,rfl⟩:=h
 refine⟨.inr λG w vs hi hr=>?_,.same λ_ _ _=>rfl⟩
 simp only[A0t,Rep]at hr
 obtain⟨y,_,rfl,rfl,y2,_,rfl,rfl,rfl⟩:=hr
 have key:((Extern.BytealgIndexByte.indexByte #[.string s,.int .u8 c]).run C.P w)=.ok (match(List.range s.size).find? λi=>s[i]! ==c.toNat.toUInt8 with
  |some i=>goInt i
  |none=>goInt (-1)) w:=by
  show((match(List.range s.size).find? λi=>s[i]! ==c.toNat.toUInt8 with
   |some i=>pure (goInt i)
   |none=>pure (goInt (-1))):Sem Value).run C.P w=_
  generalize(List.range s.size).find? _=r
  cases r<;>rfl
 have run:(callFunc f #[.string s,.int .u8 c]).run C.P w=.ok (.value (match(List.range s.size).find? λi=>s[i]! ==c.toNat.toUInt8 with
  |some i=>goInt i
  |none=>goInt (-1))) w:=by
  rw[run_callFunc_extern hf a hb hn he,key];rfl
 exact⟨_,w,G,_,_,run,⟨rfl,rfl⟩,.refl _,hi,by simp only[Rep],.refl _⟩
end
def D4q(P:Program)(t:TypeId):AV->Option AV
 |.cptr cs=>A1n P t cs
 |_=>none
@[simp] def D9R{P}{t:TypeId}{cs}:D4q P t (.cptr cs)=A1n P t cs:=(rfl)
def E3E(imm:Bool)(x:AV):Option AV:=if imm&&x.storable then some (.cptr x.cells)else none
def B5L(u:Option TypeDesc)(x i:AV):Option AV:=match u,x,i with
 |some .string,.val (.string s),.val (.int _ i)=>if 0<=i/\i<s.size then some (.val (.int .u8 (s.data.getD i.toNat 0).toNat))else none
 |_,_,_=>none
def A0P(s:ByteArray)(i:Nat):Int:=(s.data.getD i 0).toNat
@[simp] def E1g{s}{k}{i}:B5L (some .string) (.val (.string s)) (.val (.int k i))=if 0<=i/\i<s.size then some (.val (.int .u8 (A0P s i.toNat)))else none:=(rfl)
def C3H(P:Program)(f:Option (Nat×TypeId))(x:AV):Option AV:=match f,x with
 |some (k,ft),.agg cs=>if(A1u P ft).any (λn=>decide (k+n<=cs.length))then A1n P ft (cs.drop k)else none
 |_,_=>none
@[simp] def D9J{P}{k}{ft:TypeId}{cs}:C3H P (some (k,ft)) (.agg cs)=if(A1u P ft).any (λn=>decide (k+n<=cs.length))=true then A1n P ft (cs.drop k)else none:=(rfl)
def D4i:AV->Option AV
 |.val (.int k n)=>some (.val (.int k (k.wrap (0-n))))
 |_=>none
@[simp] def E2D{k}{n}:D4i (.val (.int k n))=some (.val (.int k (k.wrap (0-n)))):=(rfl)
def pOp(C:Ctx)(h:A2u)(o:Oper)(ρ:Operand->AV):Option AV:=match o.op with
 |.move x=>some (ρ x)
 |.assign x=>some (ρ x)
 |.pick c a b=>B7V (ρ c) (ρ a) (ρ b)
 |.nilCheck x=>B7q (ρ x)
 |.binOp op t x y _=>A1B C.P op t (ρ x) (ρ y)
 |.unOp .not _ x=>C7A (ρ x)
 |.unOp .neg _ x=>D4i (ρ x)
 |.fieldAddr t x f=>B1b (A1t C.P t f) (ρ x)
 |.field t x f=>C3H C.P (A0K C.P t f) (ρ x)
 |.extract x i=>B0k (ρ x) i
 |.indexAddr t x i=>A6q ((A1f C.P t).map (A1u C.P)) (ρ x) (ρ i)
 |.index t x i=>B5L (C.P.underlying t) (ρ x) (ρ i)
 |.makeFunc fn f c=>some (.func fn (f.toList.map ρ) (c.toList.map ρ))
 |.slice t x lo hi mx=>A2E C.P t (ρ x) (lo.map ρ) (hi.map ρ) (mx.map ρ)
 |.build t ps=>A0x C.P t (ps.toList.map λp=>(p.1,ρ p.2))
 |.buildSlice t n ps=>if B7s C h t o.dst then none else A0l C.P t n (ps.toList.map λp=>(p.1,ρ p.2))
 |.load t x=>D4q C.P t (ρ x)
 |.box _ x=>E3E (A2t h.imm o.dst) (ρ x)
 |.convert a b x=>A6d C.P a b (ρ x)
 |.call {callee:=.builtin .len,args,argTypes}=>match args.toList,argTypes.toList with
  |[x],[t]=>(A2y C.P t (ρ x)).map λ(n:Nat)=>AV.val (.int .i64 n)
  |_,_=>none
 |.call {callee:=.builtin .max,args,argTypes}=>match args.toList with
  |[x,y]=>A8W true (ρ x) (ρ y)
  |_=>none
 |.call {callee:=.builtin .min,args,argTypes}=>match args.toList with
  |[x,y]=>A8W false (ρ x) (ρ y)
  |_=>none
 |_=>none
def A7y{C}{h}{o}{ρ:Operand->AV}{v}(hp:pOp C h o ρ=some v):A0I C h o ρ=some v:=by
 obtain⟨d,op,t,p,af,g⟩:=o;cases op<;>first|exact hp|(simp[pOp]at hp;done)|skip
 case unOp op t x=>cases op<;>first|exact hp|(simp[pOp]at hp;done)
 case indexAddr t x i=>
  have e:A0I C h ⟨d,.indexAddr t x i,t,p,af,g⟩ ρ=A6q ((A1f C.P t).map (A1u C.P)) (ρ x) (ρ i):=by
   simp only[A0I,A6q];cases A1f C.P t with
   |none=>rfl
   |some e=>cases ρ x<;>first|rfl|(cases ρ i<;>first|rfl|(rename_i v;cases v<;>rfl))
  exact e.trans hp
 case call c=>
  obtain⟨callee,args,ts⟩:=c;cases callee with
  |builtin b=>
   cases b<;>first|(simp[pOp]at hp;done)|skip
   (case len=>simp only[pOp]at hp;simp only[A0I];split at hp;(case h_2=>simp at hp);rename_i x t' ha ht;(have a:ts=#[t']:=by apply Z1E;simpa using ht);subst a;rw[ha];exact hp);case max=>simp only[pOp]at hp;simp only[A0I];split at hp;(case h_2=>simp at hp);rename_i x y ha;rw[ha];exact hp
   case min=>simp only[pOp]at hp;simp only[A0I];split at hp;(case h_2=>simp at hp);rename_i x y ha;rw[ha];exact hp
  |_=>simp[pOp]at hp
def mOp(C:Ctx)(h:A2u)(o:Oper)(ρ:Operand->AV)(M:Mem):Option (AV×Mem):=match o.op with
 |.load t x=>(A1y C.P t M (ρ x)).map λv=>(v,M)
 |.store t a x=>(A0i (A1u C.P t) M (ρ a) (ρ x)).map λM'=>(.val undef,M')
 |.alloc e=>A0k C.P e M
 |.box e x=>C2a (A2t h.imm o.dst) e M (ρ x)
 |.makeMap _ none=>some (.mapr M.length,M++[.map [] 0])
 |.lookup t m k ok=>(A1Y C.P t M (ρ m) (ρ k) ok).map λv=>(v,M)
 |.mapUpdate t m k x=>(A2g C.P t M (ρ m) (ρ k) (ρ x)).map λM'=>(.val undef,M')
 |.insert t m k x=>(A2g C.P t M (ρ m) (ρ k) (ρ x)).map λM'=>(.val undef,M')
 |.makeSlice t l c=>A6E C.P t (ρ l) (ρ c) M
 |.buildSlice t n ps=>if B7s C h t o.dst=true then A2m C.P t n (ps.toList.map λp=>(p.1,ρ p.2)) M else(A0l C.P t n (ps.toList.map λp=>(p.1,ρ p.2))).map λv=>(v,M)
 |.range t x=>B0y C.P t (ρ x) M
 |.next x true=>A9o (ρ x) M
 |.call {callee:=.builtin .len,args,argTypes}=>match args.toList,argTypes.toList with
  |[x],[t]=>((A2y C.P t (ρ x)).or (A4A C.P t M (ρ x))).map λ(n:Nat)=>(AV.val (.int .i64 n),M)
  |_,_=>none
 |.call {callee:=.builtin .copy,args,argTypes}=>match args.toList,argTypes.toList with
  |[x,y],[t,u]=>B2p C.P t u M (ρ x) (ρ y)
  |_,_=>none
 |.convert a b x=>match A6d C.P a b (ρ x)with
  |some v=>some (v,M)
  |none=>A0U C h o ρ M
 |.build t ps=>match A0x C.P t (ps.toList.map λp=>(p.1,ρ p.2))with
  |some v=>some (v,M)
  |none=>A0U C h o ρ M
 |.indexAddr t x i=>match A6q ((A1f C.P t).map (A1u C.P)) (ρ x) (ρ i)with
  |some v=>some (v,M)
  |none=>A0U C h o ρ M
 |.slice t x lo hi mx=>match A2E C.P t (ρ x) (lo.map ρ) (hi.map ρ) (mx.map ρ)with
  |some v=>some (v,M)
  |none=>A0U C h o ρ M
 |.call {callee:=.builtin .clear,..}=>A0U C h o ρ M
 |.call {callee:=.builtin .unsafeSliceData,..}=>A0U C h o ρ M
 |.call {callee:=.builtin .unsafeString,..}=>A0U C h o ρ M
 |_=>(pOp C h o ρ).map λv=>(v,M)
def B4E{C:Ctx}{h:A2u}{o:Oper}{ρ:Operand->AV}{M M':Mem}{v:AV}(hm:mOp C h o ρ M=some (v,M')):A0U C h o ρ M=some (v,M'):=by
 have f:(pOp C h o ρ).map (λv=>(v,M))=some (v,M')->A0U C h o ρ M=some (v,M'):=by intro hp;simp only[Z0m,Z0h]at hp;obtain⟨u,hu,rfl,rfl⟩:=hp;simp only[A0U,A7y hu]
 have vc:B6x o.op=false->B0o C o ρ=false->A4z C h o (λv2 m=>v2=v/\m=M') ρ M->A0U C h o ρ M=some (v,M'):=by
  intro h1 h2 h3;obtain⟨d,op,t,p,af,g⟩:=o;rw[A3K h1 h2]at h3;cases he:A0U C h ⟨d,op,t,p,af,g⟩ ρ M with
  |none=>rw[he]at h3;exact h3.elim
  |some r=>rw[he]at h3;obtain⟨a,b⟩:=r;simp only[C4T]at h3;rw[h3.1,h3.2]
 obtain⟨d,op,t,p,af,g⟩:=o;cases op<;>first|exact f hm|skip
 case load lt x=>refine vc rfl rfl ?_;rw[C1Y];simp only[mOp,Z0m,Z0h]at hm;obtain⟨u,hu,rfl,rfl⟩:=hm;rw[hu];exact⟨rfl,rfl⟩
 case store lt x y=>refine vc rfl rfl ?_;rw[C9S];simp only[mOp,Z0m,Z0h]at hm;obtain⟨u,hu,rfl,rfl⟩:=hm;rw[hu];exact⟨rfl,rfl⟩
 case alloc e=>refine vc rfl rfl ?_;rw[C9y];simp only[mOp]at hm;rw[hm];exact⟨rfl,rfl⟩
 case box e x=>refine vc rfl rfl ?_;rw[D5Z];simp only[mOp]at hm;rw[hm];exact⟨rfl,rfl⟩
 case makeMap mt r=>
  cases r with
  |some r=>exact f hm
  |none=>refine vc rfl rfl ?_;rw[C4o];simp only[mOp,Z0b,Z0h]at hm;exact hm
 case lookup mt m k ok=>refine vc rfl rfl ?_;rw[B6Y];simp only[mOp,Z0m,Z0h]at hm;obtain⟨u,hu,rfl,rfl⟩:=hm;rw[hu];exact⟨rfl,rfl⟩
 case mapUpdate mt m k x=>refine vc rfl rfl ?_;rw[B8A];simp only[mOp,Z0m,Z0h]at hm;obtain⟨u,hu,rfl,rfl⟩:=hm;rw[hu];exact⟨rfl,rfl⟩
 case insert mt m k x=>refine vc rfl rfl ?_;rw[C4P];simp only[mOp,Z0m,Z0h]at hm;obtain⟨u,hu,rfl,rfl⟩:=hm;rw[hu];exact⟨rfl,rfl⟩
 case makeSlice st l c=>refine vc rfl rfl ?_;rw[C0p];simp only[mOp]at hm;rw[hm];exact⟨rfl,rfl⟩
 case buildSlice bt n ps=>
  obtain⟨ps⟩:=ps;refine vc rfl rfl ?_;have e:=@B7E C h M (λv2 m=>v2=v/\m=M') ρ d t p af g bt n ps;rw[e];simp only[mOp]at hm;split
  .rename_i hv;rw[Z0e hv]at hm;rw[hm];exact⟨rfl,rfl⟩
  .rename_i hv;rw[Z0d hv]at hm;simp only[Z0m,Z0h]at hm;obtain⟨u,hu,rfl,rfl⟩:=hm;rw[hu];exact⟨rfl,rfl⟩
 case build bt ps=>
  simp only[mOp]at hm;split at hm
  .rename_i u hu;simp only[Z0b,Z0h]at hm;obtain⟨rfl,rfl⟩:=hm;have:A0I C h ⟨d,.build bt ps,t,p,af,g⟩ ρ=some u:=A7y (by simpa only[pOp]using hu);simp only[A0U,this]
  .exact hm
 case indexAddr it x i=>
  simp only[mOp]at hm;split at hm
  .rename_i u hu;simp only[Z0b,Z0h]at hm;obtain⟨rfl,rfl⟩:=hm;have:A0I C h ⟨d,.indexAddr it x i,t,p,af,g⟩ ρ=some u:=A7y (by simpa only[pOp]using hu);simp only[A0U,this]
  .exact hm
 case slice st x lo hi mx=>
  simp only[mOp]at hm;split at hm
  .rename_i u hu;simp only[Z0b,Z0h]at hm;obtain⟨rfl,rfl⟩:=hm;have:A0I C h ⟨d,.slice st x lo hi mx,t,p,af,g⟩ ρ=some u:=A7y (by simpa only[pOp]using hu);simp only[A0U,this]
  .exact hm
 case convert a b x=>
  simp only[mOp]at hm;split at hm
  .rename_i u hu;simp only[Z0b,Z0h]at hm;obtain⟨rfl,rfl⟩:=hm;have:A0I C h ⟨d,.convert a b x,t,p,af,g⟩ ρ=some u:=hu;simp only[A0U,this]
  .exact hm
 case range rt x=>simp only[mOp]at hm;exact hm
 case next x b=>
  cases b with
  |false=>exact f hm
  |true=>simp only[mOp]at hm;exact hm
 case call c=>
  obtain⟨callee,args,ts⟩:=c;cases callee with
  |builtin b=>
   cases b<;>first|exact f hm|exact hm|skip
   case len=>
    simp only[mOp]at hm;split at hm;(case h_2=>simp at hm);rename_i x t' ha ht;(have j:args=#[x]:=by apply Z1E;simpa using ha);(have q:ts=#[t']:=by apply Z1E;simpa using ht);subst j;subst q;simp only[Z0m,Z0h]at hm;obtain⟨n,hn,rfl,rfl⟩:=hm;simp only[A0U,A0I,A8z,Z0z,Z2b];cases hl:A2y C.P t' (ρ x)with
    |none=>rw[hl]at hn;simp only[Z3d]at hn;simp[hl,hn,A2b,A2c,A5x,goInt]
    |some n'=>rw[hl]at hn;simp only[Option.some_or,Z0b]at hn;subst hn;simp[hl,goInt]
   case copy=>simp only[mOp]at hm;split at hm;(case h_2=>simp at hm);rename_i x y t' u ha ht;(have j:args=#[x,y]:=by apply Z1E;simpa using ha);(have q:ts=#[t',u]:=by apply Z1E;simpa using ht);subst j;subst q;simp only[A0U,A0I,A8z,Z0z,Z2b];simp[A2b,A2c,A5x,hm]
  |_=>exact f hm
def B1N(P:Program)(op:BinOp)(t:TypeId)(b o b2 o2:Nat):Option Bool:=match P.underlying t with
 |some (.pointer e)=>match A1u P e with
  |some n=>if n=0 then none else if b=b2 then match op with
   |.eql=>some (o==o2)
   |.neq=>some (!(o==o2))
   |_=>none
   else none
  |none=>none
 |_=>none
def C7T(P:Program)(op:BinOp)(t:TypeId)(x y:AV)(f:AV->Prop):Prop:=match x,y with
 |.ptr b o,.ptr b2 o2=>A0X ((B1N P op t b o b2 o2).map λb=>.val (.bool b)) f
 |_,_=>B5h P op t x y f
def D5G{P}{op}{t:TypeId}{b o b2 o2}:A1B P op t (.ptr b o) (.ptr b2 o2)=none:=by
 have h0:A3q P op t (.ptr b o) (.ptr b2 o2)=none:=by simp[A3q,A3Q]
 simp only[A1B,h0,A4T]
def C1e{P}{t:TypeId}{cx}{b o b2 o2}:B1q P t cx (.ptr b o) (.ptr b2 o2)=B1N P .eql t b o b2 o2:=by
 unfold B1q B1N;cases P.underlying t with
 |none=>rfl
 |some u=>cases u<;>rfl
def D6z{P}{op}{t:TypeId}{x y}{f:AV->Prop}(h:C7T P op t x y f):(∃b o b2 o2,x=.ptr b o/\y=.ptr b2 o2/\A0X ((B1N P op t b o b2 o2).map λb=>.val (.bool b)) f)\/B5h P op t x y f:=by
 unfold C7T at h;split at h
 .exact .inl ⟨_,_,_,_,rfl,rfl,h⟩
 .exact .inr h
def C9z(C:Ctx)(h:A2u)(o:Oper)(K:AV->Mem->Prop)(ρ:Operand->AV)(M:Mem):Prop:=match o.op with
 |.binOp op t x y _=>C7T C.P op t (ρ x) (ρ y) (λv=>K v M)
 |.call {callee:=.value f,args,..}=>D4e C (ρ f) (args.toList.map ρ) M K
 |.call {callee:=.builtin .append,args,argTypes}=>match args.toList,argTypes.toList with
  |[s,x],[t,u]=>B4y C (A2t h.own o.dst) (A2t h.vec o.dst) t u (ρ s) (ρ x) M K
  |_,_=>False
 |_=>A0X (mOp C h o ρ M) (λr=>K r.1 r.2)
def D0q{C}{h}{o}{K:AV->Mem->Prop}{ρ:Operand->AV}{M}(hw:C9z C h o K ρ M):A4z C h o K ρ M:=by
 have i:(∀f args ts,o.op≠.call {callee:=.value f,args:=args,argTypes:=ts})->(∀args ts,o.op≠.call {callee:=.builtin .append,args:=args,argTypes:=ts})->A0X (mOp C h o ρ M) (λr=>K r.1 r.2)->A4z C h o K ρ M:=by
  intro h1 h2 hs;cases hm:mOp C h o ρ M with
  |none=>rw[hm]at hs;exact hs.elim
  |some r=>
   obtain⟨v,M'⟩:=r;rw[hm]at hs;have he:=B4E hm;unfold A4z;split
   .rename_i heq;exact absurd heq (by intro e;exact h1 _ _ _ e)
   .rename_i heq;exact absurd heq (by intro e;exact h2 _ _ e)
   .rw[he];exact hs
 obtain⟨d,op,t,p,af,g⟩:=o;unfold C9z at hw;simp only at hw;split at hw
 .rename_i bop bt x y yt;rw[B9G];rcases D6z hw with⟨b,o,b2,o2,hx,hy,hw⟩|hw
  .unfold C7x;have en:A1B C.P bop bt (.ptr b o) (.ptr b2 o2)=none:=D5G;(have e1:A1d C ⟨d,.binOp bop bt x y yt,t,p,af,g⟩ ρ=(B1N C.P bop bt b o b2 o2).map λb=>.val (.bool b):=by cases bop;(case eql=>show(B1q C.P bt (B0D y) (ρ x) (ρ y)).map _=_;rw[hx,hy,C1e]);(case neq=>show(B1q C.P bt (B0D y) (ρ x) (ρ y)).map _=_;rw[hx,hy,C1e];unfold B1N;split<;>(try split)<;>(try split)<;>(try split)<;>rfl);all_goals (unfold B1N;split<;>(try split)<;>(try split)<;>(try split)<;>rfl));rw[hx,hy,en,e1];simp only[Z3d];cases hp:B1N C.P bop bt b o b2 o2 with
   |none=>rw[hp]at hw;exact hw.elim
   |some r=>rw[hp]at hw;exact hw
  unfold B5h at hw;unfold C7x;cases hb:A1B C.P bop bt (ρ x) (ρ y)with
  |some v=>rw[hb]at hw;exact hw
  |none=>
   rw[hb]at hw;simp only[Z3d];cases he:A1d C ⟨d,.binOp bop bt x y yt,t,p,af,g⟩ ρ with
   |none=>exact hw
   |some v=>
    (have:∃b,v=.val (.bool b):=by cases bop<;>first|(simp[A1d]at he;done)|(simp only[A1d,Z0m]at he;obtain⟨b,_,rfl⟩:=he;exact⟨_,rfl⟩));obtain⟨b,rfl⟩:=this
    exact hw.2 b
 .rename_i f args ts;exact hw
 .rename_i args ts;split at hw;case h_2=>exact hw.elim
  rename_i s x t' u ha ht;have a:args=#[s,x]:=by apply Z1E;simpa using ha
  have c:ts=#[t',u]:=by apply Z1E;simpa using ht
  subst a;subst c;rw[C7h];exact hw
 .rename_i hne0 hne1 hne2;exact i hne1 hne2 hw
def B4X(C:Ctx)(h:A2u)(ops:Array Oper):List Oper->(Env->Mem->Prop)->Env->Mem->Prop
 |[],K,T,M=>K T M
 |o::rest,K,T,M=>A2F ops o T (C9z C h o (λv M'=>B4X C h ops rest K (T.put o.dst v) M') (T.ev C) M) (B4X C h ops rest K (T.put o.dst (.val undef)) M)
def A6n{C}{h}{ops}{K:Env->Mem->Prop}:∀(l:List Oper) (T:Env) (M:Mem),B4X C h ops l K T M->A8o C h ops l K T M
 |[],T,M,hw=>hw
 |o::rest,T,M,hw=>by simp only[B4X]at hw;simp only[A8o];exact A5A (λh1=>D3s (λv m h2=>A6n rest _ _ h2) (D0q h1)) (λh1=>A6n rest _ _ h1) hw
def A5G(C:Ctx)(h:A2u)(N:Nat):Code->(Exit->Env->Mem->Prop)->Env->Mem->Prop
 |.skip,Q,T,M=>Q .normal T M
 |.label _,Q,T,M=>Q .normal T M
 |.region id ops draw,Q,T,M=>if draw=true then AWp C N (.region id ops true) Q T M else B4X C h ops ops.toList (λT M=>Q .normal T M) T M
 |.seq x y,Q,T,M=>A5G C h N x (A7v (A5G C h N y Q) Q) T M
 |.cond c x y,Q,T,M=>D0r (T.ev C c) (A5G C h N x Q T M) (A5G C h N y Q T M)
 |.block id c,Q,T,M=>A5G C h N c (A5l id Q) T M
 |.exit id,Q,T,M=>Q (.exit id) T M
 |.ret,Q,T,M=>Q .ret T M
 |c,Q,T,M=>AWp C N c Q T M
def A3y{C}{h}{N}:∀(c:Code) (Q:Exit->Env->Mem->Prop) (T:Env) (M:Mem),A1V N c=true->A5G C h N c Q T M->AWp C N c Q T M
 |.skip,Q,T,M,_,hv=>C6s hv
 |.label _,Q,T,M,_,hv=>C2t hv
 |.region id ops draw,Q,T,M,hin,hv=>by
  simp only[A5G]at hv;cases draw with
  |true=>simpa using hv
  |false=>exact B9Y (by simpa[A1V]using hin) (A6n _ _ _ (by simpa using hv))
 |.seq x y,Q,T,M,hin,hv=>by
  simp only[A1V,Z0f]at hin;simp only[A5G]at hv;refine B7I ((A3y x _ T M hin.1 hv).mono ?_);intro e T' M' hq;cases e with
  |normal=>exact A3y y Q T' M' hin.2 hq
  |_=>exact hq
 |.cond c x y,Q,T,M,hin,hv=>by
  simp only[A1V,Z0f]at hin;simp only[A5G,D0r]at hv;split at hv
  .rename_i b hb;refine C6I hin.1.1 hb (λe=>?_) (λe=>?_)
   .rw[Z0e e]at hv;exact A3y x Q T M hin.1.2 hv
   .rw[Z0d (by simp[e])]at hv;exact A3y y Q T M hin.2 hv
  .exact hv.elim
 |.block id c,Q,T,M,hin,hv=>C2V (A3y c _ T M (by simpa[A1V]using hin) hv)
 |.exit id,Q,T,M,_,hv=>C6L hv
 |.ret,Q,T,M,_,hv=>D0x hv
 |.loop c,Q,T,M,_,hv=>hv
 |.rangeFunc _ _ _ _,Q,T,M,_,hv=>hv
 |.scope _,Q,T,M,_,hv=>hv
 |.goto _,Q,T,M,_,hv=>hv
 |.refuse _,Q,T,M,_,hv=>hv
def D4G(C:Ctx)(f:AV)(args:List AV)(M:Mem)(K:AV->Mem->Prop):Prop:=match f with
 |.func (.func g) first captured=>∃r,(∀M,A4r C g (first++args++captured) M (λv M'=>v=r/\M'=M))/\K r M
 |_=>False
def D3K(C:Ctx)(f:AV)(args:List AV)(M:Mem)(K:AV->Mem->Prop):Prop:=match f with
 |.func (.func g) first captured=>∃r M1,A4r C g (first++args++captured) M (λv M'=>v=r/\M'=M1)/\K r M1
 |_=>False
def D4w(P:Program)(n:Nat)(e:TypeId)(x i:AV):Option AV:=match x,i with
 |.agg cs,.val (.int _ i)=>match A1u P e with
  |some sz=>if 0<=i/\i<n/\i.toNat*sz+sz<=cs.length then A1n P e (cs.drop (i.toNat*sz))else none
  |none=>none
 |_,_=>none
def C8F(P:Program)(u:Option TypeDesc)(x i:AV):Option AV:=match u with
 |some (.array n e)=>D4w P n e x i
 |u=>B5L u x i
@[simp] def E3h{P:Program}{x i:AV}:C8F P (some .string) x i=B5L (some .string) x i:=(rfl)
def D1R{C:Ctx}{h:A2u}{d:Option Tmp}{xt t:TypeId}{x i:Operand}{p:String}{af:Array Edge}{g:Option (Nat×Bool)}{ρ:Operand->AV}{v:AV}(hv:C8F C.P (C.P.underlying xt) (ρ x) (ρ i)=some v):(A0I C h ⟨d,.index xt x i,t,p,af,g⟩ ρ).or (A1d C ⟨d,.index xt x i,t,p,af,g⟩ ρ)=some v:=by
 unfold C8F at hv;split at hv
 .rename_i n e hu;have e1:A0I C h ⟨d,.index xt x i,t,p,af,g⟩ ρ=none:=by simp[A0I,hu]
  rw[e1,Z3d];simp only[A1d,C5B,hu];unfold D4w at hv;cases hx:ρ x<;>rw[hx]at hv<;>first|(simp at hv;done)|skip
  cases hi:ρ i<;>rw[hi]at hv<;>first|(simp at hv;done)|skip
  rename_i q;cases q<;>first|(simp at hv;done)|exact hv
 .have e1:A0I C h ⟨d,.index xt x i,t,p,af,g⟩ ρ=some v:=A7y (by simpa only[pOp]using hv);rw[e1];rfl
def wsD(C:Ctx)(h:A2u)(cls rob:Nat)(o:Oper)(ρ:Operand->AV)(M:Mem)(K:AV->Mem->Prop):Prop:=match cls with
 |0=>match o.op with
  |.call {callee:=.value f,args,..}=>D4G C (ρ f) (args.toList.map ρ) M K
  |.call {callee:=.builtin .append,..}=>False
  |.alloc _=>False
  |.index t x i=>A0X (C8F C.P (C.P.underlying t) (ρ x) (ρ i)) (λv=>K v M)
  |_=>A0X (pOp C h o ρ) (λv=>K v M)
 |1=>match o.op with
  |.load t x=>A0F o ρ=some rob/\A0X (A1y C.P t M (ρ x)) (λv=>K v M)
  |.lookup t m k ok=>A0F o ρ=some rob/\A0X (A1Y C.P t M (ρ m) (ρ k) ok) (λv=>K v M)
  |_=>False
 |2=>match o.op with
  |.call {callee:=.value f,args,..}=>D3K C (ρ f) (args.toList.map ρ) M K
  |.call {callee:=.builtin .append,args,argTypes}=>match args.toList,argTypes.toList with
   |[s,x],[t,u]=>B4y C (A2t h.own o.dst) (A2t h.vec o.dst) t u (ρ s) (ρ x) M K
   |_,_=>False
  |_=>A0X (mOp C h o ρ M) (λr=>K r.1 r.2)
 |_=>False
def B7g{f:Mem->Option (AV×Mem)}{M}{K:AV->Mem->Prop}(h:A0X (f M) (λr=>K r.1 r.2)):A7w false f M K:=by
 unfold A7w;cases hf:f M with
 |none=>rw[hf]at h;exact h.elim
 |some r=>rw[hf]at h;exact⟨λe=>by simp at e,h⟩
def B2F{C:Ctx}{h:A2u}{cls rob:Nat}{o:Oper}{ρ:Operand->AV}{M:Mem}{K:AV->Mem->Prop}(hw:wsD C h cls rob o ρ M K):dOp C h false cls rob 0 o ρ M K:=by
 have a:∀c,(∀f args ts,o.op≠.call {callee:=.value f,args:=args,argTypes:=ts})->(∀args ts,o.op≠.call {callee:=.builtin .append,args:=args,argTypes:=ts})->(∀e,o.op≠.alloc e)->
  (if c=0 then A0X ((A0I C h o ρ).or (A1d C o ρ)) (λv=>K v M)else if c=1 then A0F o ρ=some rob/\A0X (A4j C o ρ M) (λv=>K v M)else if c=5 then A4I o ρ=some 0/\A0X (A0U C h o ρ M) (λr=>K r.1 r.2)else c=2/\A7w false (A0U C h o ρ) M K)->dOp C h false c rob 0 o ρ M K:=by
  intro c h1 h2 h3 hp
  unfold dOp
  split
  .rename_i heq;exact absurd heq (by intro e;exact h1 _ _ _ e)
  .rename_i heq;exact absurd heq (by intro e;exact h2 _ _ e)
  .rename_i heq;exact absurd heq (by intro e;exact h3 _ e)
  .exact hp
 unfold wsD at hw;split at hw
 .split at hw
  .rename_i f args ts hop;obtain⟨d,op,t,p,af,g⟩:=o;simp only at hop;subst hop;simp only[dOp];unfold D4G at hw;split at hw
   ·(rename_i g' first captured hf);simp only[hf,Z0T]
    exact hw
   .exact hw.elim
  .exact hw.elim
  .exact hw.elim
  .rename_i xt x i hop;refine a 0 (by simp[hop]) (by simp[hop]) (by simp[hop]) ?_;rw[Z0e rfl];obtain⟨d,op,t,p,af,g⟩:=o;simp only at hop;subst hop;cases hv:C8F C.P (C.P.underlying xt) (ρ x) (ρ i)with
   |none=>rw[hv]at hw;exact hw.elim
   |some v=>rw[hv]at hw;rw[D1R hv];exact hw
  .rename_i h1 h2 h3 h4;refine a 0 (λf args ts e=>h1 _ _ _ e) (λargs ts e=>h2 _ _ e) (λe he=>h3 _ he) ?_;rw[Z0e rfl];cases hp:pOp C h o ρ with
   |none=>rw[hp]at hw;exact hw.elim
   |some v=>rw[hp]at hw;rw[A7y hp];exact hw
 .split at hw
  .rename_i lt x hop;refine a 1 (by simp[hop]) (by simp[hop]) (by simp[hop]) ?_;rw[Z0d (by omega),Z0e rfl];refine⟨hw.1,?_⟩;simp only[A4j,hop];exact hw.2
  .rename_i lt m k ok hop;refine a 1 (by simp[hop]) (by simp[hop]) (by simp[hop]) ?_;rw[Z0d (by omega),Z0e rfl];refine⟨hw.1,?_⟩;simp only[A4j,hop];exact hw.2
  .exact hw.elim
 .split at hw
  .rename_i f args ts hop;obtain⟨d,op,t,p,af,g⟩:=o;simp only at hop;subst hop;simp only[dOp];unfold D3K at hw;split at hw
   ·(rename_i g' first captured hf);simp only[hf]
    rw[Z0d (by simp)];obtain⟨r,M1,q1,q2⟩:=hw;exact⟨r,M1,by trivial,q1,λe=>by simp at e,q2⟩
   .exact hw.elim
  .rename_i args ts hop;obtain⟨d,op,t,p,af,g⟩:=o;simp only at hop;subst hop;simp only[dOp];split at hw;(case h_2=>exact hw.elim);rename_i s x t' u ha ht;rw[ha,ht];obtain⟨e,sz,bytes,q1,q2⟩:=hw;exact⟨e,sz,bytes,q1,by trivial,B7g q2⟩
  .rename_i h1 h2;have hm:A7w false (A0U C h o ρ) M K:=by
    refine B7g ?_;cases hm:mOp C h o ρ M with
    |none=>rw[hm]at hw;exact hw.elim
    |some r=>rw[hm]at hw;rw[B4E (M':=r.2) (v:=r.1) hm];exact hw
   by_cases ha:∃e,o.op=.alloc e
   .obtain⟨e,he⟩:=ha;obtain⟨d,op,t,p,af,g⟩:=o;simp only at he;subst he;simp only[dOp];rw[Z0d (by simp)];exact⟨by trivial,hm⟩
   .refine a 2 (λf args ts e=>h1 _ _ _ e) (λargs ts e=>h2 _ _ e) (λe he=>ha ⟨e,he⟩) ?_;rw[Z0d (by omega),Z0d (by omega)];exact⟨rfl,hm⟩
 .exact hw.elim
def B6A(C:Ctx)(h:A2u)(ops:Array Oper)(cls rob:Nat->Nat):Nat->List Oper->Env->Mem->(Env->Mem->Prop)->Prop
 |_,[],T,M,K=>K T M
 |k,o::rest,T,M,K=>A2F ops o T (wsD C h (cls k) (rob k) o (T.ev C) M (λv M'=>B6A C h ops cls rob (k+1) rest (T.put o.dst v) M' K)) (B6A C h ops cls rob (k+1) rest (T.put o.dst (.val undef)) M K)
def A5p(cls rob:Nat->Nat):B1D:={cls:=λk=>if cls k=5 then 3 else cls k,rob:=rob}
def B2L{C}{h}{c r}{o}{ρ:Operand->AV}{M}{K K':AV->Mem->Prop}(hk:∀v m,K v m->K' v m)(hv:dOp C h false c r 0 o ρ M K):dOp C h false c r 0 o ρ M K':=by
 have on:∀{α:Type} (o:Option α) (f g:α->Prop),(∀a,f a->g a)->A0X o f->A0X o g:=by
  intro α o f g d ho;cases o with
  |none=>exact ho
  |some a=>exact d a ho
 have b:∀(fl:Bool) (f:Mem->Option (AV×Mem)) (M:Mem) (K K':AV->Mem->Prop),(∀v m,K v m->K' v m)->A7w fl f M K->A7w fl f M K':=by
  intro fl f M K K' hk h;unfold A7w at h|-;split at h
  .exact⟨h.1,hk _ _ h.2⟩
  .exact h
 unfold dOp at hv|-;split at hv
 .split at hv
  .split at hv
   .rename_i e;rw[Z0e e];obtain⟨r,q1,q2⟩:=hv;exact⟨r,q1,hk _ _ q2⟩
   .rename_i e;rw[Z0d e];obtain⟨r,M1,q1,q2,q3,q4⟩:=hv;exact⟨r,M1,q1,q2,q3,hk _ _ q4⟩
  .exact hv.elim
 .split at hv
  .obtain⟨e,sz,bytes,h1,i,h2⟩:=hv;exact⟨e,sz,bytes,h1,i,b _ _ _ _ _ hk h2⟩
  .exact hv.elim
 .split at hv
  .rename_i e;rw[Z0e e];exact⟨hv.1,hv.2.1,on _ _ _ (λa h=>hk _ _ h) hv.2.2⟩
  .rename_i e;rw[Z0d e];exact⟨hv.1,b _ _ _ _ _ hk hv.2⟩
 .split at hv
  .rename_i e;rw[Z0e e];exact on _ _ _ (λa h=>hk _ _ h) hv
  .rename_i e;rw[Z0d e];split at hv
   .rename_i e1;rw[Z0e e1];exact⟨hv.1,on _ _ _ (λa h=>hk _ _ h) hv.2⟩
   .rename_i e1;rw[Z0d e1];split at hv
    .rename_i e2;rw[Z0e e2];exact⟨hv.1,on _ _ _ (λa h=>hk _ _ h) hv.2⟩
    .rename_i e2;rw[Z0d e2];exact⟨hv.1,b _ _ _ _ _ hk hv.2⟩
def A7W{C}{h}{ops}{cls rob:Nat->Nat}{K:Env->Mem->Prop}:∀(l:List Oper) (k:Nat) (T:Env) (M:Mem),B6A C h ops cls rob k l T M K->A1w C h ops (A5p cls rob) k l T M K
 |[],k,T,M,hw=>hw
 |o::rest,k,T,M,hw=>by
  simp only[B6A]at hw;simp only[A1w];exact A5A (λh1=>B2L (λv m h2=>⟨λi _ ha=>by simp[A5p]at ha,A7W rest _ _ _ h2⟩) (by
   have hd:=B2F h1;by_cases e:cls k=5
   .rw[e]at h1;exact h1.elim
   .simpa only[A5p,Z0d e]using hd)) (λh1=>A7W rest _ _ _ h1) hw
def C8C{C}{N}{h}{id}{ops}{Q:Exit->Env->Mem->Prop}{T}{M}(a:C.P.follows .mixedOrders=true)(cls rob:Nat->Nat)(d:A1P N ops ops.toList=true)(b:A4e ops (A5p cls λ_=>0)=true)
 (hr:B6A C h ops cls rob 0 ops.toList T M (λT M=>Q .normal T M)):AWp C N (.region id ops true) Q T M:=by
 have h4:∀i o,ops[i]?=some o->(A5p cls rob).cls i≠4:=by intro i o ho e;have:=(A4D b ho).2.1 e;simp[A5p]at this
 have h5:∀k,(A5p cls rob).cls k≠5:=by intro k;simp only[A5p];split<;>omega
 have c:A4e ops (A5p cls rob)=true:=by
  have hp:∀i,i<ops.size->A6l ((A5p cls rob).cls i)=false:=λi hi=>by
   cases e:A6l ((A5p cls rob).cls i)with
   |false=>rfl
   |true=>
    rcases A8b.1 e with h|h
    .exact absurd h (h4 i _ (Z0Q hi))
    .exact absurd h (h5 i)
  have:∀i j,i<ops.size->j<ops.size->A2h (A5p cls rob) j i=A2h (A5p cls λ_=>0) j i:=by intro i j hi hj;have b1:=hp i hi;have b2:=hp j hj;have c1:(A5p cls λ_=>0).cls=(A5p cls rob).cls:=rfl;have c2:(A5p cls λ_=>0).aff=(A5p cls rob).aff:=rfl;simp only[A2h,c1,c2,b1,b2,Z3e,Z0O,Z3U]
  refine Z0p.2 λi hi=>?_;have h0:=Z0p.1 b i hi;have f:=Z1o.1 hi;cases ho:ops[i]? with
  |none=>rfl
  |some o=>
   rw[ho]at h0;simp only[Z0f]at h0|-;refine⟨h0.1,Z0p.2 λj hj=>?_⟩;have h1:=Z0p.1 h0.2 j hj;have g:=Z1o.1 hj;cases hx:ops[j]? with
   |none=>rfl
   |some x=>rw[hx]at h1;simp only at h1|-;rw[this i j f (by omega)];exact h1
 refine A9J (h:=h) a (A5p cls rob) d c (λk hk hc=>?_) (A7W _ _ _ _ hr)
 exact absurd hc (h4 k _ (Z0Q hk))
end Go.Abs
