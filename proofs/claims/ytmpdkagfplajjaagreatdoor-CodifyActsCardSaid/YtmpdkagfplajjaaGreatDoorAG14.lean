/- The texts AbsV5, AbsR, AbsR2, AbsR3, AbsR4, AbsR5, AbsZ0, AbsZ1, AbsZ2, AbsZ3, AbsZ4, AbsZ5. -/
import Derived.Test.YtmpdkagfplajjaaGreatDoorAG13
import Derived.Laws.Externs
set_option linter.all false
namespace Go.Abs
def C7R:List AV->Mem->Option XR
 |[v],M=>some (v,M,[])
 |_,_=>none
def B0G:List AV->Mem->Option XR
 |[.val (.string s),.val (.int .u8 c)],M=>some (.val (match(List.range s.size).find? λi=>s[i]! ==c.toNat.toUInt8 with
  |some i=>goInt i
  |none=>goInt (-1)),M,[])
 |_,_=>none
section
variable {C:Ctx} {f:FuncId} {fn:Func}
def C4s(hf:C.P.funcs[f]?=some fn)(a:(fn.name== "runtime.NumGoroutine")=false)(hb:fn.body.isNone=true)(hn:Extern.findNext fn=none)(he:Extern.find fn=some Extern.AbiNoEscape.same):∀args M v M1 ws,C7R args M=some (v,M1,ws)->A5q C f args M (λr m=>r=v/\m=M1)/\A9u (C7R args) M v M1 ws:=by
 intro args M v M1 ws h
 unfold C7R at h
 split at h
 case h_2=>simp at h
 rename_i u M
 simp only[Z0a,Z0b]at h
 obtain⟨rfl,rfl,rfl⟩:=h
 refine⟨.inr λG w vs hi hr=>?_,.same λ_ _ _=>rfl⟩
 simp only[A0q]at hr
 obtain⟨y,_,rfl,hy,rfl⟩:=hr
 exact⟨y,w,G,_,_,by rw[run_callFunc_extern hf a hb hn he];rfl,⟨rfl,rfl⟩,.refl _,hi,hy,.refl _⟩
def B2O(hf:C.P.funcs[f]?=some fn)(a:(fn.name== "runtime.NumGoroutine")=false)(hb:fn.body.isNone=true)(hn:Extern.findNext fn=none)(he:Extern.find fn=some Extern.BytealgIndexByte.indexByte):∀args M v M1 ws,B0G args M=some (v,M1,ws)->A5q C f args M (λr m=>r=v/\m=M1)/\A9u (B0G args) M v M1 ws:=by
 intro args M v M1 ws h
 unfold B0G at h
 split at h
 case h_2=>simp at h
 rename_i M s c
 simp only[Z0a,Z0b]at h
 obtain⟨rfl,rfl,rfl⟩:=h
 refine⟨.inr λG w vs hi hr=>?_,.same λ_ _ _=>rfl⟩
 simp only[A0q,Rep]at hr
 obtain⟨y,_,rfl,rfl,y2,_,rfl,rfl,rfl⟩:=hr
 have key:((Extern.BytealgIndexByte.indexByte #[.string s,.int .u8 c]).run C.P w)=.ok (match(List.range s.size).find? λi=>s[i]! ==c.toNat.toUInt8 with
  |some i=>goInt i
  |none=>goInt (-1)) w:=by
  show((match(List.range s.size).find? λi=>s[i]! ==c.toNat.toUInt8 with
   |some i=>pure (goInt i)
   |none=>pure (goInt (-1))):Sem Value).run C.P w=_
  generalize(List.range s.size).find? _=r
  cases r<;>rfl
 have run:(callFunc f #[.string s,.int .u8 c]).run C.P w=.ok (.value (match(List.range s.size).find? λi=>s[i]! ==c.toNat.toUInt8 with
  |some i=>goInt i
  |none=>goInt (-1))) w:=by
  rw[run_callFunc_extern hf a hb hn he,key];rfl
 exact⟨_,w,G,_,_,run,⟨rfl,rfl⟩,.refl _,hi,by simp only[Rep],.refl _⟩
end
def D2Q(P:Program)(t:TypeId):AV->Option AV
 |.cptr cs=>A1m P t cs
 |_=>none
@[simp] def D6g{P}{t:TypeId}{cs}:D2Q P t (.cptr cs)=A1m P t cs:=rfl
def D9q(imm:Bool)(x:AV):Option AV:=if imm&&x.storable then some (.cptr x.cells)else none
def B8S(u:Option TypeDesc)(x i:AV):Option AV:=match u,x,i with
 |some .string,.val (.string s),.val (.int _ i)=>if 0<=i/\i<s.size then some (.val (.int .u8 (s.data.getD i.toNat 0).toNat))else none
 |_,_,_=>none
def A0T(s:ByteArray)(i:Nat):Int:=(s.data.getD i 0).toNat
@[simp] def D6f{s}{k}{i}:B8S (some .string) (.val (.string s)) (.val (.int k i))=if 0<=i/\i<s.size then some (.val (.int .u8 (A0T s i.toNat)))else none:=rfl
def C2y(P:Program)(f:Option (Nat×TypeId))(x:AV):Option AV:=match f,x with
 |some (k,ft),.agg cs=>if(A1e P ft).any (λn=>decide (k+n<=cs.length))then A1m P ft (cs.drop k)else none
 |_,_=>none
@[simp] def D5m{P}{k}{ft:TypeId}{cs}:C2y P (some (k,ft)) (.agg cs)=if(A1e P ft).any (λn=>decide (k+n<=cs.length))=true then A1m P ft (cs.drop k)else none:=rfl
def D1s:AV->Option AV
 |.val (.int k n)=>some (.val (.int k (k.wrap (0-n))))
 |_=>none
@[simp] def D7B{k}{n}:D1s (.val (.int k n))=some (.val (.int k (k.wrap (0-n)))):=rfl
def pOp(C:Ctx)(h:A2I)(o:Oper)(ρ:Operand->AV):Option AV:=match o.op with
 |.move x=>some (ρ x)
 |.assign x=>some (ρ x)
 |.pick c a b=>B9m (ρ c) (ρ a) (ρ b)
 |.nilCheck x=>B4r (ρ x)
 |.binOp op t x y _=>A1C C.P op t (ρ x) (ρ y)
 |.unOp .not _ x=>C1C (ρ x)
 |.unOp .neg _ x=>D1s (ρ x)
 |.fieldAddr t x f=>A8Z (A1D C.P t f) (ρ x)
 |.field t x f=>C2y C.P (A1g C.P t f) (ρ x)
 |.extract x i=>A8f (ρ x) i
 |.indexAddr t x i=>A5O ((A0S C.P t).map (A1e C.P)) (ρ x) (ρ i)
 |.index t x i=>B8S (C.P.underlying t) (ρ x) (ρ i)
 |.makeFunc fn f c=>some (.func fn (f.toList.map ρ) (c.toList.map ρ))
 |.slice t x lo hi mx=>A4C C.P t (ρ x) (lo.map ρ) (hi.map ρ) (mx.map ρ)
 |.build t ps=>A0Q C.P t (ps.toList.map λp=>(p.1,ρ p.2))
 |.buildSlice t n ps=>if B2C C h t o.dst then none else A0h C.P t n (ps.toList.map λp=>(p.1,ρ p.2))
 |.load t x=>D2Q C.P t (ρ x)
 |.box _ x=>D9q (A1R h.imm o.dst) (ρ x)
 |.convert a b x=>A6X C.P a b (ρ x)
 |.call {callee:=.builtin .len,args,argTypes}=>match args.toList,argTypes.toList with
  |[x],[t]=>(A1H C.P t (ρ x)).map λ(n:Nat)=>AV.val (.int .i64 n)
  |_,_=>none
 |.call {callee:=.builtin .max,args,argTypes}=>match args.toList with
  |[x,y]=>A7P true (ρ x) (ρ y)
  |_=>none
 |.call {callee:=.builtin .min,args,argTypes}=>match args.toList with
  |[x,y]=>A7P false (ρ x) (ρ y)
  |_=>none
 |_=>none
def B4G{C}{h}{o}{ρ:Operand->AV}{v}(hp:pOp C h o ρ=some v):A0n C h o ρ=some v:=by
 obtain⟨d,op,t,p,af,g⟩:=o;cases op<;>first|exact hp|(simp[pOp]at hp;done)|skip
 case unOp op t x=>cases op<;>first|exact hp|(simp[pOp]at hp;done)
 case indexAddr t x i=>
  have e:A0n C h ⟨d,.indexAddr t x i,t,p,af,g⟩ ρ=A5O ((A0S C.P t).map (A1e C.P)) (ρ x) (ρ i):=by
   simp only[A0n,A5O];cases A0S C.P t with
   |none=>rfl
   |some e=>cases ρ x<;>first|rfl|(cases ρ i<;>first|rfl|(rename_i v;cases v<;>rfl))
  exact e.trans hp
 case call c=>
  obtain⟨callee,args,ts⟩:=c;cases callee with
  |builtin b=>
   cases b<;>first|(simp[pOp]at hp;done)|skip
   (case len=>simp only[pOp]at hp;simp only[A0n];split at hp;(case h_2=>simp at hp);rename_i x t' ha ht;(have a:ts=#[t']:=by apply Z1A;simpa using ht);subst a;rw[ha];exact hp);case max=>simp only[pOp]at hp;simp only[A0n];split at hp;(case h_2=>simp at hp);rename_i x y ha;rw[ha];exact hp
   case min=>simp only[pOp]at hp;simp only[A0n];split at hp;(case h_2=>simp at hp);rename_i x y ha;rw[ha];exact hp
  |_=>simp[pOp]at hp
def mOp(C:Ctx)(h:A2I)(o:Oper)(ρ:Operand->AV)(M:Mem):Option (AV×Mem):=match o.op with
 |.load t x=>(A2u C.P t M (ρ x)).map λv=>(v,M)
 |.store t a x=>(A0l (A1e C.P t) M (ρ a) (ρ x)).map λM'=>(.val undef,M')
 |.alloc e=>A0o C.P e M
 |.box e x=>C1B (A1R h.imm o.dst) e M (ρ x)
 |.makeMap _ none=>some (.mapr M.length,M++[.map [] 0])
 |.lookup t m k ok=>(A1K C.P t M (ρ m) (ρ k) ok).map λv=>(v,M)
 |.mapUpdate t m k x=>(A1E C.P t M (ρ m) (ρ k) (ρ x)).map λM'=>(.val undef,M')
 |.insert t m k x=>(A1E C.P t M (ρ m) (ρ k) (ρ x)).map λM'=>(.val undef,M')
 |.makeSlice t l c=>A4W C.P t (ρ l) (ρ c) M
 |.buildSlice t n ps=>if B2C C h t o.dst=true then A1v C.P t n (ps.toList.map λp=>(p.1,ρ p.2)) M else(A0h C.P t n (ps.toList.map λp=>(p.1,ρ p.2))).map λv=>(v,M)
 |.range t x=>A6D C.P t (ρ x) M
 |.next x true=>A5K (ρ x) M
 |.call {callee:=.builtin .len,args,argTypes}=>match args.toList,argTypes.toList with
  |[x],[t]=>((A1H C.P t (ρ x)).or (A2U C.P t M (ρ x))).map λ(n:Nat)=>(AV.val (.int .i64 n),M)
  |_,_=>none
 |.call {callee:=.builtin .copy,args,argTypes}=>match args.toList,argTypes.toList with
  |[x,y],[t,u]=>A6z C.P t u M (ρ x) (ρ y)
  |_,_=>none
 |.convert a b x=>match A6X C.P a b (ρ x)with
  |some v=>some (v,M)
  |none=>A0A C h o ρ M
 |.build t ps=>match A0Q C.P t (ps.toList.map λp=>(p.1,ρ p.2))with
  |some v=>some (v,M)
  |none=>A0A C h o ρ M
 |.indexAddr t x i=>match A5O ((A0S C.P t).map (A1e C.P)) (ρ x) (ρ i)with
  |some v=>some (v,M)
  |none=>A0A C h o ρ M
 |.call {callee:=.builtin .unsafeSliceData,..}=>A0A C h o ρ M
 |.call {callee:=.builtin .unsafeString,..}=>A0A C h o ρ M
 |_=>(pOp C h o ρ).map λv=>(v,M)
def C3v{C}{h}{o}{ρ:Operand->AV}{M M'}{v}(hm:mOp C h o ρ M=some (v,M')):A0A C h o ρ M=some (v,M'):=by
 have f:(pOp C h o ρ).map (λv=>(v,M))=some (v,M')->A0A C h o ρ M=some (v,M'):=by intro hp;simp only[Z0i,Z0b]at hp;obtain⟨u,hu,rfl,rfl⟩:=hp;simp only[A0A,B4G hu]
 have vc:D0H o.op=false->A9E C o ρ=false->A4x C h o (λv2 m=>v2=v/\m=M') ρ M->A0A C h o ρ M=some (v,M'):=by
  intro h1 h2 h3;obtain⟨d,op,t,p,af,g⟩:=o;rw[A3P h1 h2]at h3;cases he:A0A C h ⟨d,op,t,p,af,g⟩ ρ M with
  |none=>rw[he]at h3;exact h3.elim
  |some r=>rw[he]at h3;obtain⟨a,b⟩:=r;simp only[C3x]at h3;rw[h3.1,h3.2]
 obtain⟨d,op,t,p,af,g⟩:=o;cases op<;>first|exact f hm|skip
 case load lt x=>refine vc rfl rfl ?_;rw[C0L];simp only[mOp,Z0i,Z0b]at hm;obtain⟨u,hu,rfl,rfl⟩:=hm;rw[hu];exact⟨rfl,rfl⟩
 case store lt x y=>refine vc rfl rfl ?_;rw[C6W];simp only[mOp,Z0i,Z0b]at hm;obtain⟨u,hu,rfl,rfl⟩:=hm;rw[hu];exact⟨rfl,rfl⟩
 case alloc e=>refine vc rfl rfl ?_;rw[C6b];simp only[mOp]at hm;rw[hm];exact⟨rfl,rfl⟩
 case box e x=>refine vc rfl rfl ?_;rw[D2x];simp only[mOp]at hm;rw[hm];exact⟨rfl,rfl⟩
 case makeMap mt r=>
  cases r with
  |some r=>exact f hm
  |none=>refine vc rfl rfl ?_;rw[C1P];simp only[mOp,Z0a,Z0b]at hm;exact hm
 case lookup mt m k ok=>refine vc rfl rfl ?_;rw[B5U];simp only[mOp,Z0i,Z0b]at hm;obtain⟨u,hu,rfl,rfl⟩:=hm;rw[hu];exact⟨rfl,rfl⟩
 case mapUpdate mt m k x=>refine vc rfl rfl ?_;rw[B7E];simp only[mOp,Z0i,Z0b]at hm;obtain⟨u,hu,rfl,rfl⟩:=hm;rw[hu];exact⟨rfl,rfl⟩
 case insert mt m k x=>refine vc rfl rfl ?_;rw[C5g];simp only[mOp,Z0i,Z0b]at hm;obtain⟨u,hu,rfl,rfl⟩:=hm;rw[hu];exact⟨rfl,rfl⟩
 case makeSlice st l c=>refine vc rfl rfl ?_;rw[B8E];simp only[mOp]at hm;rw[hm];exact⟨rfl,rfl⟩
 case buildSlice bt n ps=>
  obtain⟨ps⟩:=ps;refine vc rfl rfl ?_;have e:=@B6H C h M (λv2 m=>v2=v/\m=M') ρ d t p af g bt n ps;rw[e];simp only[mOp]at hm;split
  .rename_i hv;rw[Z0d hv]at hm;rw[hm];exact⟨rfl,rfl⟩
  .rename_i hv;rw[Z0e hv]at hm;simp only[Z0i,Z0b]at hm;obtain⟨u,hu,rfl,rfl⟩:=hm;rw[hu];exact⟨rfl,rfl⟩
 case build bt ps=>
  simp only[mOp]at hm;split at hm
  .rename_i u hu;simp only[Z0a,Z0b]at hm;obtain⟨rfl,rfl⟩:=hm;have:A0n C h ⟨d,.build bt ps,t,p,af,g⟩ ρ=some u:=B4G (by simpa only[pOp]using hu);simp only[A0A,this]
  .exact hm
 case indexAddr it x i=>
  simp only[mOp]at hm;split at hm
  .rename_i u hu;simp only[Z0a,Z0b]at hm;obtain⟨rfl,rfl⟩:=hm;have:A0n C h ⟨d,.indexAddr it x i,t,p,af,g⟩ ρ=some u:=B4G (by simpa only[pOp]using hu);simp only[A0A,this]
  .exact hm
 case convert a b x=>
  simp only[mOp]at hm;split at hm
  .rename_i u hu;simp only[Z0a,Z0b]at hm;obtain⟨rfl,rfl⟩:=hm;have:A0n C h ⟨d,.convert a b x,t,p,af,g⟩ ρ=some u:=hu;simp only[A0A,this]
  .exact hm
 case range rt x=>simp only[mOp]at hm;exact hm
 case next x b=>
  cases b with
  |false=>exact f hm
  |true=>simp only[mOp]at hm;exact hm
 case call c=>
  obtain⟨callee,args,ts⟩:=c;cases callee with
  |builtin b=>
   cases b<;>first|exact f hm|exact hm|skip
   case len=>
    simp only[mOp]at hm;split at hm;(case h_2=>simp at hm);rename_i x t' ha ht;(have j:args=#[x]:=by apply Z1A;simpa using ha);(have q:ts=#[t']:=by apply Z1A;simpa using ht);subst j;subst q;simp only[Z0i,Z0b]at hm;obtain⟨n,hn,rfl,rfl⟩:=hm;simp only[A0A,A0n,A7v,Z0C,Z1P];cases hl:A1H C.P t' (ρ x)with
    |none=>rw[hl]at hn;simp only[Z3n]at hn;simp[hl,hn,A0W,A0R,A2d,goInt]
    |some n'=>rw[hl]at hn;simp only[Option.some_or,Z0a]at hn;subst hn;simp[hl,goInt]
   case copy=>simp only[mOp]at hm;split at hm;(case h_2=>simp at hm);rename_i x y t' u ha ht;(have j:args=#[x,y]:=by apply Z1A;simpa using ha);(have q:ts=#[t',u]:=by apply Z1A;simpa using ht);subst j;subst q;simp only[A0A,A0n,A7v,Z0C,Z1P];simp[A0W,A0R,A2d,hm]
  |_=>exact f hm
def B1j(P:Program)(op:BinOp)(t:TypeId)(b o b2 o2:Nat):Option Bool:=match P.underlying t with
 |some (.pointer e)=>match A1e P e with
  |some n=>if n=0 then none else if b=b2 then match op with
   |.eql=>some (o==o2)
   |.neq=>some (!(o==o2))
   |_=>none
   else none
  |none=>none
 |_=>none
def C4i(P:Program)(op:BinOp)(t:TypeId)(x y:AV)(f:AV->Prop):Prop:=match x,y with
 |.ptr b o,.ptr b2 o2=>A0N ((B1j P op t b o b2 o2).map λb=>.val (.bool b)) f
 |_,_=>B4R P op t x y f
def D1D{P}{op}{t:TypeId}{b o b2 o2}:A1C P op t (.ptr b o) (.ptr b2 o2)=none:=by
 have h0:A3o P op t (.ptr b o) (.ptr b2 o2)=none:=by simp[A3o,A5a]
 simp only[A1C,h0,A5i]
def C0E{P}{t:TypeId}{cx}{b o b2 o2}:B1I P t cx (.ptr b o) (.ptr b2 o2)=B1j P .eql t b o b2 o2:=by
 unfold B1I B1j;cases P.underlying t with
 |none=>rfl
 |some u=>cases u<;>rfl
def D3f{P}{op}{t:TypeId}{x y}{f:AV->Prop}(h:C4i P op t x y f):(∃b o b2 o2,x=.ptr b o/\y=.ptr b2 o2/\A0N ((B1j P op t b o b2 o2).map λb=>.val (.bool b)) f)\/B4R P op t x y f:=by
 unfold C4i at h;split at h
 .exact .inl ⟨_,_,_,_,rfl,rfl,h⟩
 .exact .inr h
def C6V(C:Ctx)(h:A2I)(o:Oper)(K:AV->Mem->Prop)(ρ:Operand->AV)(M:Mem):Prop:=match o.op with
 |.binOp op t x y _=>C4i C.P op t (ρ x) (ρ y) (λv=>K v M)
 |.call {callee:=.value f,args,..}=>D2o C (ρ f) (args.toList.map ρ) M K
 |.call {callee:=.builtin .append,args,argTypes}=>match args.toList,argTypes.toList with
  |[s,x],[t,u]=>B3Z C (A1R h.own o.dst) (A1R h.vec o.dst) t u (ρ s) (ρ x) M K
  |_,_=>False
 |_=>A0N (mOp C h o ρ M) (λr=>K r.1 r.2)
def C6h{C}{h}{o}{K:AV->Mem->Prop}{ρ:Operand->AV}{M}(hw:C6V C h o K ρ M):A4x C h o K ρ M:=by
 have i:(∀f args ts,o.op≠.call {callee:=.value f,args:=args,argTypes:=ts})->(∀args ts,o.op≠.call {callee:=.builtin .append,args:=args,argTypes:=ts})->A0N (mOp C h o ρ M) (λr=>K r.1 r.2)->A4x C h o K ρ M:=by
  intro h1 h2 hs;cases hm:mOp C h o ρ M with
  |none=>rw[hm]at hs;exact hs.elim
  |some r=>
   obtain⟨v,M'⟩:=r;rw[hm]at hs;have he:=C3v hm;unfold A4x;split
   .rename_i heq;exact absurd heq (by intro e;exact h1 _ _ _ e)
   .rename_i heq;exact absurd heq (by intro e;exact h2 _ _ e)
   .rw[he];exact hs
 obtain⟨d,op,t,p,af,g⟩:=o;unfold C6V at hw;simp only at hw;split at hw
 .rename_i bop bt x y yt;rw[C6R];rcases D3f hw with⟨b,o,b2,o2,hx,hy,hw⟩|hw
  .unfold C7M;have en:A1C C.P bop bt (.ptr b o) (.ptr b2 o2)=none:=D1D;(have e1:A0E C ⟨d,.binOp bop bt x y yt,t,p,af,g⟩ ρ=(B1j C.P bop bt b o b2 o2).map λb=>.val (.bool b):=by cases bop;(case eql=>show(B1I C.P bt (B2w y) (ρ x) (ρ y)).map _=_;rw[hx,hy,C0E]);(case neq=>show(B1I C.P bt (B2w y) (ρ x) (ρ y)).map _=_;rw[hx,hy,C0E];unfold B1j;split<;>(try split)<;>(try split)<;>(try split)<;>rfl);all_goals (unfold B1j;split<;>(try split)<;>(try split)<;>(try split)<;>rfl));rw[hx,hy,en,e1];simp only[Z3n];cases hp:B1j C.P bop bt b o b2 o2 with
   |none=>rw[hp]at hw;exact hw.elim
   |some r=>rw[hp]at hw;exact hw
  unfold B4R at hw;unfold C7M;cases hb:A1C C.P bop bt (ρ x) (ρ y)with
  |some v=>rw[hb]at hw;exact hw
  |none=>
   rw[hb]at hw;simp only[Z3n];cases he:A0E C ⟨d,.binOp bop bt x y yt,t,p,af,g⟩ ρ with
   |none=>exact hw
   |some v=>
    (have:∃b,v=.val (.bool b):=by cases bop<;>first|(simp[A0E]at he;done)|(simp only[A0E,Z0i]at he;obtain⟨b,_,rfl⟩:=he;exact⟨_,rfl⟩));obtain⟨b,rfl⟩:=this
    exact hw.2 b
 .rename_i f args ts;exact hw
 .rename_i args ts;split at hw;case h_2=>exact hw.elim
  rename_i s x t' u ha ht;have a:args=#[s,x]:=by apply Z1A;simpa using ha
  have c:ts=#[t',u]:=by apply Z1A;simpa using ht
  subst a;subst c;rw[C4f];exact hw
 .rename_i hne0 hne1 hne2;exact i hne1 hne2 hw
def B4n(C:Ctx)(h:A2I)(ops:Array Oper):List Oper->(Env->Mem->Prop)->Env->Mem->Prop
 |[],K,T,M=>K T M
 |o::rest,K,T,M=>A2n ops o T (C6V C h o (λv M'=>B4n C h ops rest K (T.put o.dst v) M') (T.ev C) M) (B4n C h ops rest K (T.put o.dst (.val undef)) M)
def B1l{C}{h}{ops}{K:Env->Mem->Prop}:∀(l:List Oper) (T:Env) (M:Mem),B4n C h ops l K T M->A9Q C h ops l K T M
 |[],T,M,hw=>hw
 |o::rest,T,M,hw=>by simp only[B4n]at hw;simp only[A9Q];exact A4h (λh1=>C0A (λv m h2=>B1l rest _ _ h2) (C6h h1)) (λh1=>B1l rest _ _ h1) hw
def A5H(C:Ctx)(h:A2I)(N:Nat):Code->(Exit->Env->Mem->Prop)->Env->Mem->Prop
 |.skip,Q,T,M=>Q .normal T M
 |.label _,Q,T,M=>Q .normal T M
 |.region id ops draw,Q,T,M=>if draw=true then AWp C N (.region id ops true) Q T M else B4n C h ops ops.toList (λT M=>Q .normal T M) T M
 |.seq x y,Q,T,M=>A5H C h N x (C3i (A5H C h N y Q) Q) T M
 |.cond c x y,Q,T,M=>C8a (T.ev C c) (A5H C h N x Q T M) (A5H C h N y Q T M)
 |.block id c,Q,T,M=>A5H C h N c (A7y id Q) T M
 |.exit id,Q,T,M=>Q (.exit id) T M
 |.ret,Q,T,M=>Q .ret T M
 |c,Q,T,M=>AWp C N c Q T M
def A4Q{C}{h}{N}:∀(c:Code) (Q:Exit->Env->Mem->Prop) (T:Env) (M:Mem),A2L N c=true->A5H C h N c Q T M->AWp C N c Q T M
 |.skip,Q,T,M,_,hv=>C3q hv
 |.label _,Q,T,M,_,hv=>C0w hv
 |.region id ops draw,Q,T,M,hin,hv=>by
  simp only[A5H]at hv;cases draw with
  |true=>simpa using hv
  |false=>exact B8Q (by simpa[A2L]using hin) (B1l _ _ _ (by simpa using hv))
 |.seq x y,Q,T,M,hin,hv=>by
  simp only[A2L,Z0f]at hin;simp only[A5H]at hv;refine C2a ((A4Q x _ T M hin.1 hv).mono ?_);intro e T' M' hq;cases e with
  |normal=>exact A4Q y Q T' M' hin.2 hq
  |_=>exact hq
 |.cond c x y,Q,T,M,hin,hv=>by
  simp only[A2L,Z0f]at hin;simp only[A5H,C8a]at hv;split at hv
  .rename_i b hb;refine B9r hin.1.1 hb (λe=>?_) (λe=>?_)
   .rw[Z0d e]at hv;exact A4Q x Q T M hin.1.2 hv
   .rw[Z0e (by simp[e])]at hv;exact A4Q y Q T M hin.2 hv
  .exact hv.elim
 |.block id c,Q,T,M,hin,hv=>B2q (A4Q c _ T M (by simpa[A2L]using hin) hv)
 |.exit id,Q,T,M,_,hv=>C4O hv
 |.ret,Q,T,M,_,hv=>C8v hv
 |.loop c,Q,T,M,_,hv=>hv
 |.rangeFunc _ _ _ _,Q,T,M,_,hv=>hv
 |.scope _,Q,T,M,_,hv=>hv
 |.goto _,Q,T,M,_,hv=>hv
 |.refuse _,Q,T,M,_,hv=>hv
def D2X(C:Ctx)(f:AV)(args:List AV)(M:Mem)(K:AV->Mem->Prop):Prop:=match f with
 |.func (.func g) first captured=>∃r,(∀M,A5q C g (first++args++captured) M (λv M'=>v=r/\M'=M))/\K r M
 |_=>False
def D1b(C:Ctx)(f:AV)(args:List AV)(M:Mem)(K:AV->Mem->Prop):Prop:=match f with
 |.func (.func g) first captured=>∃r M1,A5q C g (first++args++captured) M (λv M'=>v=r/\M'=M1)/\K r M1
 |_=>False
def wsD(C:Ctx)(h:A2I)(cls rob:Nat)(o:Oper)(ρ:Operand->AV)(M:Mem)(K:AV->Mem->Prop):Prop:=match cls with
 |0=>match o.op with
  |.call {callee:=.value f,args,..}=>D2X C (ρ f) (args.toList.map ρ) M K
  |.call {callee:=.builtin .append,..}=>False
  |.alloc _=>False
  |_=>A0N (pOp C h o ρ) (λv=>K v M)
 |1=>match o.op with
  |.load t x=>A0y o ρ=some rob/\A0N (A2u C.P t M (ρ x)) (λv=>K v M)
  |.lookup t m k ok=>A0y o ρ=some rob/\A0N (A1K C.P t M (ρ m) (ρ k) ok) (λv=>K v M)
  |_=>False
 |2=>match o.op with
  |.call {callee:=.value f,args,..}=>D1b C (ρ f) (args.toList.map ρ) M K
  |.call {callee:=.builtin .append,args,argTypes}=>match args.toList,argTypes.toList with
   |[s,x],[t,u]=>B3Z C (A1R h.own o.dst) (A1R h.vec o.dst) t u (ρ s) (ρ x) M K
   |_,_=>False
  |_=>A0N (mOp C h o ρ M) (λr=>K r.1 r.2)
 |_=>False
def B6j{f:Mem->Option (AV×Mem)}{M}{K:AV->Mem->Prop}(h:A0N (f M) (λr=>K r.1 r.2)):A6l false f M K:=by
 unfold A6l;cases hf:f M with
 |none=>rw[hf]at h;exact h.elim
 |some r=>rw[hf]at h;exact⟨λe=>by simp at e,h⟩
def B2a{C}{h}{cls rob}{o}{ρ:Operand->AV}{M}{K:AV->Mem->Prop}(hw:wsD C h cls rob o ρ M K):dOp C h false cls rob 0 o ρ M K:=by
 have a:∀c,(∀f args ts,o.op≠.call {callee:=.value f,args:=args,argTypes:=ts})->(∀args ts,o.op≠.call {callee:=.builtin .append,args:=args,argTypes:=ts})->(∀e,o.op≠.alloc e)->
  (if c=0 then A0N ((A0n C h o ρ).or (A0E C o ρ)) (λv=>K v M)else if c=1 then A0y o ρ=some rob/\A0N (A2r C o ρ M) (λv=>K v M)else if c=5 then A6K o ρ=some 0/\A0N (A0A C h o ρ M) (λr=>K r.1 r.2)else c=2/\A6l false (A0A C h o ρ) M K)->dOp C h false c rob 0 o ρ M K:=by
  intro c h1 h2 h3 hp
  unfold dOp
  split
  .rename_i heq;exact absurd heq (by intro e;exact h1 _ _ _ e)
  .rename_i heq;exact absurd heq (by intro e;exact h2 _ _ e)
  .rename_i heq;exact absurd heq (by intro e;exact h3 _ e)
  .exact hp
 unfold wsD at hw;split at hw
 .split at hw
  .rename_i f args ts hop;obtain⟨d,op,t,p,af,g⟩:=o;simp only at hop;subst hop;simp only[dOp];unfold D2X at hw;split at hw
   ·(rename_i g' first captured hf);simp only[hf,Z0G]
    exact hw
   .exact hw.elim
  .exact hw.elim
  .exact hw.elim
  .rename_i h1 h2 h3;refine a 0 (λf args ts e=>h1 _ _ _ e) (λargs ts e=>h2 _ _ e) (λe he=>h3 _ he) ?_;rw[Z0d rfl];cases hp:pOp C h o ρ with
   |none=>rw[hp]at hw;exact hw.elim
   |some v=>rw[hp]at hw;rw[B4G hp];exact hw
 .split at hw
  .rename_i lt x hop;refine a 1 (by simp[hop]) (by simp[hop]) (by simp[hop]) ?_;rw[Z0e (by omega),Z0d rfl];refine⟨hw.1,?_⟩;simp only[A2r,hop];exact hw.2
  .rename_i lt m k ok hop;refine a 1 (by simp[hop]) (by simp[hop]) (by simp[hop]) ?_;rw[Z0e (by omega),Z0d rfl];refine⟨hw.1,?_⟩;simp only[A2r,hop];exact hw.2
  .exact hw.elim
 .split at hw
  .rename_i f args ts hop;obtain⟨d,op,t,p,af,g⟩:=o;simp only at hop;subst hop;simp only[dOp];unfold D1b at hw;split at hw
   ·(rename_i g' first captured hf);simp only[hf]
    rw[Z0e (by simp)];obtain⟨r,M1,q1,q2⟩:=hw;exact⟨r,M1,by trivial,q1,λe=>by simp at e,q2⟩
   .exact hw.elim
  .rename_i args ts hop;obtain⟨d,op,t,p,af,g⟩:=o;simp only at hop;subst hop;simp only[dOp];split at hw;(case h_2=>exact hw.elim);rename_i s x t' u ha ht;rw[ha,ht];obtain⟨e,sz,b,q1,q2⟩:=hw;exact⟨e,sz,b,q1,by trivial,B6j q2⟩
  .rename_i h1 h2;have hm:A6l false (A0A C h o ρ) M K:=by
    refine B6j ?_;cases hm:mOp C h o ρ M with
    |none=>rw[hm]at hw;exact hw.elim
    |some r=>rw[hm]at hw;rw[C3v (M':=r.2) (v:=r.1) hm];exact hw
   by_cases ha:∃e,o.op=.alloc e
   .obtain⟨e,he⟩:=ha;obtain⟨d,op,t,p,af,g⟩:=o;simp only at he;subst he;simp only[dOp];rw[Z0e (by simp)];exact⟨by trivial,hm⟩
   .refine a 2 (λf args ts e=>h1 _ _ _ e) (λargs ts e=>h2 _ _ e) (λe he=>ha ⟨e,he⟩) ?_;rw[Z0e (by omega),Z0e (by omega)];exact⟨rfl,hm⟩
 .exact hw.elim
def B5d(C:Ctx)(h:A2I)(ops:Array Oper)(cls rob:Nat->Nat):Nat->List Oper->Env->Mem->(Env->Mem->Prop)->Prop
 |_,[],T,M,K=>K T M
 |k,o::rest,T,M,K=>A2n ops o T (wsD C h (cls k) (rob k) o (T.ev C) M (λv M'=>B5d C h ops cls rob (k+1) rest (T.put o.dst v) M' K)) (B5d C h ops cls rob (k+1) rest (T.put o.dst (.val undef)) M K)
def A6I(cls rob:Nat->Nat):B1A:={cls:=λk=>if cls k=5 then 3 else cls k,rob:=rob}
def B2l{C}{h}{c r}{o}{ρ:Operand->AV}{M}{K K':AV->Mem->Prop}(hk:∀v m,K v m->K' v m)(hv:dOp C h false c r 0 o ρ M K):dOp C h false c r 0 o ρ M K':=by
 have on:∀{α:Type} (o:Option α) (f g:α->Prop),(∀a,f a->g a)->A0N o f->A0N o g:=by
  intro α o f g i ho;cases o with
  |none=>exact ho
  |some a=>exact i a ho
 have d:∀(fl:Bool) (f:Mem->Option (AV×Mem)) (M:Mem) (K K':AV->Mem->Prop),(∀v m,K v m->K' v m)->A6l fl f M K->A6l fl f M K':=by
  intro fl f M K K' hk h;unfold A6l at h|-;split at h
  .exact⟨h.1,hk _ _ h.2⟩
  .exact h
 unfold dOp at hv|-;split at hv
 .split at hv
  .split at hv
   .rename_i e;rw[Z0d e];obtain⟨r,q1,q2⟩:=hv;exact⟨r,q1,hk _ _ q2⟩
   .rename_i e;rw[Z0e e];obtain⟨r,M1,q1,q2,q3,q4⟩:=hv;exact⟨r,M1,q1,q2,q3,hk _ _ q4⟩
  .exact hv.elim
 .split at hv
  .obtain⟨e,sz,b,h1,j,h2⟩:=hv;exact⟨e,sz,b,h1,j,d _ _ _ _ _ hk h2⟩
  .exact hv.elim
 .split at hv
  .rename_i e;rw[Z0d e];exact⟨hv.1,hv.2.1,on _ _ _ (λa h=>hk _ _ h) hv.2.2⟩
  .rename_i e;rw[Z0e e];exact⟨hv.1,d _ _ _ _ _ hk hv.2⟩
 .split at hv
  .rename_i e;rw[Z0d e];exact on _ _ _ (λa h=>hk _ _ h) hv
  .rename_i e;rw[Z0e e];split at hv
   .rename_i e1;rw[Z0d e1];exact⟨hv.1,on _ _ _ (λa h=>hk _ _ h) hv.2⟩
   .rename_i e1;rw[Z0e e1];split at hv
    .rename_i e2;rw[Z0d e2];exact⟨hv.1,on _ _ _ (λa h=>hk _ _ h) hv.2⟩
    .rename_i e2;rw[Z0e e2];exact⟨hv.1,d _ _ _ _ _ hk hv.2⟩
def B0A{C}{h}{ops}{cls rob:Nat->Nat}{K:Env->Mem->Prop}:∀(l:List Oper) (k:Nat) (T:Env) (M:Mem),B5d C h ops cls rob k l T M K->A3c C h ops (A6I cls rob) k l T M K
 |[],k,T,M,hw=>hw
 |o::rest,k,T,M,hw=>by
  simp only[B5d]at hw;simp only[A3c];exact A4h (λh1=>B2l (λv m h2=>⟨λi _ ha=>by simp[A6I]at ha,B0A rest _ _ _ h2⟩) (by
   have hd:=B2a h1;by_cases e:cls k=5
   .rw[e]at h1;exact h1.elim
   .simpa only[A6I,Z0e e]using hd)) (λh1=>B0A rest _ _ _ h1) hw
def C6f{C}{N}{h}{id}{ops}{Q:Exit->Env->Mem->Prop}{T}{M}(c:C.P.follows .mixedOrders=true)(cls rob:Nat->Nat)(f:A2b N ops ops.toList=true)(a:A5y ops (A6I cls λ_=>0)=true)
 (hr:B5d C h ops cls rob 0 ops.toList T M (λT M=>Q .normal T M)):AWp C N (.region id ops true) Q T M:=by
 have h4:∀i o,ops[i]?=some o->(A6I cls rob).cls i≠4:=by intro i o ho e;have:=(A5d a ho).2.1 e;simp[A6I]at this
 have h5:∀k,(A6I cls rob).cls k≠5:=by intro k;simp only[A6I];split<;>omega
 have b:A5y ops (A6I cls rob)=true:=by
  have hp:∀i,i<ops.size->A3f ((A6I cls rob).cls i)=false:=λi hi=>by
   cases e:A3f ((A6I cls rob).cls i)with
   |false=>rfl
   |true=>
    rcases A5c.1 e with h|h
    .exact absurd h (h4 i _ (Z0U hi))
    .exact absurd h (h5 i)
  have:∀i j,i<ops.size->j<ops.size->A1I (A6I cls rob) j i=A1I (A6I cls λ_=>0) j i:=by intro i j hi hj;have b1:=hp i hi;have b2:=hp j hj;have c1:(A6I cls λ_=>0).cls=(A6I cls rob).cls:=rfl;have c2:(A6I cls λ_=>0).aff=(A6I cls rob).aff:=rfl;simp only[A1I,c1,c2,b1,b2,Z1H,Z0q,Z3S]
  refine Z0r.2 λi hi=>?_;have h0:=Z0r.1 a i hi;have d:=Z1D.1 hi;cases ho:ops[i]? with
  |none=>rfl
  |some o=>
   rw[ho]at h0;simp only[Z0f]at h0|-;refine⟨h0.1,Z0r.2 λj hj=>?_⟩;have h1:=Z0r.1 h0.2 j hj;have g:=Z1D.1 hj;cases hx:ops[j]? with
   |none=>rfl
   |some x=>rw[hx]at h1;simp only at h1|-;rw[this i j d (by omega)];exact h1
 refine B1v (h:=h) c (A6I cls rob) f b (λk hk hc=>?_) (B0A _ _ _ _ hr)
 exact absurd hc (h4 k _ (Z0U hk))
noncomputable def BT.getR(t:BT):Nat->AV:=BT.rec (motive:=λ_=>Nat->AV) (λv n=>Nat.rec (motive:=λ_=>AV) v (λ_ _=>.poison) n) (λ_ _ gl gr n=>Nat.rec (motive:=λ_=>AV) (gl (Nat.div n 2)) (λ_ _=>gr (Nat.div n 2)) (Nat.mod n 2)) t
def BT.getR_eq:∀(t:BT) (n:Nat),t.getR n=t.get n
 |.leaf v,n=>by cases n<;>rfl
 |.node l r,n=>by show Nat.rec (motive:=λ_=>AV) (l.getR (n/2)) (λ_ _=>r.getR (n/2)) (n%2)=_;rw[BT.getR_eq l,BT.getR_eq r];simp only[BT.get];rcases Z2B n with h|h<;>rw[h]<;>rfl
noncomputable def BT.putR(t:BT):Nat->AV->Option BT:=BT.rec (motive:=λ_=>Nat->AV->Option BT) (λ_ n v=>Nat.rec (motive:=λ_=>Option BT) (some (.leaf v)) (λ_ _=>none) n) (λl r pl pr n v=>Nat.rec (motive:=λ_=>Option BT) (Option.rec (motive:=λ_=>Option BT) none (λl'=>some (.node l' r)) (pl (Nat.div n 2) v)) (λ_ _=>Option.rec (motive:=λ_=>Option BT) none (λr'=>some (.node l r')) (pr (Nat.div n 2) v)) (Nat.mod n 2)) t
def BT.putR_eq:∀(t:BT) (n:Nat) (v:AV),t.putR n v=t.put n v
 |.leaf u,n,v=>by cases n<;>rfl
 |.node l r,n,v=>by
  show Nat.rec (motive:=λ_=>Option BT) (Option.rec (motive:=λ_=>Option BT) none (λl'=>some (.node l' r)) (l.putR (n/2) v)) (λ_ _=>Option.rec (motive:=λ_=>Option BT) none (λr'=>some (.node l r')) (r.putR (n/2) v)) (n%2)=_;rw[BT.putR_eq l,BT.putR_eq r];simp only[BT.put];rcases Z2B n with h|h<;>rw[h]
  .cases l.put (n/2) v<;>rfl
  .cases r.put (n/2) v<;>rfl
noncomputable def BT.setR(t:BT)(d:Option Nat)(v:AV):Option BT:=match d with
 |none=>some t
 |some d=>t.putR d v
def BT.setR_eq(t:BT)(d:Option Nat)(v:AV):t.setR d v=t.set d v:=by
 cases d with
 |none=>rfl
 |some d=>exact BT.putR_eq t d v
inductive HT where
 |nil
 |node (o:A0p) (l r:HT)
noncomputable def HT.get(t:HT):Nat->Option A0p:=HT.rec (motive:=λ_=>Nat->Option A0p) (λ_=>none) (λo _ _ gl gr n=>Nat.rec (motive:=λ_=>Option A0p) (some o) (λm _=>Nat.rec (motive:=λ_=>Option A0p) (gl (Nat.div m 2)) (λ_ _=>gr (Nat.div m 2)) (Nat.mod m 2)) n) t
noncomputable def HT.put(t:HT):Nat->A0p->HT:=HT.rec (motive:=λ_=>Nat->A0p->HT) (λ_ o=>.node o .nil .nil) (λx l r pl pr n o=>Nat.rec (motive:=λ_=>HT) (.node o l r) (λm _=>Nat.rec (motive:=λ_=>HT) (.node x (pl (Nat.div m 2) o) r) (λ_ _=>.node x l (pr (Nat.div m 2) o)) (Nat.mod m 2)) n) t
def HT.get_nil(n:Nat):HT.nil.get n=none:=rfl
def HT.get_zero(x:A0p)(l r:HT):(HT.node x l r).get 0=some x:=rfl
def HT.put_zero(x:A0p)(l r:HT)(o:A0p):(HT.node x l r).put 0 o=.node o l r:=rfl
def HT.put_nil(n:Nat)(o:A0p):HT.nil.put n o=.node o .nil .nil:=rfl
def HT.get_succ(x:A0p)(l r:HT)(n:Nat):(HT.node x l r).get (n+1)=if n%2=0 then l.get (n/2)else r.get (n/2):=by show Nat.rec (motive:=λ_=>Option A0p) (l.get (n/2)) (λ_ _=>r.get (n/2)) (n%2)=_;rcases Z2B n with h|h<;>rw[h]<;>rfl
def HT.put_succ(x:A0p)(l r:HT)(n:Nat)(o:A0p):(HT.node x l r).put (n+1) o=if n%2=0 then .node x (l.put (n/2) o) r else .node x l (r.put (n/2) o):=by show Nat.rec (motive:=λ_=>HT) (HT.node x (l.put (n/2) o) r) (λ_ _=>.node x l (r.put (n/2) o)) (n%2)=_;rcases Z2B n with h|h<;>rw[h]<;>rfl
def HT.get_put:∀(t:HT) (n:Nat) (o:A0p),(t.get n≠none\/∀i,i<n->t.get i≠none)->∀m,(t.put n o).get m=if m=n then some o else t.get m
 |.nil,n,o,h,m=>by
  have hn:n=0:=by
   rcases h with h|h
   .exact absurd rfl h
   .cases n with
    |zero=>rfl
    |succ n=>exact absurd rfl (h 0 (by omega))
  subst hn;cases m with
  |zero=>rfl
  |succ m=>rw[HT.put_nil,HT.get_succ];simp[HT.get_nil]
 |.node x l r,n,o,h,m=>by
  cases n with
  |zero=>
   cases m with
   |zero=>rfl
   |succ m=>rw[HT.put_zero,HT.get_succ,HT.get_succ];simp
  |succ n=>
   rw[HT.put_succ];by_cases e:n%2=0
   .rw[Z0d e];have hl:l.get (n/2)≠none\/∀i,i<n/2->l.get i≠none:=by
     rcases h with h|h
     .left;rw[HT.get_succ,Z0d e]at h;exact h
     .right;intro i hi;have:=h (2*i+1) (by omega);rw[HT.get_succ,Z0d (by omega),show 2*i/2=i from by omega]at this;exact this
    have ih:=HT.get_put l (n/2) o hl;cases m with
    |zero=>rw[HT.get_zero,HT.get_zero];simp
    |succ m=>
     rw[HT.get_succ,HT.get_succ];by_cases e2:m%2=0
     .rw[Z0d e2,Z0d e2,ih (m/2)];by_cases e3:m/2=n/2
      .rw[Z0d e3,Z0d (by omega)]
      .rw[Z0e e3,Z0e (by omega)]
     .rw[Z0e e2,Z0e e2,Z0e (by omega)]
   .rw[Z0e e];have hr:r.get (n/2)≠none\/∀i,i<n/2->r.get i≠none:=by
     rcases h with h|h
     .left;rw[HT.get_succ,Z0e e]at h;exact h
     .right;intro i hi;have:=h (2*i+1+1) (by omega);rw[HT.get_succ,Z0e (by omega),show(2*i+1)/2=i from by omega]at this;exact this
    have ih:=HT.get_put r (n/2) o hr;cases m with
    |zero=>rw[HT.get_zero,HT.get_zero];simp
    |succ m=>
     rw[HT.get_succ,HT.get_succ];by_cases e2:m%2=0
     .rw[Z0d e2,Z0d e2,Z0e (by omega)]
     .rw[Z0e e2,Z0e e2,ih (m/2)];by_cases e3:m/2=n/2
      .rw[Z0d e3,Z0d (by omega)]
      .rw[Z0e e3,Z0e (by omega)]
structure Hp (h:HT) (n:Nat) (M:Mem):Prop where
 len:M.length=n
 at_:∀i,h.get i=M[i]?
def Hp.fn{h}{n}{M}(k:Hp h n M):h.get=λi=>M[i]?:=funext k.at_
def Hp.put{h}{n b}{M}{o}(k:Hp h n M)(hb:b<n):Hp (h.put b o) n (M.set b o):=by
 refine⟨by simp[k.len],λi=>?_⟩;rw[HT.get_put h b o (.inl (by rw[k.at_,Z0m (by rw[k.len];exact hb)];simp)),k.at_,Z2d];by_cases e:i=b
 .subst e;simp[k.len,hb]
 .rw[Z0e e,Z0e (λh=>e h.symm)]
def Hp.push{h}{n}{M}{o}(k:Hp h n M):Hp (h.put n o) (n+1) (M++[o]):=by
 refine⟨by simp[k.len],λi=>?_⟩;rw[HT.get_put h n o (.inr (λi hi=>by rw[k.at_,Z0m (by rw[k.len];exact hi)];simp)),k.at_];by_cases e:i=n
 .subst e;rw[Z0d rfl,Z1m (by rw[k.len];exact Z0u _)];simp[k.len]
 .rw[Z0e e];by_cases h1:i<n
  .rw[Z0j (by rw[k.len];exact h1)]
  .rw[Z1i (by rw[k.len];omega),Z1i (by simp[k.len];omega)]
inductive Ef where
 |non
 |put (b:Nat) (o:A0p)
 |push (o:A0p)
def Ef.mem:Ef->Mem->Mem
 |.non,M=>M
 |.put b o,M=>M.set b o
 |.push o,M=>M++[o]
noncomputable def Ef.ht:Ef->HT->Nat->HT
 |.non,h,_=>h
 |.put b o,h,_=>h.put b o
 |.push o,h,n=>h.put n o
def Ef.n:Ef->Nat->Nat
 |.push _,n=>n+1
 |_,n=>n
def Ef.ok(n:Nat):Ef->Prop
 |.put b _=>b<n
 |_=>True
def Hp.ef{h:HT}{n:Nat}{M:Mem}(k:Hp h n M){e:Ef}(he:e.ok n):Hp (e.ht h n) (e.n n) (e.mem M):=by
 cases e with
 |non=>exact k
 |put b o=>exact k.put he
 |push o=>exact k.push
abbrev GT:=Nat->Option A0p
def B7K(g:GT):AV->Option (List AV)
 |.cptr cs=>some cs
 |.ptr b off=>match g b with
  |some (.cells _ cs)=>if off<=cs.length then some (cs.drop off)else none
  |_=>none
 |.vptr f t off=>match g f with
  |some (.vec _ sz cs _ hist)=>match hist.lookup t with
   |some n=>some ((cs.take (n*sz)).drop off)
   |none=>none
  |_=>none
 |_=>none
def A6W(g:GT)(sz:Nat):AV->Option (List AV×Nat)
 |.val (.slice none 0 0)=>some ([],0)
 |.val (.string s)=>if sz=1 then some (s.data.toList.map λb=>.val (.int .u8 b.toNat),s.size)else none
 |.list s rows _=>if s=sz then some (rows.flatten,rows.length)else none
 |.vref f h s lo len=>match g f with
  |some (.vec _ s' cs _ hist)=>match hist.lookup h with
   |some n=>if s=sz/\s'=sz/\lo+len<=n then some ((cs.drop (lo*sz)).take (len*sz),len)else none
   |none=>none
  |_=>none
 |_=>none
def C5T(g:GT):AV->Option (List (AV×AV×Nat))
 |.val (.map none)=>some []
 |.mapr b=>match g b with|some (.map es _)=>some es|_=>none
 |_=>none
def C8w(P:Program)(t:TypeId)(g:GT)(m k:AV)(ok:Bool):Option AV:=
 match A9n P t,C5T g m with
 |some (kt,et),some es=>if(A7q P kt||B7e P kt)&&A5Z P 30 kt k then
  match A4g P kt k es with
  |some (some (_,v))=>some (if ok then .tuple [v,.val (.bool true)]else v)
  |some none=>(A7H P et).map λz=>if ok then .tuple [z,.val (.bool false)]else z
  |none=>none
  else none
 |_,_=>none
def B6J(P:Program)(t:TypeId)(g:GT)(m k v:AV):Option Ef:=
 match A9n P t,m with
 |some (kt,et),.mapr b=>match g b with
  |some (.map es clock)=>if(A7q P kt||B7e P kt)&&A5Z P 30 kt k then
   match A4g P kt k es with
   |some (some (i,_))=>match es[i]? with
    |some (ok,_,born)=>match A7n ok,A7n k with
     |some a,some c=>if Instr.sameBits 10000 a c then some (.put b (.map (es.set i (k,v,born)) clock))else none
     |_,_=>none
    |none=>none
   |some none=>some (.put b (.map (es++[(k,v,clock)]) (clock+1)))
   |none=>none
   else none
  |_=>none
 |_,_=>none
def C5q(P:Program)(t:TypeId)(g:GT)(x:AV):Option Nat:=match x with
 |.mapr b=>match P.underlying t,g b with
  |some (.map _ _),some (.map es _)=>some es.length
  |_,_=>none
 |_=>none
def D0K(P:Program)(t u:TypeId)(g:GT)(d s:AV):Option (AV×Ef):=match A0S P t with
 |some e=>
  match A1e P e with
  |some sz=>match A6W g sz s with
   |some (news,m)=>match d with
    |.vref f h sz' lo len=>match g f with
     |some (.vec ty sz2 cs g' hist)=>match hist.lookup h with
      |some n=>if sz'=sz/\sz2=sz/\m<=len/\lo+len<=n then
       if m=0 then some (.val (goInt 0),.non)else
       some (.val (goInt m),.put f (.vec ty sz (A0d cs (lo*sz) news) g' (A2q sz h (lo*sz) hist)))
       else none
      |none=>none
     |_=>none
    |_=>none
   |none=>none
  |none=>none
 |none=>none
def B6V(P:Program)(t:TypeId)(n:Nat)(parts:List (Nat×AV))(len:Nat):Option (AV×Ef):=match A0S P t with
 |some e=>match A1e P e,A0D P e with
  |some sz,some z=>if n*sz<=2^24/\z.length=sz/\z.all (·.oneCell')/\0<sz then
   (A0J sz parts (List.replicate n (z.map .val))).map λrows=>(.vref len 0 sz 0 n,.push (.vec e sz rows.flatten 0 [(0,n)]))
   else none
  |_,_=>none
 |none=>none
def C7B(P:Program)(t:TypeId)(l c:AV)(len:Nat):Option (AV×Ef):=
 match A0S P t,l,c with
 |some e,.val (.int _ l),.val (.int _ c)=>match A1e P e,A0D P e,C2R P e with
  |some sz,some z,some b=>if z.length=sz/\z.all (·.oneCell')/\0<sz/\0<=l/\l<=c/\c.toNat*sz<=16777216/\(b:Int)*c<=281474976710656 then
   some (.vref len 0 sz 0 l.toNat,.push (.vec e sz (List.replicate l.toNat (z.map .val)).flatten 0 [(0,l.toNat)]))
   else none
  |_,_,_=>none
 |_,_,_=>none
def C1R(P:Program)(t:TypeId)(x:AV)(len:Nat):Option (AV×Ef):=match P.underlying t,x with
 |some .string,.val (.string s)=>some (.ptr len 0,.push (.siter s 0))
 |_,_=>none
def D2G(x:AV)(g:GT):Option (AV×Ef):=match x with
 |.ptr b 0=>match g b with
  |some (.siter s pos)=>if pos<s.size then
   some (.tuple [.val (.bool true),.val (goInt pos),.val (.int .i32 (Utf8.decode s pos).1)],.put b (.siter s (pos+(Utf8.decode s pos).2)))
   else some (.tuple [.val (.bool false)],.non)
  |_=>none
 |_=>none
def B7N(P:Program)(t:TypeId)(gt:GT)(x:AV)(lo hi mx:Option AV):Option AV:=match x with
 |.vref f g sz lo0 len=>match hi,gt f with
  |some h,some (.vec _ _ _ _ hist)=>match hist.lookup g with
   |some n=>if lo0<=n then match mx with
    |none=>A9z P t f g sz lo0 (n-lo0) lo (some h) none
    |some m=>match A0S P t,B7F (n-lo0) (some m)with
     |some e,some (some q)=>match A1e P e,A1J q (some h)with
      |some _,some hh=>match C5B hh lo with
       |some _=>some .poison
       |none=>none
      |_,_=>none
     |_,_=>none
    else none
   |none=>none
  |_,_=>none
 |_=>none
def C6d(P:Program)(t:TypeId)(gt:GT)(x:AV):Option (AV×Ef):=match x with
 |.vref f g sz lo len=>match A0S P t with
  |some e=>match A0D P e,gt f with
   |some z,some (.vec ty sz2 cs g' hist)=>match hist.lookup g with
    |some n=>if z.length=sz/\sz2=sz/\0<sz/\z.all (·.oneCell')/\lo+len<=n then
     if len=0 then some (.tuple [],.non)else
     some (.tuple [],.put f (.vec ty sz (A0d cs (lo*sz) (List.replicate len (z.map .val)).flatten) g' (A2q sz g (lo*sz) hist)))
     else none
    |none=>none
   |_,_=>none
  |none=>none
 |_=>none
def D5n(P:Program)(src dst:TypeId)(g:GT)(x:AV):Option AV:=match P.underlying src,P.underlying dst,x with
 |some (.pointer t),some .unsafePointer,.ptr b off=>match g b,A1e P t with
  |some (.cells bt cs),some n=>if n≠0/\off<cs.length then some (.ptr b off)else none
  |_,_=>none
 |some .unsafePointer,some (.pointer u),.ptr b off=>match g b,A1e P u with
  |some (.cells bt cs),some n=>if n≠0/\liesAt P P.depth bt (cs.length/P.cellsOf bt) off u 1=true then some (.ptr b off)else none
  |_,_=>none
 |_,_,_=>none
def B9f(gt:GT)(x:AV):Option AV:=match x with
 |.val (.slice none 0 0)=>some (.val (.pointer none))
 |.vref f g sz lo len=>match gt f with
  |some (.vec _ _ _ _ hist)=>match hist.lookup g with
   |some n=>if lo<n then some (.vptr f g (lo*sz))else none
   |none=>none
  |_=>none
 |_=>none
section
variable {P:Program} {M:Mem}
def C7U(a:AV):A3g M a=B7K (λi=>M[i]?) a:=rfl
def B0B(sz:Nat)(a:AV):A0B M sz a=A6W (λi=>M[i]?) sz a:=rfl
def D1Z(t:TypeId)(m k:AV)(ok:Bool):A1K P t M m k ok=C8w P t (λi=>M[i]?) m k ok:=rfl
def C9b(t:TypeId)(x:AV):A2U P t M x=C5q P t (λi=>M[i]?) x:=rfl
def C4E(t:TypeId)(x:AV)(lo hi mx:Option AV):A8b P t M x lo hi mx=B7N P t (λi=>M[i]?) x lo hi mx:=rfl
def C3c(x:AV):A3G M x=B9f (λi=>M[i]?) x:=rfl
def D4t(s d:TypeId)(x:AV):B6l P s d M x=D5n P s d (λi=>M[i]?) x:=rfl
def C4B{t:TypeId}{m k v}{e}(h:B6J P t (λi=>M[i]?) m k v=some e):A1E P t M m k v=some (e.mem M)/\e.ok M.length:=by
 unfold B6J at h;split at h;case h_2=>simp at h
 rename_i kt et b hkv;split at h;case h_2=>simp at h
 rename_i es clock hM;have hb:=A0r hM;split at h;case isFalse=>simp at h
 rename_i hc;split at h
 .rename_i i e0 hf;split at h;case h_2=>simp at h
  rename_i ok e1 born hes;split at h;case h_2=>simp at h
  rename_i a c ha hc2;split at h;case isFalse=>simp at h
  rename_i hsb;simp only[Z0a]at h;subst h;exact⟨by simp only[A1E,hkv,hM,hc,Z0G,hf,hes,ha,hc2,hsb,Ef.mem],hb⟩
 .rename_i hf;simp only[Z0a]at h;subst h;exact⟨by simp only[A1E,hkv,hM,hc,Z0G,hf,Ef.mem],hb⟩
 .simp at h
def D6a{t u:TypeId}{d s v}{e}(h:D0K P t u (λi=>M[i]?) d s=some (v,e)):A6z P t u M d s=some (v,e.mem M)/\e.ok M.length:=by
 unfold D0K at h;split at h;case h_2=>simp at h
 rename_i e0 he;split at h;case h_2=>simp at h
 rename_i sz hsz;split at h;case h_2=>simp at h
 rename_i news m hsrc;rw[<-B0B]at hsrc;split at h;case h_2=>simp at h
 rename_i f g sz' lo len;split at h;case h_2=>simp at h
 rename_i ety sz2 cs g' hist hM;split at h;case h_2=>simp at h
 rename_i n hn;split at h;case isFalse=>simp at h
 rename_i hc;split at h
 .rename_i h0;simp only[Z0a,Z0b]at h;obtain⟨rfl,rfl⟩:=h;exact⟨by simp only[A6z,he,hsz,hsrc,hM,hn,Z0d hc,Z0d h0,Ef.mem],trivial⟩
 .rename_i h0;simp only[Z0a,Z0b]at h;obtain⟨rfl,rfl⟩:=h;exact⟨by simp only[A6z,he,hsz,hsrc,hM,hn,Z0d hc,Z0e h0,Ef.mem],A0r hM⟩
def D1K{t:TypeId}{n}{parts}{v}{e}(h:B6V P t n parts M.length=some (v,e)):A1v P t n parts M=some (v,e.mem M)/\e.ok M.length:=by
 unfold B6V at h;split at h;case h_2=>simp at h
 rename_i e he;split at h;case h_2=>simp at h
 rename_i sz z hs hz;split at h;case isFalse=>simp at h
 rename_i hc;simp only[Z0i,Z0b]at h;obtain⟨rows,hr,rfl,rfl⟩:=h;exact⟨by simp only[A1v,he,hs,hz,Z0d hc,hr,Z0M,Ef.mem],trivial⟩
def D3y{t:TypeId}{l c v}{e}(h:C7B P t l c M.length=some (v,e)):A4W P t l c M=some (v,e.mem M)/\e.ok M.length:=by
 unfold C7B at h;split at h;case h_2=>simp at h
 rename_i e kl l kc c he;split at h;case h_2=>simp at h
 rename_i sz z b hs hz hb;split at h;case isFalse=>simp at h
 rename_i hc;simp only[Z0a,Z0b]at h;obtain⟨rfl,rfl⟩:=h;exact⟨by simp only[A4W,he,hs,hz,hb,Z0d hc,Ef.mem],trivial⟩
def D4l{t:TypeId}{x v}{e}(h:C1R P t x M.length=some (v,e)):A6D P t x M=some (v,e.mem M)/\e.ok M.length:=by
 unfold C1R at h;split at h;case h_2=>simp at h
 rename_i str hu;simp only[Z0a,Z0b]at h;obtain⟨rfl,rfl⟩:=h;exact⟨by simp only[A6D,hu,Ef.mem],trivial⟩
def D6l{x v}{e}(h:D2G x (λi=>M[i]?)=some (v,e)):A5K x M=some (v,e.mem M)/\e.ok M.length:=by
 unfold D2G at h;split at h;case h_2=>simp at h
 rename_i b hx;split at h;case h_2=>simp at h
 rename_i str pos hM;split at h
 .rename_i hlt;simp only[Z0a,Z0b]at h;obtain⟨rfl,rfl⟩:=h;exact⟨by simp only[A5K,hM,Z0d hlt,Ef.mem],A0r hM⟩
 .rename_i hlt;simp only[Z0a,Z0b]at h;obtain⟨rfl,rfl⟩:=h;exact⟨by simp only[A5K,hM,Z0e hlt,Ef.mem],trivial⟩
def D4a{t:TypeId}{x v}{e}(h:C6d P t (λi=>M[i]?) x=some (v,e)):A7U P t M x=some (v,e.mem M)/\e.ok M.length:=by
 unfold C6d at h;split at h;case h_2=>simp at h
 rename_i f g sz lo len;split at h;case h_2=>simp at h
 rename_i e0 hel;split at h;case h_2=>simp at h
 rename_i z ety sz2 cs g2 hist hz hM;split at h;case h_2=>simp at h
 rename_i n hn;split at h;case isFalse=>simp at h
 rename_i hc;split at h
 .rename_i h0;simp only[Z0a,Z0b]at h;obtain⟨rfl,rfl⟩:=h;exact⟨by simp only[A7U,hel,hz,hM,hn,Z0d hc,Z0d h0,Ef.mem],trivial⟩
 .rename_i h0;simp only[Z0a,Z0b]at h;obtain⟨rfl,rfl⟩:=h;exact⟨by simp only[A7U,hel,hz,hM,hn,Z0d hc,Z0e h0,Ef.mem],A0r hM⟩
def B4a(e:TypeId)(sz:Nat)(s x:AV)(gt:GT):Option (AV×Ef):=
 match A6W gt sz x,s with
 |some (news,m),.vref f h s' lo len=>match gt f with
  |some (.vec e2 s2 cs g hist)=>match hist.lookup h with
   |some n=>if e2=e/\s'=sz/\s2=sz/\0<m/\lo+len+m<=n then
    some (.vref f h sz lo (len+m),.put f (.vec e sz (A0d cs ((lo+len)*sz) news) g (A2q sz h ((lo+len)*sz) hist)))
    else none
   |none=>none
  |_=>none
 |_,_=>none
def D2R(e:TypeId)(sz:Nat)(s x:AV)(gt:GT)(ln:Nat):Option (AV×Ef):=
 match A6W gt sz x with
 |none=>none
 |some (news,m)=>match s with
  |.val (.slice none 0 0)=>if m=0 then some (s,.non)else some (.vref ln 0 sz 0 m,.push (.vec e sz news 0 [(0,m)]))
  |.list s' [] .full=>if s'=sz then(if m=0 then some (s,.non)else some (.vref ln 0 sz 0 m,.push (.vec e sz news 0 [(0,m)])))else none
  |.vref f h s' lo len=>match gt f with
   |some (.vec e2 s2 cs g hist)=>match hist.lookup h with
    |some n=>if e2=e/\s'=sz/\s2=sz/\lo+len<=n then
     if m=0 then some (s,.non)else
     some (.vref f (g+1) sz 0 (len+m),.put f (.vec e sz ((cs.drop (lo*sz)).take (len*sz)++news) (g+1) ((g+1,len+m)::if lo=0 then hist.filter (λp=>decide (p.2<=len))else[])))
     else none
    |none=>none
   |_=>none
  |_=>none
def C3U(e:TypeId)(sz:Nat)(s x:AV):A4I e sz s x M=(B4a e sz s x (λi=>M[i]?)).map λr=>(r.1,r.2.mem M):=by
 unfold A4I B4a;rw[B0B];cases A6W (λi=>M[i]?) sz x with
 |none=>rfl
 |some r=>
  cases s<;>try rfl
  rename_i f h s' lo len;simp only;cases M[f]? with
  |none=>rfl
  |some ob=>
   cases ob<;>try rfl
   simp only;rename_i hist;cases hist.lookup h with
   |none=>rfl
   |some n=>simp only;split<;>rfl
def C9j{e:TypeId}{sz}{s x v}{ef}(h:B4a e sz s x (λi=>M[i]?)=some (v,ef)):ef.ok M.length:=by
 unfold B4a at h;split at h;case h_2=>simp at h
 split at h;case h_2=>simp at h
 rename_i hM;split at h;case h_2=>simp at h
 split at h;case isFalse=>simp at h
 simp only[Z0a,Z0b]at h;obtain⟨rfl,rfl⟩:=h;exact A0r hM
def D5V{e:TypeId}{sz}{s0 x v}{ef}(h:D2R e sz s0 x (λi=>M[i]?) M.length=some (v,ef)):A3e e sz s0 x M=some (v,ef.mem M)/\ef.ok M.length:=by
 unfold D2R at h;split at h
 .simp at h
 rename_i news m hsrc;rw[<-B0B]at hsrc;split at h
 .split at h
  .rename_i h0;simp only[Z0a,Z0b]at h;obtain⟨rfl,rfl⟩:=h;exact⟨by simp only[A3e,hsrc,Z0d h0,Ef.mem],trivial⟩
  .rename_i h0;simp only[Z0a,Z0b]at h;obtain⟨rfl,rfl⟩:=h;exact⟨by simp only[A3e,hsrc,Z0e h0,Ef.mem],trivial⟩
 .split at h;case isFalse=>simp at h
  rename_i hss;split at h
  .rename_i h0;simp only[Z0a,Z0b]at h;obtain⟨rfl,rfl⟩:=h;exact⟨by simp only[A3e,hsrc,Z0d hss,Z0d h0,Ef.mem],trivial⟩
  .rename_i h0;simp only[Z0a,Z0b]at h;obtain⟨rfl,rfl⟩:=h;exact⟨by simp only[A3e,hsrc,Z0d hss,Z0e h0,Ef.mem],trivial⟩
 .rename_i f h' s' lo len;split at h;case h_2=>simp at h
  rename_i e2 s2 cs g hist hM;split at h;case h_2=>simp at h
  rename_i n hn;split at h;case isFalse=>simp at h
  rename_i hc;split at h
  .rename_i h0;simp only[Z0a,Z0b]at h;obtain⟨rfl,rfl⟩:=h;exact⟨by simp only[A3e,hsrc,hM,hn,Z0d hc,Z0d h0,Ef.mem],trivial⟩
  .rename_i h0;simp only[Z0a,Z0b]at h;obtain⟨rfl,rfl⟩:=h;exact⟨by simp only[A3e,hsrc,hM,hn,Z0d hc,Z0e h0,Ef.mem],A0r hM⟩
 .simp at h
def B6U(P:Program)(t u:TypeId)(s x:AV)(gt:GT)(ln:Nat):Option (AV×Ef):=match A0S P t with
 |some e=>match B2j P e with
  |some (sz,bytes)=>match C2z P u,B0c true s with
   |true,true=>match A6W gt sz s,A6W gt sz x with
    |some (_,k),some (_,m)=>if(k+m)*bytes<=140737488355328 then(match B4a e sz s x gt with|some r=>some r|none=>D2R e sz s x gt ln)else none
    |_,_=>none
   |_,_=>none
  |none=>none
 |none=>none
def C3Q{t u:TypeId}{s x v}{ef}(h:B6U P t u s x (λi=>M[i]?) M.length=some (v,ef)):A7p P t u s x M=some (v,ef.mem M,A5C s)/\ef.ok M.length:=by
 unfold B6U at h;split at h;case h_2=>simp at h
 rename_i e he;split at h;case h_2=>simp at h
 rename_i sz bytes hf;split at h;case h_2=>simp at h
 rename_i hu hv;split at h;case h_2=>simp at h
 rename_i c1 k c2 m h1 h2;rw[<-B0B]at h1 h2;split at h;case isFalse=>simp at h
 rename_i hb;have key:∀r,(match A4I e sz s x M with|some r=>some r|none=>A3e e sz s x M)=some r->A3B false true e sz bytes s x M=some r:=by intro r hr;unfold A3B;rw[Z0d hv,h1,h2];simp only;rw[Z0d hb];exact hr
 split at h
 .rename_i r hr;simp only[Z0a]at h;subst h;have:=key (v,ef.mem M) (by rw[C3U,hr];rfl);exact⟨by simp only[A7p,he,hf,hu,hv,this],C9j hr⟩
 .rename_i hr;obtain⟨k1,k2⟩:=D5V h;have:=key (v,ef.mem M) (by rw[C3U,hr];exact k1);exact⟨by simp only[A7p,he,hf,hu,hv,this],k2⟩
end
inductive FK where
 |pure
 |read (r:Nat)
 |write (ws:List Nat)
def FK.ws:FK->List Nat
 |.write ws=>ws
 |_=>[]
def FK.foot(n:Nat):FK->A4Y
 |.pure=>⟨0,0,0,[],0⟩
 |.read r=>⟨1,r,0,[],0⟩
 |.write ws=>⟨2,0,0,ws,n⟩
abbrev FR:=AV×Ef×FK
def C2O(s:Option Nat)(g:GT)(a v:AV):Option Ef:=match a with
 |.ptr b off=>match g b with
  |some (.cells bt cs)=>if v.storable&&decide (off+v.cells.length<=cs.length)&&decide (s=some v.cells.length)then some (.put b (.cells bt (A0d cs off v.cells)))else none
  |_=>none
 |.vptr f h off=>match g f with
  |some (.vec vt sz cs g' hist)=>match hist.lookup h with
   |some n=>if v.storable&&decide (off+v.cells.length<=n*sz)&&decide (s=some v.cells.length)then some (.put f (.vec vt sz (A0d cs off v.cells) g' (A2q sz h off hist)))else none
   |none=>none
  |_=>none
 |_=>none
def B3P(P:Program)(pt:TypeId)(gt:GT)(p n:AV):Option (AV×Ef):=match n with
 |.val (.int .i64 n)=>if n=0 then(match p with
  |.val (.pointer none)=>some (.val (.string .empty),.non)
  |.vptr _ _ _=>some (.val (.string .empty),.non)
  |_=>none)else match p with
  |.vptr f g off=>match P.underlying pt,gt f with
   |some (.pointer e),some (.vec ty 1 cs _ hist)=>match hist.lookup g with
    |some m=>if 0<n/\off+n.toNat<=m/\ty=e/\P.cellsOf e=1/\n<=9223372036854775807 then match B0H ((cs.drop off).take n.toNat)with
     |some l=>some (.val (.string ⟨l.toArray⟩),.put f .gone)
     |none=>none
     else none
    |none=>none
   |_,_=>none
  |_=>none
 |_=>none
def B4d(P:Program)(b:Builtin)(ts:List TypeId)(args:List AV)(g:GT):Option (AV×Ef):=match b,ts,args with
 |.copy,[t,u],[d,s]=>D0K P t u g d s
 |.clear,[t],[x]=>C6d P t g x
 |.unsafeSliceData,_,[x]=>match B9f g x with
  |some v=>some (v,.non)
  |none=>none
 |.unsafeString,[pt,it],[p,n]=>B3P P pt g p n
 |_,_,_=>none
def A5z(C:Ctx)(o:Oper)(ρ:Operand->AV)(g:GT)(n:Nat):Option (AV×Ef):=match o.op with
 |.store t a x=>match C2O (A1e C.P t) g (ρ a) (ρ x)with
  |some e=>some (.val undef,e)
  |none=>none
 |.alloc e=>match A0D C.P e with
  |some z=>if z.all (·.oneCell')then some (.ptr n 0,.push (.cells e (z.map .val)))else none
  |none=>none
 |.box e x=>if(ρ x).storable then some (.ptr n 0,.push (.cells e (ρ x).cells))else none
 |.buildSlice t k parts=>if C.data t then none else B6V C.P t k (parts.toList.map λp=>(p.1,ρ p.2)) n
 |.makeSlice t l c=>C7B C.P t (ρ l) (ρ c) n
 |.makeMap t none=>some (.mapr n,.push (.map [] 0))
 |.mapUpdate t m k x=>match B6J C.P t g (ρ m) (ρ k) (ρ x)with
  |some e=>some (.val undef,e)
  |none=>none
 |.insert t m k x=>match B6J C.P t g (ρ m) (ρ k) (ρ x)with
  |some e=>some (.val undef,e)
  |none=>none
 |.range t x=>C1R C.P t (ρ x) n
 |.next x true=>D2G (ρ x) g
 |.slice t x lo hi mx=>match B7N C.P t g (ρ x) (lo.map ρ) (hi.map ρ) (mx.map ρ)with
  |some v=>some (v,.non)
  |none=>none
 |.convert s d x=>match B0N C.P s d (ρ x)with
  |some v=>some (v,.non)
  |none=>match D5n C.P s d g (ρ x)with
   |some v=>some (v,.non)
   |none=>none
 |.call {callee:=.builtin b,args,argTypes}=>B4d C.P b argTypes.toList (args.toList.map ρ) g
 |_=>none
def B2L(C:Ctx)(o:Oper)(ρ:Operand->AV)(g:GT):Option AV:=match o.op with
 |.load t x=>(B7K g (ρ x)).bind (A1m C.P t)
 |.lookup t m k ok=>C8w C.P t g (ρ m) (ρ k) ok
 |.call {callee:=.builtin .len,args,argTypes}=>match args.toList,argTypes.toList with
  |[x],[t]=>(C5q C.P t g (ρ x)).map λ(n:Nat)=>AV.val (.int .i64 n)
  |_,_=>none
 |_=>none
def B0y(C:Ctx)(o:Oper)(ρ:Operand->AV)(g:GT)(n:Nat):Option FR:=match(A0n C HX o ρ).or (A0E C o ρ)with
 |some v=>some (v,.non,.pure)
 |none=>match A0y o ρ with
  |some r=>match B2L C o ρ g with
   |some v=>some (v,.non,.read r)
   |none=>none
  |none=>match A5z C o ρ g n with
   |some (v,e)=>some (v,e,.write (A1V o ρ))
   |none=>none
structure B4P (C:Ctx) (o:Oper) (ρ:Operand->AV) (M:Mem) (v:AV) (e:Ef) (k:FK):Prop where
 ok:e.ok M.length
 eval:A0A C HX o ρ M=some (v,e.mem M)
 kind:match k with
  |.pure=>(A0n C HX o ρ).or (A0E C o ρ)=some v/\e=.non
  |.read r=>(A0n C HX o ρ).or (A0E C o ρ)=none/\A0y o ρ=some r/\A2r C o ρ M=some v/\e=.non/\A1V o ρ=[]
  |.write ws=>(A0n C HX o ρ).or (A0E C o ρ)=none/\A0y o ρ=none/\ws=A1V o ρ
def C3N{C}{o}{ρ:Operand->AV}{M}{v}(h:(A0n C HX o ρ).or (A0E C o ρ)=some v):B4P C o ρ M v .non .pure:=by
 refine⟨trivial,?_,h,rfl⟩;rcases Z3x.1 h with h1|⟨h1,h2⟩
 .simp only[A0A,h1,Ef.mem]
 .have h3:=B1Q (h:=HX) h2;simp only[A0A,h1,(h3 _).1,(h3 _).2,h2,Ef.mem]
def B5S{C}{M}{ρ:Operand->AV}{d}{lt:TypeId}{a x}{ty:TypeId}{p}{af}{gd}{e}(h:C2O (A1e C.P lt) (λi=>M[i]?) (ρ a) (ρ x)=some e):
 A0A C HX ⟨d,.store lt a x,ty,p,af,gd⟩ ρ M=some (.val undef,e.mem M)/\e.ok M.length:=by
 have hm:A0W C HX ⟨d,.store lt a x,ty,p,af,gd⟩ ρ M=some (.val undef,e.mem M)/\e.ok M.length:=by
  unfold C2O at h;split at h
  .rename_i b off hb;split at h;(case h_2=>simp at h);rename_i bt cs hM;split at h;(case isFalse=>simp at h);rename_i hc;simp only[Z0a]at h;subst h;exact⟨by simp only[A0W,hb,hM,hc,Z0G,Ef.mem],A0r hM⟩
  .rename_i f g' off hb;split at h;(case h_2=>simp at h);rename_i vt sz cs g2 hist hM;split at h;(case h_2=>simp at h);rename_i n hn;split at h;(case isFalse=>simp at h);rename_i hc;simp only[Z0a]at h;subst h;exact⟨by simp only[A0W,hb,hM,hn,hc,Z0G,Ef.mem],A0r hM⟩
  .simp at h
 refine⟨?_,hm.2⟩
 have hp:A0n C HX ⟨d,.store lt a x,ty,p,af,gd⟩ ρ=none:=rfl
 simp only[A0A,hp,hm.1]
def C4j{P}{M}{pt:TypeId}{p n v}{e}(h:B3P P pt (λi=>M[i]?) p n=some (v,e)):A2g P pt M p n=some (v,e.mem M)/\e.ok M.length:=by
 unfold B3P at h;split at h;case h_2=>simp at h
 rename_i n;split at h
 .rename_i h0;split at h
  .simp only[Z0a,Z0b]at h;obtain⟨rfl,rfl⟩:=h;exact⟨by simp only[A2g,Z0d h0,Ef.mem],trivial⟩
  .simp only[Z0a,Z0b]at h;obtain⟨rfl,rfl⟩:=h;exact⟨by simp only[A2g,Z0d h0,Ef.mem],trivial⟩
  .simp at h
 .rename_i h0;split at h;case h_2=>simp at h
  rename_i f g' off;split at h;case h_2=>simp at h
  rename_i e0 ety cs g2 hist hu hM;split at h;case h_2=>simp at h
  rename_i m hm;split at h;case isFalse=>simp at h
  rename_i hc;split at h;case h_2=>simp at h
  rename_i l hl;simp only[Z0a,Z0b]at h;obtain⟨rfl,rfl⟩:=h;exact⟨by simp only[A2g,Z0e h0,hu,hM,hm,Z0d hc,hl,Ef.mem],A0r hM⟩
def B7R{C}{o}{ρ:Operand->AV}{M}{v}{e}(hp:(A0n C HX o ρ).or (A0E C o ρ)=none)(h:A5z C o ρ (λi=>M[i]?) M.length=some (v,e)):A0A C HX o ρ M=some (v,e.mem M)/\e.ok M.length:=by
 simp only[Z3a]at hp;obtain⟨w,y⟩:=hp;have s:∀r,A0W C HX o ρ M=some r->A0A C HX o ρ M=some r:=λr hr=>by simp only[A0A,w,hr]
 have f:∀r,A0W C HX o ρ M=none->A0R C HX o ρ M=some r->A0A C HX o ρ M=some r:=λr h1 hr=>by simp only[A0A,w,h1,hr]
 have j:∀r,A0W C HX o ρ M=none->A0R C HX o ρ M=none->A2V C o ρ M=some r->A0A C HX o ρ M=some r:=λr h1 h2 hr=>by simp only[A0A,w,h1,h2,y,hr]
 obtain⟨d,op,t,p,af,g⟩:=o;cases op<;>first|(simp[A5z]at h;done)|skip
 case store lt a x=>
  simp only[A5z]at h;split at h;case h_2=>simp at h
  rename_i e0 hs;simp only[Z0a,Z0b]at h;obtain⟨rfl,rfl⟩:=h;exact B5S hs
 case alloc et=>
  simp only[A5z]at h;split at h;case h_2=>simp at h
  rename_i z hz;split at h;case isFalse=>simp at h
  rename_i hc;simp only[Z0a,Z0b]at h;obtain⟨rfl,rfl⟩:=h;exact⟨s _ (by simp only[A0W,hz,hc,Z0G,Ef.mem]),trivial⟩
 case box et x=>
  simp only[A5z]at h;split at h;case isFalse=>simp at h
  rename_i hc;simp only[Z0a,Z0b]at h;obtain⟨rfl,rfl⟩:=h;exact⟨s _ (by simp only[A0W,hc,Z0G,Ef.mem]),trivial⟩
 case buildSlice bt n ps=>
  simp only[A5z]at h;split at h
  .simp at h
  rename_i q;have q:C.data bt=false:=by simpa using q
  obtain⟨k1,k2⟩:=D1K h;cases d with
  |none=>exfalso;simp only[A0n,B2C,HX,A1R,Z0q]at w;unfold B6V at h;split at h;(case h_2=>simp at h);rename_i e0 he;split at h;(case h_2=>simp at h);rename_i sz z hs hz;split at h;(case isFalse=>simp at h);rename_i hc;simp only[Z0i,Z0b]at h;obtain⟨rows,hr,-,-⟩:=h;simp only[he,hs,hz,Z0d hc,hr]at w;simp at w
  |some d=>exact⟨f _ rfl (by show(if B2C C HX bt (some d)=true then A1v C.P bt n _ M else none)=_;rw[Z0d (show B2C C HX bt (some d)=true by simp[B2C,A1R,HX,q])];exact k1),k2⟩
 case makeSlice st l c=>simp only[A5z]at h;obtain⟨k1,k2⟩:=D3y h;exact⟨f _ rfl k1,k2⟩
 case makeMap mt r=>
  cases r with
  |some r=>simp[A5z]at h
  |none=>simp only[A5z,Z0a,Z0b]at h;obtain⟨rfl,rfl⟩:=h;exact⟨f _ rfl rfl,trivial⟩
 case mapUpdate mt m k x=>
  simp only[A5z]at h;split at h;case h_2=>simp at h
  rename_i e0 hs;simp only[Z0a,Z0b]at h;obtain⟨rfl,rfl⟩:=h;obtain⟨k1,k2⟩:=C4B hs;exact⟨f _ rfl (by simp only[A0R,k1,Z0M]),k2⟩
 case insert mt m k x=>
  simp only[A5z]at h;split at h;case h_2=>simp at h
  rename_i e0 hs;simp only[Z0a,Z0b]at h;obtain⟨rfl,rfl⟩:=h;obtain⟨k1,k2⟩:=C4B hs;exact⟨f _ rfl (by simp only[A0R,k1,Z0M]),k2⟩
 case range rt x=>simp only[A5z]at h;obtain⟨k1,k2⟩:=D4l h;exact⟨j _ rfl rfl k1,k2⟩
 case next x b=>
  cases b with
  |false=>simp[A5z]at h
  |true=>simp only[A5z]at h;obtain⟨k1,k2⟩:=D6l h;exact⟨j _ rfl rfl k1,k2⟩
 case slice st x lo hi mx=>
  simp only[A5z]at h;split at h;case h_2=>simp at h
  rename_i v0 hs;simp only[Z0a,Z0b]at h;obtain⟨rfl,rfl⟩:=h;rw[<-C4E]at hs;exact⟨j _ rfl rfl (by simp only[A2V,hs,Z0M,Ef.mem]),trivial⟩
 case convert a b x=>
  simp only[A5z]at h;split at h
  .rename_i v0 hs;simp only[Z0a,Z0b]at h;obtain⟨rfl,rfl⟩:=h;exact⟨j _ rfl rfl (by simp only[A2V,hs,Ef.mem]),trivial⟩
  .rename_i hs;split at h;(case h_2=>simp at h);rename_i v0 hs2;simp only[Z0a,Z0b]at h;obtain⟨rfl,rfl⟩:=h;rw[<-D4t]at hs2;exact⟨j _ rfl rfl (by simp only[A2V,hs,hs2,Z0M,Ef.mem]),trivial⟩
 case call c=>
  obtain⟨callee,args,ts⟩:=c;cases callee with
  |builtin b=>
   simp only[A5z]at h;unfold B4d at h;split at h
   .rename_i t' u x s0 hts hargs;obtain⟨k1,k2⟩:=D6a h;exact⟨f _ rfl (by simp only[A0R,hts,hargs,A2d,k1]),k2⟩
   .rename_i ty x hts hargs;obtain⟨k1,k2⟩:=D4a h;exact⟨j _ rfl (by simp only[A0R,hts,hargs,A2d]) (by simp only[A2V,hts,hargs,A3t,k1]),k2⟩
   .rename_i x hargs;split at h;(case h_2=>simp at h);rename_i v0 hs;simp only[Z0a,Z0b]at h;obtain⟨rfl,rfl⟩:=h;rw[<-C3c]at hs;exact⟨j _ rfl (by simp only[A0R,hargs,A2d]) (by simp only[A2V,hargs,A3t,hs,Z0M,Ef.mem]),trivial⟩
   .rename_i pt it pp nn hts hargs;obtain⟨k1,k2⟩:=C4j h;exact⟨j _ rfl (by simp only[A0R,hts,hargs,A2d]) (by simp only[A2V,hts,hargs,A3t,k1]),k2⟩
   .simp at h
  |_=>simp[A5z]at h
def B9G{C}{o}{ρ:Operand->AV}{M}{v}{r}(hp:(A0n C HX o ρ).or (A0E C o ρ)=none)(hr:A0y o ρ=some r)(h:B2L C o ρ (λi=>M[i]?)=some v):B4P C o ρ M v .non (.read r):=by
 have j:=hp;simp only[Z3a]at hp;obtain⟨a,w⟩:=hp;obtain⟨d,op,t,p,af,g⟩:=o;cases op<;>first|(simp[B2L]at h;done)|skip
 case load lt x=>
  simp only[B2L,<-C7U]at h;have s:A2r C ⟨d,.load lt x,t,p,af,g⟩ ρ M=some v:=h;refine⟨trivial,?_,j,hr,s,rfl,rfl⟩;have hm:A0W C HX ⟨d,.load lt x,t,p,af,g⟩ ρ M=some (v,M):=by
   simp only[A0y]at hr;simp only[A0W];split at hr
   .rename_i b off hb;rw[hb]at h|-;simp only;rw[h];rfl
   .rename_i f h' off hb;rw[hb]at h|-;simp only;rw[h];rfl
   .simp at hr
  simp only[A0A,a,hm,Ef.mem]
 case lookup mt m k ok=>
  simp only[B2L,<-D1Z]at h;refine⟨trivial,?_,j,hr,h,rfl,rfl⟩;have hm:A0W C HX ⟨d,.lookup mt m k ok,t,p,af,g⟩ ρ M=none:=rfl;have q:A0R C HX ⟨d,.lookup mt m k ok,t,p,af,g⟩ ρ M=some (v,M):=by simp only[A0R,h,Z0M]
  simp only[A0A,a,hm,q,Ef.mem]
 case call c=>
  obtain⟨callee,args,ts⟩:=c;cases callee with
  |builtin b=>
   cases b<;>first|(simp[B2L]at h;done)|skip
   case len=>
    simp only[B2L]at h;split at h;(case h_2=>simp at h);rename_i x t' ha ht;simp only[Z0i,<-C9b]at h;obtain⟨n,hn,rfl⟩:=h;(have l:args=#[x]:=by apply Z1A;simpa using ha);(have u:ts=#[t']:=by apply Z1A;simpa using ht);subst l;subst u;have hl:A1H C.P t' (ρ x)=none:=by
     have e:A0n C HX ⟨d,.call {callee:=.builtin .len,args:=#[x],argTypes:=#[t']},t,p,af,g⟩ ρ=(A1H C.P t' (ρ x)).map λ(n:Nat)=>AV.val (goInt (n:Int)):=rfl;rw[e]at a;cases hl:A1H C.P t' (ρ x)with
     |none=>rfl
     |some n=>rw[hl]at a;simp at a
    (have s:A2r C ⟨d,.call {callee:=.builtin .len,args:=#[x],argTypes:=#[t']},t,p,af,g⟩ ρ M=some (.val (.int .i64 n)):=by simp only[A2r,hl,hn,Z3n,Z0M]);refine⟨trivial,?_,j,hr,s,rfl,?_⟩
    .have hm:A0W C HX ⟨d,.call {callee:=.builtin .len,args:=#[x],argTypes:=#[t']},t,p,af,g⟩ ρ M=none:=rfl;(have q:A0R C HX ⟨d,.call {callee:=.builtin .len,args:=#[x],argTypes:=#[t']},t,p,af,g⟩ ρ M=some (.val (.int .i64 n),M):=by simp only[A0R,Z0C,Z1P,A2d,hn,Z0M];rfl);simp only[A0A,a,hm,q,Ef.mem]
    .simp only[A0y]at hr;simp only[A1V];split at hr
     .rename_i b hb;rw[hb]
     .simp at hr
  |_=>simp[B2L]at h
def A3K{C}{o}{ρ:Operand->AV}{M}{v}{e}{k}(h:B0y C o ρ (λi=>M[i]?) M.length=some (v,e,k)):B4P C o ρ M v e k:=by
 unfold B0y at h;split at h
 .rename_i v0 hp;simp only[Z0a,Z0b]at h;obtain⟨rfl,rfl,rfl⟩:=h;exact C3N hp
 .rename_i hp;split at h
  .rename_i r hr;split at h;(case h_2=>simp at h);rename_i v0 hv;simp only[Z0a,Z0b]at h;obtain⟨rfl,rfl,rfl⟩:=h;exact B9G hp hr hv
  .rename_i hr;split at h;(case h_2=>simp at h);rename_i v0 e0 hv;simp only[Z0a,Z0b]at h;obtain⟨rfl,rfl,rfl⟩:=h;obtain⟨k1,k2⟩:=B7R hp hv;exact⟨k2,k1,hp,hr,rfl⟩
inductive Arg where
 |tmp (i:Nat)
 |cst (v:AV)
def A3H(C:Ctx):Operand->Arg
 |.tmp t=>.tmp t
 |.const v=>.cst (.val v)
 |.global g=>.cst (C.gl g)
 |.func f=>.cst (.func (.func f) [] [])
noncomputable def rd(t:BT):Arg->AV
 |.tmp i=>t.getR i
 |.cst v=>v
def A4Z{C}{t}(x:Operand):rd t (A3H C x)=t.fn.ev C x:=by cases x<;>first|rfl|exact BT.getR_eq _ _
inductive FOp where
 |mv (a:Arg)
 |pick (c a b:Arg)
 |ld (ag:Option Bool) (n:Option Nat) (a:Arg)
 |st (s:Option Nat) (a x:Arg)
 |faddr (k:Option Nat) (a:Arg)
 |ext (a:Arg) (i:Nat)
 |bin (op:BinOp) (x y:Arg)
 |notb (a:Arg)
 |nilc (a:Arg)
 |idx (e:Option (Option Nat)) (x i:Arg)
 |lenS (a:Arg)
 |lenStr (a:Arg)
 |allc (e:TypeId) (z:List AV)
 |bx (e:TypeId) (a:Arg)
 |call (f:Arg) (as:List Arg)
 |app (t u:TypeId) (s x:Arg)
 |gen
def A3d(C:Ctx)(o:Oper):FOp:=match o.op with
 |.move x=>.mv (A3H C x)
 |.assign x=>.mv (A3H C x)
 |.pick c a b=>.pick (A3H C c) (A3H C a) (A3H C b)
 |.load t x=>.ld (A2v C.P t) (A1e C.P t) (A3H C x)
 |.store t a x=>.st (A1e C.P t) (A3H C a) (A3H C x)
 |.fieldAddr t x f=>.faddr (A1D C.P t f) (A3H C x)
 |.extract x i=>.ext (A3H C x) i
 |.binOp op t x y _=>.bin op (A3H C x) (A3H C y)
 |.unOp .not _ x=>.notb (A3H C x)
 |.nilCheck x=>.nilc (A3H C x)
 |.indexAddr t x i=>.idx ((A0S C.P t).map (A1e C.P)) (A3H C x) (A3H C i)
 |.alloc e=>match A0D C.P e with
  |some z=>match z.all (·.oneCell')with
   |true=>.allc e (z.map .val)
   |false=>.gen
  |none=>.gen
 |.box e x=>.bx e (A3H C x)
 |.call {callee:=.value f,args,..}=>.call (A3H C f) (args.toList.map (A3H C))
 |.call {callee:=.builtin .append,args,argTypes}=>match args.toList,argTypes.toList with
  |[s,x],[t,u]=>match o.dst with
   |some _=>.app t u (A3H C s) (A3H C x)
   |none=>.gen
  |_,_=>.gen
 |.call {callee:=.builtin .len,args,argTypes}=>match args.toList,argTypes.toList with
  |[x],[t]=>match C.P.underlying t with
   |some (.slice _)=>.lenS (A3H C x)
   |some .string=>.lenStr (A3H C x)
   |_=>.gen
  |_,_=>.gen
 |_=>.gen
def D5E(c a b:AV):Option FR:=match c with
 |.val (.bool true)=>some (a,.non,.pure)
 |.val (.bool false)=>some (b,.non,.pure)
 |_=>none
def okv(v:Option AV)(k:FK):Option FR:=match v with
 |some v=>some (v,.non,k)
 |none=>none
def rLd(ag:Option Bool)(n:Option Nat)(g:GT)(a:AV):Option FR:=match a with
 |.cptr cs=>okv (A8T ag n cs) .pure
 |.ptr b off=>match g b with
  |some (.cells _ cs)=>match Nat.ble off cs.length with
   |true=>okv (A8T ag n (cs.drop off)) (.read b)
   |false=>none
  |_=>none
 |.vptr f h off=>match B7K g (.vptr f h off)with
  |some cs=>okv (A8T ag n cs) (.read f)
  |none=>none
 |_=>none
def rSt(s:Option Nat)(g:GT)(a x:AV):Option FR:=match C2O s g a x with
 |some e=>some (.val undef,e,.write (match a with|.ptr b _=>[b]|.vptr f _ _=>[f]|_=>[]))
 |none=>none
def D8N(op:BinOp)(x y:AV)(gen:Option FR):Option FR:=match x,y with
 |.val (.int k a),.val (.int k' b)=>match decide (k=k')with
  |true=>match A9d op k a b with
   |some v=>some (.val v,.non,.pure)
   |none=>gen
  |false=>gen
 |_,_=>gen
def D5F(a:AV)(gen:Option FR):Option FR:=match a with
 |.vref _ _ _ _ len=>some (.val (.int .i64 len),.non,.pure)
 |.val (.slice none 0 0)=>some (.val (.int .i64 0),.non,.pure)
 |.list _ rows _=>some (.val (.int .i64 rows.length),.non,.pure)
 |_=>gen
def C7X(a:AV)(gen:Option FR):Option FR:=match a with
 |.val (.string s)=>some (.val (.int .i64 s.size),.non,.pure)
 |_=>gen
def rBx(e:TypeId)(n:Nat)(a:AV):Option FR:=match a.storable with
 |true=>some (.ptr n 0,.push (.cells e a.cells),.write [])
 |false=>none
noncomputable def A4K(C:Ctx)(o:Oper)(f:FOp)(t:BT)(g:GT)(n:Nat):Option FR:=match f with
 |.mv a=>some (rd t a,.non,.pure)
 |.pick c a b=>D5E (rd t c) (rd t a) (rd t b)
 |.ld ag s a=>rLd ag s g (rd t a)
 |.st s a x=>rSt s g (rd t a) (rd t x)
 |.faddr k a=>okv (A8Z k (rd t a)) .pure
 |.ext a i=>okv (A8f (rd t a) i) .pure
 |.bin op x y=>D8N op (rd t x) (rd t y) (B0y C o (t.fn.ev C) g n)
 |.notb a=>okv (C1C (rd t a)) .pure
 |.nilc a=>okv (B4r (rd t a)) .pure
 |.idx e x i=>match A5O e (rd t x) (rd t i)with
  |some v=>some (v,.non,.pure)
  |none=>B0y C o (t.fn.ev C) g n
 |.lenS a=>D5F (rd t a) (B0y C o (t.fn.ev C) g n)
 |.lenStr a=>C7X (rd t a) (B0y C o (t.fn.ev C) g n)
 |.allc e z=>some (.ptr n 0,.push (.cells e z),.write [])
 |.bx e a=>rBx e n (rd t a)
 |.call _ _=>none
 |.app _ _ _ _=>none
 |.gen=>B0y C o (t.fn.ev C) g n
def B7w{v}{k}{r}(h:okv v k=some r):∃u,v=some u/\r=(u,.non,k):=by
 cases v with
 |none=>simp[okv]at h
 |some u=>simp only[okv,Z0a]at h;exact⟨u,rfl,h.symm⟩
def C3I{C}{o}{t}{M}{v}{e}{k}(h:A4K C o (A3d C o) t (λi=>M[i]?) M.length=some (v,e,k)):B4P C o (t.fn.ev C) M v e k:=by
 have j:∀{u:AV},A0n C HX o (t.fn.ev C)=some u->B4P C o (t.fn.ev C) M u .non .pure:=λhu=>C3N (by rw[hu];rfl);obtain⟨d,op,ty,p,af,g⟩:=o;have q:A4K C ⟨d,op,ty,p,af,g⟩ .gen t (λi=>M[i]?) M.length=some (v,e,k)->B4P C ⟨d,op,ty,p,af,g⟩ (t.fn.ev C) M v e k:=λh=>A3K h;have m:∀{w:Option AV},okv w .pure=some (v,e,k)->A0n C HX ⟨d,op,ty,p,af,g⟩ (t.fn.ev C)=w->B4P C ⟨d,op,ty,p,af,g⟩ (t.fn.ev C) M v e k:=by intro w hw he;obtain⟨u,hu,hr⟩:=B7w hw;simp only[Z0b]at hr;obtain⟨rfl,rfl,rfl⟩:=hr;exact j (he.trans hu)
 cases op<;>first|exact q h|skip
 case move x=>simp only[A3d,A4K,A4Z,Z0a,Z0b]at h;obtain⟨rfl,rfl,rfl⟩:=h;exact j rfl
 case assign x=>simp only[A3d,A4K,A4Z,Z0a,Z0b]at h;obtain⟨rfl,rfl,rfl⟩:=h;exact j rfl
 case pick c a b=>
  simp only[A3d,A4K,A4Z]at h;unfold D5E at h;split at h
  .rename_i hc;simp only[Z0a,Z0b]at h;obtain⟨rfl,rfl,rfl⟩:=h;exact j (by simp only[A0n,hc,Z0G])
  .rename_i hc;simp only[Z0a,Z0b]at h;obtain⟨rfl,rfl,rfl⟩:=h;exact j (by simp only[A0n,hc];rfl)
  .simp at h
 case unOp uop ut x=>
  cases uop<;>first|exact q h|skip
  simp only[A3d,A4K,A4Z]at h;exact m h rfl
 case nilCheck x=>simp only[A3d,A4K,A4Z]at h;exact m h rfl
 case fieldAddr ft x f=>simp only[A3d,A4K,A4Z]at h;exact m h rfl
 case extract x i=>simp only[A3d,A4K,A4Z]at h;exact m h rfl
 case indexAddr it x i=>
  simp only[A3d,A4K,A4Z]at h;split at h
  .rename_i u hu;simp only[Z0a,Z0b]at h;obtain⟨rfl,rfl,rfl⟩:=h;refine j ?_;rw[<-hu];simp only[A0n,A5O];cases A0S C.P it with
   |none=>rfl
   |some e=>cases t.fn.ev C x<;>first|rfl|(cases t.fn.ev C i<;>first|rfl|(rename_i v;cases v<;>rfl))
  .exact A3K h
 case binOp bop bt x y yt=>
  simp only[A3d,A4K,A4Z]at h;unfold D8N at h;split at h
  .rename_i k1 a k2 b hx hy;split at h
   .rename_i hk;simp only[Z0o]at hk;subst hk;split at h
    .rename_i u hu;simp only[Z0a,Z0b]at h;obtain⟨rfl,rfl,rfl⟩:=h;refine j ?_;simp only[A0n,hx,hy,D0e,hu,Z0M]
    .exact A3K h
   .exact A3K h
  .exact A3K h
 case load lt x=>
  simp only[A3d,A4K,A4Z]at h;unfold rLd at h;split at h
  .rename_i cs hx;exact m h (by simp only[A0n,hx,A0t])
  .rename_i b off hx;split at h;(case h_2=>simp at h);rename_i bt cs hM;split at h;(case h_2=>simp at h);rename_i a0;have a0:=Z2Z a0;obtain⟨u,hu,hr⟩:=B7w h;simp only[Z0b]at hr;obtain⟨rfl,rfl,rfl⟩:=hr;refine B9G (by simp only[A0n,hx,A0E];rfl) (by simp only[A0y,hx]) ?_;simp only[B2L,hx,B7K,hM,Z0d a0,Z2j,A0t];exact hu
  .rename_i f h' off hx;split at h;(case h_2=>simp at h);rename_i cs hM;obtain⟨u,hu,hr⟩:=B7w h;simp only[Z0b]at hr;obtain⟨rfl,rfl,rfl⟩:=hr;refine B9G (by simp only[A0n,hx,A0E];rfl) (by simp only[A0y,hx]) ?_;simp only[B2L,hx,hM,Z2j,A0t];exact hu
  .simp at h
 case store lt a x=>
  simp only[A3d,A4K,A4Z]at h;unfold rSt at h;split at h;case h_2=>simp at h
  rename_i e0 hs;simp only[Z0a,Z0b]at h;obtain⟨rfl,rfl,rfl⟩:=h;obtain⟨k1,k2⟩:=B5S hs;exact⟨k2,k1,rfl,rfl,rfl⟩
 case alloc et=>
  simp only[A3d]at h;split at h;case h_2=>exact A3K h
  rename_i z hz;split at h;case h_2=>exact A3K h
  rename_i hall;simp only[A4K,Z0a,Z0b]at h;obtain⟨rfl,rfl,rfl⟩:=h;obtain⟨k1,k2⟩:=B7R (C:=C) (o:=⟨d,.alloc et,ty,p,af,g⟩) (ρ:=t.fn.ev C) (M:=M) (v:=.ptr M.length 0) (e:=.push (.cells et (z.map .val))) rfl (by simp only[A5z,hz,hall,Z0G]);exact⟨k2,k1,rfl,rfl,rfl⟩
 case box et x=>
  simp only[A3d,A4K,A4Z]at h;unfold rBx at h;split at h;case h_2=>simp at h
  rename_i hs;simp only[Z0a,Z0b]at h;obtain⟨rfl,rfl,rfl⟩:=h;have hp:(A0n C HX ⟨d,.box et x,ty,p,af,g⟩ (t.fn.ev C)).or (A0E C ⟨d,.box et x,ty,p,af,g⟩ (t.fn.ev C))=none:=by
   (have hh:A1R HX.imm d=false:=by cases d<;>rfl);simp only[A0n,hh,Z0q]
   rfl
  obtain⟨k1,k2⟩:=B7R (C:=C) (o:=⟨d,.box et x,ty,p,af,g⟩) (ρ:=t.fn.ev C) (M:=M) (v:=.ptr M.length 0) (e:=.push (.cells et (t.fn.ev C x).cells)) hp (by simp only[A5z,hs,Z0G]);exact⟨k2,k1,hp,rfl,rfl⟩
 case call c=>
  obtain⟨callee,args,ts⟩:=c;cases callee with
  |value f=>simp[A3d,A4K]at h
  |builtin b=>
   cases b<;>first|exact q h|skip
   case append=>
    simp only[A3d]at h;split at h
    .split at h
     .simp[A4K]at h
     .exact A3K h
    .exact A3K h
   case len=>
    simp only[A3d]at h;split at h;(case h_2=>exact A3K h);rename_i x t' ha ht;(have a5:ts=#[t']:=by apply Z1A;simpa using ht);subst a5;(have r:args=#[x]:=by apply Z1A;simpa using ha);subst r;(have l:∀n:Nat,A1H C.P t' (t.fn.ev C x)=some n->A0n C HX ⟨d,.call {callee:=.builtin .len,args:=#[x],argTypes:=#[t']},ty,p,af,g⟩ (t.fn.ev C)=some (.val (.int .i64 n)):=by intro n hn;show(A1H C.P t' (t.fn.ev C x)).map (λ(n:Nat)=>AV.val (goInt (n:Int)))=_;rw[hn];rfl);split at h
    .rename_i et hu;simp only[A4K,A4Z]at h;unfold D5F at h;split at h
     .rename_i a1 a2 a3 a4 len hx;simp only[Z0a,Z0b]at h;obtain⟨rfl,rfl,rfl⟩:=h;exact j (l _ (by simp only[A1H,hx,hu]))
     .rename_i hx;simp only[Z0a,Z0b]at h;obtain⟨rfl,rfl,rfl⟩:=h;exact j (l _ (by simp only[A1H,hx,hu]))
     .rename_i sz rows own hx;simp only[Z0a,Z0b]at h;obtain⟨rfl,rfl,rfl⟩:=h;exact j (l _ (by simp only[A1H,hx,hu]))
     .exact A3K h
    .rename_i hu;simp only[A4K,A4Z]at h;unfold C7X at h;split at h
     .rename_i s hx;simp only[Z0a,Z0b]at h;obtain⟨rfl,rfl,rfl⟩:=h;exact j (l _ (by simp only[A1H,hx,hu]))
     .exact A3K h
    .exact A3K h
  |_=>exact q h
abbrev YR:=AV×HT×Nat×List Nat
abbrev A9i:=FuncId->List AV->HT->Nat->Option YR
def YOK(call:B4k)(yc:A9i):Prop:=∀g args h n M v h' n' ws,Hp h n M->yc g args h n=some (v,h',n',ws)->∃M',call g args M=some (v,M',ws)/\Hp h' n' M'
structure FO where
 o:Oper
 f:FOp
noncomputable def fos(C:Ctx)(l:List Oper):List FO:=List.rec (motive:=λ_=>List FO) [] (λo _ r=>⟨o,A3d C o⟩::r) l
def C7Y{C}:fos C []=[]:=rfl
def C5A{C}{o}{l}:fos C (o::l)=⟨o,A3d C o⟩::fos C l:=rfl
noncomputable def B6L(yc:A9i)(t:BT)(f:Arg)(as:List Arg)(h:HT)(n:Nat):Option YR:=match rd t f with
 |.func (.func g) first captured=>yc g (first++as.map (rd t)++captured) h n
 |_=>none
noncomputable def eff(h:HT)(n:Nat):Option FR->Option YR
 |some (v,.non,k)=>some (v,h,n,k.ws)
 |some (v,.put b o,k)=>some (v,h.put b o,n,k.ws)
 |some (v,.push o,k)=>some (v,h.put n o,n+1,k.ws)
 |none=>none
noncomputable def D4R(h:HT)(n:Nat)(ws:List Nat):Option (AV×Ef)->Option YR
 |some (v,.non)=>some (v,h,n,ws)
 |some (v,.put b o)=>some (v,h.put b o,n,ws)
 |some (v,.push o)=>some (v,h.put n o,n+1,ws)
 |none=>none
noncomputable def yOp(yc:A9i)(C:Ctx)(fo:FO)(t:BT)(h:HT)(n:Nat):Option YR:=match fo.f with
 |.call f as=>B6L yc t f as h n
 |.app ty u s x=>D4R h n (A5C (rd t s)) (B6U C.P ty u (rd t s) (rd t x) h.get n)
 |f=>eff h n (A4K C fo.o f t h.get n)
def C4o{h}{n}{r}{v}{h'}{n'}{ws}(hr:eff h n r=some (v,h',n',ws)):∃e k,r=some (v,e,k)/\h'=e.ht h n/\n'=e.n n/\ws=k.ws:=by
 unfold eff at hr;split at hr
 .simp only[Z0a,Z0b]at hr;obtain⟨rfl,rfl,rfl,rfl⟩:=hr;exact⟨_,_,rfl,rfl,rfl,rfl⟩
 .simp only[Z0a,Z0b]at hr;obtain⟨rfl,rfl,rfl,rfl⟩:=hr;exact⟨_,_,rfl,rfl,rfl,rfl⟩
 .simp only[Z0a,Z0b]at hr;obtain⟨rfl,rfl,rfl,rfl⟩:=hr;exact⟨_,_,rfl,rfl,rfl,rfl⟩
 .simp at hr
def C0y{h}{n}{ws0}{r}{v}{h'}{n'}{ws}(hr:D4R h n ws0 r=some (v,h',n',ws)):∃e,r=some (v,e)/\h'=e.ht h n/\n'=e.n n/\ws=ws0:=by
 unfold D4R at hr;split at hr
 .simp only[Z0a,Z0b]at hr;obtain⟨rfl,rfl,rfl,rfl⟩:=hr;exact⟨_,rfl,rfl,rfl,rfl⟩
 .simp only[Z0a,Z0b]at hr;obtain⟨rfl,rfl,rfl,rfl⟩:=hr;exact⟨_,rfl,rfl,rfl,rfl⟩
 .simp only[Z0a,Z0b]at hr;obtain⟨rfl,rfl,rfl,rfl⟩:=hr;exact⟨_,rfl,rfl,rfl,rfl⟩
 .simp at hr
def B0d(o:Oper):Prop:=(∀f args ts,o.op≠.call {callee:=.value f,args:=args,argTypes:=ts})/\(∀args ts,o.op≠.call {callee:=.builtin .append,args:=args,argTypes:=ts})
def D6r:FOp->Bool
 |.call _ _=>true
 |.app _ _ _ _=>true
 |_=>false
def C7z{C}{o}(hp:B0d o):D6r (A3d C o)=false:=by
 unfold A3d;split<;>try rfl
 .split
  .split<;>rfl
  .rfl
 .rename_i heq;exact absurd heq (hp.1 _ _ _)
 .rename_i heq;exact absurd heq (hp.2 _ _)
 .split
  .split<;>rfl
  .rfl
def C3J{C}{o}(hp:B0d o):(∀f as,A3d C o≠.call f as)/\(∀t u s x,A3d C o≠.app t u s x):=by have h:=C7z (C:=C) hp;exact⟨λf as e=>by rw[e]at h;simp[D6r]at h,λt u s x e=>by rw[e]at h;simp[D6r]at h⟩
def B5M{C}(o:Oper):(∃f args ts,o.op=.call {callee:=.value f,args:=args,argTypes:=ts}/\A3d C o=.call (A3H C f) (args.toList.map (A3H C)))\/
 (∃args ts,o.op=.call {callee:=.builtin .append,args:=args,argTypes:=ts}/\((∃s x t u d,args.toList=[s,x]/\ts.toList=[t,u]/\o.dst=some d/\A3d C o=.app t u (A3H C s) (A3H C x))\/A3d C o=.gen))\/
 (B0d o/\(∀f as,A3d C o≠.call f as)/\∀t u s x,A3d C o≠.app t u s x):=by
 by_cases h1:∃f args ts,o.op=.call {callee:=.value f,args:=args,argTypes:=ts}
 .obtain⟨f,args,ts,a⟩:=h1;refine .inl ⟨f,args,ts,a,?_⟩;obtain⟨d,op,ty,p,af,g⟩:=o;simp only at a;subst a;rfl
 by_cases h2:∃args ts,o.op=.call {callee:=.builtin .append,args:=args,argTypes:=ts}
 .obtain⟨args,ts,a⟩:=h2;refine .inr (.inl ⟨args,ts,a,?_⟩);obtain⟨d,op,ty,p,af,g⟩:=o;simp only at a;subst a;simp only[A3d];split
  .rename_i s x t u ha ht;cases d with
   |none=>right;rfl
   |some d=>left;exact⟨s,x,t,u,d,ha,ht,rfl,rfl⟩
  .right;rfl
 .have hp:B0d o:=⟨λf args ts h=>h1 ⟨f,args,ts,h⟩,λargs ts h=>h2 ⟨args,ts,h⟩⟩;exact .inr (.inr ⟨hp,C3J hp⟩)
def C9e{call}{C}{o}{ρ:Operand->AV}{M}{v}{e}{k}(hp:B0d o)(h:B4P C o ρ M v e k):xOp call C o ρ M=some (v,e.mem M,k.ws):=by
 have xo:xOp call C o ρ M=(match A0n C HX o ρ with
  |some v=>some (v,M,[])
  |none=>match A0A C HX o ρ M with
   |some (v,M')=>some (v,M',A1V o ρ)
   |none=>none):=by
  unfold xOp
  split
  .rename_i heq;exact absurd heq (hp.1 _ _ _)
  .rename_i heq;exact absurd heq (hp.2 _ _)
  .rfl
 rw[xo];have hk:=h.kind;cases k with
 |pure=>
  obtain⟨h1,rfl⟩:=hk;rcases Z3x.1 h1 with h2|⟨h2,h3⟩
  .simp only[h2,Ef.mem,FK.ws]
  .simp only[h2,h.eval,Ef.mem,FK.ws];(have:A1V o ρ=[]:=by obtain⟨d,op,t,p,af,g⟩:=o;cases op<;>first|rfl|(simp[A0E]at h3;done));rw[this]
 |read r=>obtain⟨h1,h2,h3,rfl,h4⟩:=hk;simp only[Z3a]at h1;simp only[h1.1,h.eval,Ef.mem,FK.ws,h4]
 |write ws=>obtain⟨h1,h2,rfl⟩:=hk;simp only[Z3a]at h1;simp only[h1.1,h.eval,FK.ws]
def D6V{call}{yc}{C}(hc:YOK call yc){o}{t}{h h'}{n n'}{M}{v}{ws}(hp:Hp h n M)(hy:yOp yc C ⟨o,A3d C o⟩ t h n=some (v,h',n',ws)):∃M',xOp call C o (t.fn.ev C) M=some (v,M',ws)/\Hp h' n' M':=by
 have j:=hp.fn
 have hn:=hp.len
 have b:B0d o->eff h n (A4K C o (A3d C o) t h.get n)=some (v,h',n',ws)->∃M',xOp call C o (t.fn.ev C) M=some (v,M',ws)/\Hp h' n' M':=by intro c he;obtain⟨e,k,hr,rfl,rfl,rfl⟩:=C4o he;rw[j,<-hn]at hr;have i:=C3I hr;exact⟨_,C9e c i,hp.ef (hn▸i.ok)⟩
 rcases B5M (C:=C) o with⟨f,args,ts,a,hf⟩|⟨args,ts,a,hf⟩|⟨c,m,q⟩
 .simp only[yOp,hf]at hy;unfold B6L at hy;rw[A4Z]at hy;split at hy;case h_2=>simp at hy
  rename_i g first captured hfv
  have l:(args.toList.map (A3H C)).map (rd t)=args.toList.map (t.fn.ev C):=by rw[Z1L];exact Z1S λx _=>A4Z x
  rw[l]at hy;obtain⟨M',q1,q2⟩:=hc _ _ _ _ _ _ _ _ _ hp hy;refine⟨M',?_,q2⟩;unfold xOp;simp only[a,hfv];exact q1
 .rcases hf with⟨s,x,ty,u,d,ha,ht,hd,hf⟩|hf
  .simp only[yOp,hf]at hy;obtain⟨e,hr,rfl,rfl,rfl⟩:=C0y hy;rw[j,<-hn,A4Z,A4Z]at hr;obtain⟨k1,k2⟩:=C3Q hr;refine⟨e.mem M,?_,hp.ef (hn▸k2)⟩;unfold xOp;simp only[a,ha,ht,hd,k1,A4Z]
  .exfalso;simp only[yOp,hf]at hy;obtain⟨e,k,hr,_⟩:=C4o hy;simp only[A4K]at hr;obtain⟨d,op,ty,p,af,g⟩:=o;simp only at a;subst a;simp[B0y,A0n,A7v,A0E,A0y,A5z,B4d]at hr
 .have e:yOp yc C ⟨o,A3d C o⟩ t h n=eff h n (A4K C o (A3d C o) t h.get n):=by unfold yOp;simp only
  rw[e]at hy;exact b c hy
noncomputable def C2A(ops:Array Oper)(o:Oper)(t:BT):Option Bool:=match o.guard with
 |none=>some true
 |some (j,want)=>match(ops[j]?).bind (·.dst)with
  |some d=>match t.getR d with
   |.val (.bool b)=>some (b==want)
   |.val (.tuple _)=>some false
   |_=>none
  |none=>none
def C0t(ops:Array Oper)(o:Oper)(t:BT):C2A ops o t=B1q ops o t:=by unfold C2A B1q;simp only[BT.getR_eq];rfl
noncomputable def C6m(yc:A9i)(C:Ctx)(base:Nat)(ops:Array Oper)(l:List FO):BT->HT->Nat->List Nat->Option (BT×HT×Nat×List Nat):=
 List.rec (motive:=λ_=>BT->HT->Nat->List Nat->Option (BT×HT×Nat×List Nat)) (λt h n ws=>some (t,h,n,ws))
  (λfo _ ih t h n ws=>match C2A ops fo.o t with
   |some true=>match yOp yc C fo t h n with
    |some (v,h',n',l)=>match t.setR fo.o.dst v with
     |some t'=>ih t' h' n' (B0Q base l ws)
     |none=>none
    |none=>none
   |some false=>match t.setR fo.o.dst (.val undef)with
    |some t'=>ih t' h n ws
    |none=>none
   |none=>none) l
def D0W{yc}{C}{base}{ops}{t}{h}{n}{ws}:C6m yc C base ops [] t h n ws=some (t,h,n,ws):=rfl
def C9I{yc}{C}{base}{ops}{fo}{rest}{t}{h}{n}{ws}:C6m yc C base ops (fo::rest) t h n ws=match B1q ops fo.o t with
 |some true=>match yOp yc C fo t h n with
  |some (v,h',n',l)=>match t.set fo.o.dst v with
   |some t'=>C6m yc C base ops rest t' h' n' (B0Q base l ws)
   |none=>none
  |none=>none
 |some false=>match t.set fo.o.dst (.val undef)with
  |some t'=>C6m yc C base ops rest t' h n ws
  |none=>none
 |none=>none:=by
 rw[<-C0t]
 simp only[<-BT.setR_eq]
 rfl
def C1S{call}{yc}{C}(hc:YOK call yc){base}{ops}:∀(l:List Oper) (t:BT) (h:HT) (n:Nat) (M:Mem) (ws:List Nat) (t':BT) (h':HT) (n':Nat) (a:List Nat),Hp h n M->C6m yc C base ops (fos C l) t h n ws=some (t',h',n',a)->
 ∃M',B9F call C base ops l t M ws=some (t',M',a)/\Hp h' n' M'
 |[],t,h,n,M,ws,t',h',n',a,hp,hy=>by rw[C7Y,D0W]at hy;simp only[Z0a,Z0b]at hy;obtain⟨rfl,rfl,rfl,rfl⟩:=hy;exact⟨M,rfl,hp⟩
 |o::rest,t,h,n,M,ws,t',h',n',a,hp,hy=>by
  rw[C5A,C9I]at hy;simp only at hy;simp only[B9F];split at hy
  .rename_i hgd;split at hy;(case h_2=>simp at hy);rename_i v h1 n1 l ho;split at hy;(case h_2=>simp at hy);rename_i t1 ht;obtain⟨M1,q1,q2⟩:=D6V hc hp ho;obtain⟨M2,q3,q4⟩:=C1S hc rest t1 h1 n1 M1 (B0Q base l ws) t' h' n' a q2 hy;exact⟨M2,by simp only[hgd,q1,ht,q3],q4⟩
  .rename_i hgd;split at hy;(case h_2=>simp at hy);rename_i t1 ht;obtain⟨M2,q3,q4⟩:=C1S hc rest t1 h n M ws t' h' n' a hp hy;exact⟨M2,by simp only[hgd,ht,q3],q4⟩
  .simp at hy
noncomputable def D4N(h:HT)(n:Nat):Option FR->Option (A4Y×AV×HT×Nat)
 |some (v,.non,k)=>some (k.foot n,v,h,n)
 |some (v,.put b o,k)=>some (k.foot n,v,h.put b o,n)
 |some (v,.push o,k)=>some (k.foot n,v,h.put n o,n+1)
 |none=>none
def D1i(P:Program)(o:Oper):Option A0p:=match o.op with
 |.alloc e=>B2h P e
 |_=>none
noncomputable def B6Q(yc:A9i)(C:Ctx)(fo:FO)(t:BT)(h:HT)(n slot:Nat):Option (A4Y×AV×HT×Nat):=match B1Z fo.o with
 |true=>match D1i C.P fo.o,h.get slot with
  |some X,some (.vec 0 1 [] 0 [])=>some (⟨4,0,slot,[slot],n⟩,.vptr slot 1 0,h.put slot X,n)
  |_,_=>none
 |false=>match fo.f with
  |.call f as=>match B6L yc t f as h n with
   |some (v,h',n',l)=>some (⟨2,0,0,l,n⟩,v,h',n')
   |none=>none
  |.app ty u s x=>match D4R h n (A5C (rd t s)) (B6U C.P ty u (rd t s) (rd t x) h.get n)with
   |some (v,h',n',l)=>some (⟨2,0,0,l,n⟩,v,h',n')
   |none=>none
  |f=>D4N h n (A4K C fo.o f t h.get n)
def C0R{h}{n}{r}{v}{h'}{n'}{f}(hr:D4N h n r=some (f,v,h',n')):∃e k,r=some (v,e,k)/\h'=e.ht h n/\n'=e.n n/\f=k.foot n:=by
 unfold D4N at hr;split at hr
 .simp only[Z0a,Z0b]at hr;obtain⟨rfl,rfl,rfl,rfl⟩:=hr;exact⟨_,_,rfl,rfl,rfl,rfl⟩
 .simp only[Z0a,Z0b]at hr;obtain⟨rfl,rfl,rfl,rfl⟩:=hr;exact⟨_,_,rfl,rfl,rfl,rfl⟩
 .simp only[Z0a,Z0b]at hr;obtain⟨rfl,rfl,rfl,rfl⟩:=hr;exact⟨_,_,rfl,rfl,rfl,rfl⟩
 .simp at hr
def C0f{call}{C}{o}{ρ:Operand->AV}{M}{v}{e}{k}{slot}(hp:B0d o)(ha:B1Z o=false)(h:B4P C o ρ M v e k):A4y call C o ρ M slot=some (k.foot M.length,v,e.mem M):=by
 have xo:A4y call C o ρ M slot=(match(A0n C HX o ρ).or (A0E C o ρ)with
  |some v=>some (⟨0,0,0,[],0⟩,v,M)
  |none=>match A0y o ρ with
   |some r=>match A2r C o ρ M with
    |some v=>some (⟨1,r,0,[],0⟩,v,M)
    |none=>none
   |none=>match A0A C HX o ρ M with
    |some (v,M')=>some (⟨2,0,0,A1V o ρ,M.length⟩,v,M')
    |none=>none):=by
  unfold A4y
  split
  .rename_i heq;exact absurd heq (hp.1 _ _ _)
  .rename_i heq;exact absurd heq (hp.2 _ _)
  .rename_i heq;unfold B1Z at ha;rw[heq]at ha;simp at ha
  .rfl
 rw[xo];have hk:=h.kind;cases k with
 |pure=>obtain⟨h1,rfl⟩:=hk;simp only[h1,Ef.mem,FK.foot]
 |read r=>obtain⟨h1,h2,h3,rfl,_⟩:=hk;simp only[h1,h2,h3,Ef.mem,FK.foot]
 |write ws=>obtain⟨h1,h2,rfl⟩:=hk;simp only[h1,h2,h.eval,FK.foot]
def C6Q{call}{yc}{C}(hc:YOK call yc){o}{t}{h h'}{n n' slot}{M}{v}{f}(hp:Hp h n M)(hy:B6Q yc C ⟨o,A3d C o⟩ t h n slot=some (f,v,h',n')):∃M',A4y call C o (t.fn.ev C) M slot=some (f,v,M')/\Hp h' n' M':=by
 have c:=hp.fn
 have hn:=hp.len
 unfold B6Q at hy
 simp only at hy
 split at hy
 .rename_i hal;split at hy;case h_2=>simp at hy
  rename_i X hX hM;simp only[Z0a,Z0b]at hy;obtain⟨rfl,rfl,rfl,rfl⟩:=hy;rw[hp.at_]at hM;obtain⟨d,op,ty,p,af,g⟩:=o;cases op<;>first|(simp[B1Z]at hal;done)|skip
  simp only[D1i]at hX;refine⟨M.set slot X,?_,hp.put (hn▸A0r hM)⟩;simp only[A4y,hX,hM,hn]
 .rename_i hal;rcases B5M (C:=C) o with⟨fo,args,ts,a,hf⟩|⟨args,ts,a,hf⟩|⟨q,i,j⟩
  .simp only[hf]at hy;unfold B6L at hy;rw[A4Z]at hy;split at hy;(case h_2=>simp at hy);rename_i v1 h1 n1 l hyc;simp only[Z0a,Z0b]at hy;obtain⟨rfl,rfl,rfl,rfl⟩:=hy;split at hyc;(case h_2=>simp at hyc);(rename_i g first captured hfv);(have m:(args.toList.map (A3H C)).map (rd t)=args.toList.map (t.fn.ev C):=by rw[Z1L];exact Z1S λx _=>A4Z x);rw[m]at hyc;obtain⟨M',q1,q2⟩:=hc _ _ _ _ _ _ _ _ _ hp hyc;refine⟨M',?_,q2⟩;unfold A4y;simp only[a,hfv,q1,hn]
  .rcases hf with⟨s,x,ty,u,d,ha,ht,hd,hf⟩|hf
   .simp only[hf]at hy;split at hy;(case h_2=>simp at hy);rename_i v1 h1 n1 l hr0;simp only[Z0a,Z0b]at hy;obtain⟨rfl,rfl,rfl,rfl⟩:=hy;obtain⟨e,hr,rfl,rfl,rfl⟩:=C0y hr0;rw[c,<-hn,A4Z,A4Z]at hr;obtain⟨k1,k2⟩:=C3Q hr;refine⟨e.mem M,?_,hp.ef (hn▸k2)⟩;unfold A4y;simp only[a,ha,ht,hd,k1,A4Z,hn]
   .exfalso;simp only[hf]at hy;obtain⟨e,k,hr,_⟩:=C0R hy;simp only[A4K]at hr;obtain⟨d,op,ty,p,af,g⟩:=o;simp only at a;subst a;simp[B0y,A0n,A7v,A0E,A0y,A5z,B4d]at hr
  .have e:D4N h n (A4K C o (A3d C o) t h.get n)=some (f,v,h',n'):=by
    split at hy
    .rename_i heq;exact absurd heq (i _ _)
    .rename_i heq;exact absurd heq (j _ _ _ _)
    .exact hy
   obtain⟨ef,k,hr,rfl,rfl,rfl⟩:=C0R e;rw[c,<-hn]at hr;have b:=C3I hr;exact⟨_,by rw[C0f q hal b,hn],hp.ef (hn▸b.ok)⟩
noncomputable def B8U(yc:A9i)(C:Ctx)(ops:Array Oper)(l:List FO):BT->HT->Nat->Nat->Option (BT×HT×Nat×List A4Y):=
 List.rec (motive:=λ_=>BT->HT->Nat->Nat->Option (BT×HT×Nat×List A4Y)) (λt h n _=>some (t,h,n,[]))
  (λfo _ ih t h n slot=>match C2A ops fo.o t with
   |some true=>match B6Q yc C fo t h n slot with
    |some (f,v,h',n')=>match t.setR fo.o.dst v with
     |some t'=>match ih t' h' n' (A8m f slot)with
      |some (t2,h2,n2,fs)=>some (t2,h2,n2,f::fs)
      |none=>none
     |none=>none
    |none=>none
   |some false=>match t.setR fo.o.dst (.val undef)with
    |some t'=>match ih t' h n slot with
     |some (t2,h2,n2,fs)=>some (t2,h2,n2,F0::fs)
     |none=>none
    |none=>none
   |none=>none) l
def C9l{yc}{C}{ops}{t}{h}{n slot}:B8U yc C ops [] t h n slot=some (t,h,n,[]):=rfl
def C7y{yc}{C}{ops}{fo}{rest}{t}{h}{n slot}:B8U yc C ops (fo::rest) t h n slot=match B1q ops fo.o t with
 |some true=>match B6Q yc C fo t h n slot with
  |some (f,v,h',n')=>match t.set fo.o.dst v with
   |some t'=>match B8U yc C ops rest t' h' n' (A8m f slot)with
    |some (t2,h2,n2,fs)=>some (t2,h2,n2,f::fs)
    |none=>none
   |none=>none
  |none=>none
 |some false=>match t.set fo.o.dst (.val undef)with
  |some t'=>match B8U yc C ops rest t' h n slot with
   |some (t2,h2,n2,fs)=>some (t2,h2,n2,F0::fs)
   |none=>none
  |none=>none
 |none=>none:=by
 rw[<-C0t]
 simp only[<-BT.setR_eq]
 rfl
def B7m{call}{yc}{C}(hc:YOK call yc){ops}:∀(l:List Oper) (t:BT) (h:HT) (n slot:Nat) (M:Mem) (t':BT) (h':HT) (n':Nat) (fs:List A4Y),Hp h n M->B8U yc C ops (fos C l) t h n slot=some (t',h',n',fs)->
 ∃M',B1p call C ops l t M slot=some (t',M',fs)/\Hp h' n' M'
 |[],t,h,n,slot,M,t',h',n',fs,hp,hy=>by rw[C7Y,C9l]at hy;simp only[Z0a,Z0b]at hy;obtain⟨rfl,rfl,rfl,rfl⟩:=hy;exact⟨M,rfl,hp⟩
 |o::rest,t,h,n,slot,M,t',h',n',fs,hp,hy=>by
  rw[C5A,C7y]at hy;simp only at hy;simp only[B1p];split at hy
  .rename_i hgd;split at hy;(case h_2=>simp at hy);rename_i f v h1 n1 ho;split at hy;(case h_2=>simp at hy);rename_i t1 ht;split at hy;(case h_2=>simp at hy);rename_i t2 h2 n2 fs2 hr;simp only[Z0a,Z0b]at hy;obtain⟨rfl,rfl,rfl,rfl⟩:=hy;obtain⟨M1,q1,q2⟩:=C6Q hc hp ho;obtain⟨M2,q3,q4⟩:=B7m hc rest t1 h1 n1 _ M1 _ _ _ _ q2 hr;exact⟨M2,by simp only[hgd,q1,ht,q3],q4⟩
  .rename_i hgd;split at hy;(case h_2=>simp at hy);rename_i t1 ht;split at hy;(case h_2=>simp at hy);rename_i t2 h2 n2 fs2 hr;simp only[Z0a,Z0b]at hy;obtain⟨rfl,rfl,rfl,rfl⟩:=hy;obtain⟨M2,q3,q4⟩:=B7m hc rest t1 h n _ M _ _ _ _ hp hr;exact⟨M2,by simp only[hgd,ht,q3],q4⟩
  .simp at hy
end Go.Abs
