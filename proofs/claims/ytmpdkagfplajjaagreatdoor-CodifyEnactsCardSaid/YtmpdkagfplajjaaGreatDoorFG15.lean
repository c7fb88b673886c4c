/- The texts AbsU2, AbsU3, AbsU, AbsV, AbsV2, AbsVo, AbsV3. -/
import Derived.Test.YtmpdkagfplajjaaGreatDoorFG14
set_option linter.all false
namespace Go.Abs
structure A7W (f:Mem->Option (AV×Mem)) (M:Mem) (v:AV) (M1:Mem) (ws:List Nat):Prop where
 grow:M.length<=M1.length
 old:∀i,i<M.length->i∉ws->M1[i]?=M[i]?
 keep:A4O M M1
 fill:∀(s:Nat) (X:A0l),M[s]?=some A1m->f (M.set s X)=some (v,M1.set s X)
def A7W.same{f:Mem->Option (AV×Mem)}{M:Mem}{v:AV}{ws:List Nat}(h:∀(s:Nat) (X:A0l),M[s]?=some A1m->f (M.set s X)=some (v,M.set s X)):A7W f M v M ws:=⟨Z0o _,λ_ _ _=>rfl,λ_ h=>h,h⟩
def A7W.put{f:Mem->Option (AV×Mem)}{M:Mem}{v:AV}{b:Nat}{o ob:A0l}{ws:List Nat}(hb:M[b]?=some ob)(a:ob≠A1m)(hw:b∈ws)(h:∀(s:Nat) (X:A0l),M[s]?=some A1m->f (M.set s X)=some (v,(M.set s X).set b o)):A7W f M v (M.set b o) ws:=by
 have ne:∀s:Nat,M[s]?=some A1m->b≠s:=λs hs e=>by subst e;rw[hb]at hs;simp at hs;exact a hs
 refine⟨by simp,λi hi hn=>?_,λs hs=>?_,λs X hs=>?_⟩
 .rw[Z0f (λe:b=i=>hn (by rw[<-e];exact hw))]
 .rw[Z0f (ne s hs)];exact hs
 .rw[h s X hs,Z4t _ _ (ne s hs).symm]
def A7W.app{f:Mem->Option (AV×Mem)}{M Y:Mem}{v:AV}{ws:List Nat}(h:∀(s:Nat) (X:A0l),M[s]?=some A1m->f (M.set s X)=some (v,M.set s X++Y)):A7W f M v (M++Y) ws:=by refine⟨by simp,λi hi _=>by rw[Z0h hi],λs hs=>by rw[Z0h (A0x hs)];exact hs,λs X hs=>?_⟩;rw[h s X hs,Z3F _ _ (A0x hs)]
def A1S{M:Mem}{s b:Nat}{X ob:A0l}(hs:M[s]?=some A1m)(hb:M[b]?=some ob)(a:ob≠A1m):(M.set s X)[b]?=some ob:=by rw[Z0f (λe=>by subst e;rw[hb]at hs;simp at hs;exact a hs)];exact hb
def A1x{e sz:Nat}{cs:List AV}{g h n:Nat}{a:List (Nat×Nat)}(hn:a.lookup h=some n):A0l.vec e sz cs g a≠A1m:=by intro e;simp only[A1m,A0l.vec.injEq]at e;rw[e.2.2.2.2]at hn;simp at hn
section
variable {M:Mem} {s:Nat} {X:A0l} (hs:M[s]?=some A1m)
include hs
def B3I{a:AV}{cs:List AV}(h:A3b M a=some cs):A3b (M.set s X) a=some cs:=by
 unfold A3b at h|-;split at h
 .exact h
 .rename_i b off;split at h;case h_2=>simp at h
  rename_i t cs' hb;rw[A1S hs hb (by simp[A1m])];exact h
 .rename_i f g off;split at h;case h_2=>simp at h
  rename_i e sz cs' g' hist hb;split at h;case h_2=>simp at h
  rename_i n hn;rw[A1S hs hb (A1x hn)];simp only[hn];exact h
 .simp at h
def A1W{sz:Nat}{a:AV}{r:List AV×Nat}(h:A0z M sz a=some r):A0z (M.set s X) sz a=some r:=by
 unfold A0z at h|-;split at h
 .exact h
 .exact h
 .exact h
 .rename_i f h' s' lo len;split at h;case h_2=>simp at h
  rename_i e sz' cs' g' hist hb;split at h;case h_2=>simp at h
  rename_i n hn;rw[A1S hs hb (A1x hn)];simp only[hn];exact h
 .simp at h
def B7K{a:AV}{es:List (AV×AV×Nat)}(h:A4D M a=some es):A4D (M.set s X) a=some es:=by
 unfold A4D at h|-;split at h
 .exact h
 .rename_i b;split at h;case h_2=>simp at h
  rename_i es' c hb;rw[A1S hs hb (by simp[A1m])];exact h
 .simp at h
def B4Y{P:Program}{t:TypeId}{x:AV}{n:Nat}(h:A3d P t M x=some n):A3d P t (M.set s X) x=some n:=by
 unfold A3d at h|-;split at h
 .rename_i b;split at h;case h_2=>simp at h
  rename_i k e es c hu hb;rw[A1S hs hb (by simp[A1m]),hu];exact h
 .simp at h
end
def A2c(o:Oper)(ρ:Operand->AV):List Nat:=match o.op with
 |.store _ a _=>match ρ a with|.ptr b _=>[b]|.vptr f _ _=>[f]|_=>[]
 |.mapUpdate _ m _ _=>match ρ m with|.mapr b=>[b]|_=>[]
 |.insert _ m _ _=>match ρ m with|.mapr b=>[b]|_=>[]
 |.next x _=>match ρ x with|.ptr b _=>[b]|_=>[]
 |.call {callee:=.builtin _,args,..}=>match args.toList with
  |d::_=>match ρ d with|.vref f _ _ _ _=>[f]|.vptr f _ _=>[f]|_=>[]
  |[]=>[]
 |_=>[]
def C3A{C:Ctx}{h:A2x}{o:Oper}{ρ:Operand->AV}{M M':Mem}{v:AV}(he:A0U C h o ρ M=some (v,M')):A7W (A0U C h o ρ) M v M' (A2c o ρ):=by
 obtain⟨d,op,t,p,af,g⟩:=o;have c:=he;unfold A0U at he;simp only at he;split at he
 .rename_i ty x;split at he;case h_3=>simp at he
  all_goals
   rename_i hx
   simp only[Z0i,Z0c,Z1S]at he
   obtain⟨u,⟨cs,h1,h2⟩,rfl,rfl⟩:=he
   refine .same λs X hs=>?_
   simp only[A0U,hx,B3I hs h1,Z2C,h2,Z0M]
 .rename_i ty a x;split at he;case h_3=>simp at he
  .rename_i b off hb;split at he;(case h_2=>simp at he);rename_i bt cs hM;split at he;(case isFalse=>simp at he);rename_i hc;simp only[Z0a,Z0c]at he;obtain⟨rfl,rfl⟩:=he;refine .put hM (by simp[A1m]) (by simp[A2c,hb]) λs X hs=>?_;simp only[A0U,hb,A1S hs hM (by simp[A1m]),hc,Z0H]
  .rename_i f g' off hb;split at he;(case h_2=>simp at he);rename_i vt sz cs g2 hist hM;split at he;(case h_2=>simp at he);rename_i n hn;split at he;(case isFalse=>simp at he);rename_i hc;simp only[Z0a,Z0c]at he;obtain⟨rfl,rfl⟩:=he;refine .put hM (A1x hn) (by simp[A2c,hb]) λs X hs=>?_;simp only[A0U,hb,A1S hs hM (A1x hn),hn,hc,Z0H]
 .rename_i e;split at he;case h_2=>simp at he
  rename_i z hz;split at he;case isFalse=>simp at he
  rename_i hc;simp only[Z0a,Z0c]at he;obtain⟨rfl,rfl⟩:=he;refine .app λs X hs=>?_;simp only[A0U,hz,hc,Z0H,Z1o]
 .rename_i e x;split at he;case isFalse=>simp at he
  rename_i hc;simp only[Z0a,Z0c]at he;obtain⟨rfl,rfl⟩:=he;refine .app λs X hs=>?_;simp only[A0U,hc,Z0H,Z1o]
 .simp at he
def B2D{P:Program}{t:TypeId}{m k:AV}{ok:Bool}{M:Mem}{s:Nat}{X:A0l}(hs:M[s]?=some A1m){v:AV}(h:A1J P t M m k ok=some v):A1J P t (M.set s X) m k ok=some v:=by
 unfold A1J at h|-;cases he:A4D M m with
 |none=>rw[he]at h;cases hk:A7G P t<;>rw[hk]at h<;>simp at h
 |some es=>rw[B7K hs he];rw[he]at h;exact h
def B6i{P:Program}{t:TypeId}{m k x v0:AV}{M M':Mem}{ws:List Nat}(h:A1u P t M m k x=some M')(hw:∀b,m=.mapr b->b∈ws):A7W (λM=>(A1u P t M m k x).map λM'=>(v0,M')) M v0 M' ws:=by
 have key:∃b es c o,m=.mapr b/\M[b]?=some (.map es c)/\M'=M.set b o/\∀M2:Mem,M2[b]?=some (.map es c)->A1u P t M2 m k x=some (M2.set b o):=by
  unfold A1u at h;split at h;case h_2=>simp at h
  rename_i kt et b hkv;split at h;case h_2=>simp at h
  rename_i es clock hM;split at h;case isFalse=>simp at h
  rename_i hc;split at h
  .rename_i i e0 hf;split at h;(case h_2=>simp at h);rename_i ok e1 born hes;split at h;(case h_2=>simp at h);rename_i a c ha hc2;split at h;(case isFalse=>simp at h);rename_i hsb;simp only[Z0a]at h;subst h;exact⟨b,es,clock,_,rfl,hM,rfl,λM2 h2=>by simp only[A1u,hkv,h2,hc,Z0H,hf,hes,ha,hc2,hsb]⟩
  .rename_i hf;simp only[Z0a]at h;subst h;exact⟨b,es,clock,_,rfl,hM,rfl,λM2 h2=>by simp only[A1u,hkv,h2,hc,Z0H,hf]⟩
  .simp at h
 obtain⟨b,es,c,o,hm,hM,rfl,hf⟩:=key;refine .put hM (by simp[A1m]) (hw b hm) λs X hs=>?_;simp only[hf _ (A1S hs hM (by simp[A1m])),Z0M]
def D2B{P:Program}{t u:TypeId}{d s0 v:AV}{M M':Mem}{ws:List Nat}(h:A5H P t u M d s0=some (v,M'))(hw:∀f g sz lo len,d=.vref f g sz lo len->f∈ws):A7W (λM=>A5H P t u M d s0) M v M' ws:=by
 unfold A5H at h;split at h;case h_2=>simp at h
 rename_i e he;split at h;case h_2=>simp at h
 rename_i sz hsz;split at h;case h_2=>simp at h
 rename_i news m hsrc;split at h;case h_2=>simp at h
 rename_i f g sz' lo len;split at h;case h_2=>simp at h
 rename_i ety sz2 cs g' hist hM;split at h;case h_2=>simp at h
 rename_i n hn;split at h;case isFalse=>simp at h
 rename_i hc;split at h
 .rename_i h0;simp only[Z0a,Z0c]at h;obtain⟨rfl,rfl⟩:=h;refine .same λs X hs=>?_;simp only[A5H,he,hsz,A1W hs hsrc,A1S hs hM (A1x hn),hn,Z0d hc,Z0d h0]
 .rename_i h0;simp only[Z0a,Z0c]at h;obtain⟨rfl,rfl⟩:=h;refine .put hM (A1x hn) (hw _ _ _ _ _ rfl) λs X hs=>?_;simp only[A5H,he,hsz,A1W hs hsrc,A1S hs hM (A1x hn),hn,Z0d hc,Z0e h0]
def C4M{P}{t:TypeId}{n}{parts}{v}{M M'}{ws}(h:A1C P t n parts M=some (v,M')):A7W (A1C P t n parts) M v M' ws:=by
 unfold A1C at h;split at h;case h_2=>simp at h
 rename_i e he;split at h;case h_2=>simp at h
 rename_i sz z hs hz;split at h;case isFalse=>simp at h
 rename_i hc;simp only[Z0i,Z0c]at h;obtain⟨rows,hr,rfl,rfl⟩:=h;refine .app λs X hs'=>?_;simp only[A1C,he,hs,hz,Z0d hc,hr,Z0M,Z1o]
def C9B{P}{t:TypeId}{l c v}{M M'}{ws}(h:A4r P t l c M=some (v,M')):A7W (A4r P t l c) M v M' ws:=by
 unfold A4r at h;split at h;case h_2=>simp at h
 rename_i e kl l kc c he;split at h;case h_2=>simp at h
 rename_i sz z b hs hz hb;split at h;case isFalse=>simp at h
 rename_i hc;simp only[Z0a,Z0c]at h;obtain⟨rfl,rfl⟩:=h;refine .app λs X hs'=>?_;simp only[A4r,he,hs,hz,hb,Z0d hc,Z1o]
def C0Q{C:Ctx}{h:A2x}{o:Oper}{ρ:Operand->AV}{M M':Mem}{v:AV}(he:A0Q C h o ρ M=some (v,M')):A7W (A0Q C h o ρ) M v M' (A2c o ρ):=by
 obtain⟨d,op,t,p,af,g⟩:=o;unfold A0Q at he;simp only at he;split at he
 .rename_i ty n parts;split at he;case isFalse=>simp at he
  rename_i hv;have e:A0Q C h ⟨d,.buildSlice ty n parts,t,p,af,g⟩ ρ=A1C C.P ty n (parts.toList.map λp=>(p.1,ρ p.2)):=by funext M2;simp only[A0Q,hv,Z0H]
  rw[e];exact C4M he
 .rename_i ty l c;exact C9B he
 .rename_i ty;simp only[Z0a,Z0c]at he;obtain⟨rfl,rfl⟩:=he;refine .app λs X hs=>?_;simp only[A0Q,Z1o]
 .rename_i ty m k ok;simp only[Z0i,Z0c]at he;obtain⟨v',hv,rfl,rfl⟩:=he;refine .same λs X hs=>?_;simp only[A0Q,B2D hs hv,Z0M]
 .rename_i ty m k x;simp only[Z0i,Z0c]at he;obtain⟨M2,i,rfl,rfl⟩:=he;exact B6i i (λb hb=>by simp[A2c,hb])
 .rename_i ty m k x;simp only[Z0i,Z0c]at he;obtain⟨M2,i,rfl,rfl⟩:=he;exact B6i i (λb hb=>by simp[A2c,hb])
 .rename_i b args ts;have e:A0Q C h ⟨d,.call {callee:=.builtin b,args:=args,argTypes:=ts},t,p,af,g⟩ ρ=A2e C.P b ts.toList (args.toList.map ρ):=rfl;rw[e];unfold A2e at he;split at he
  .rename_i t' x hts hargs;simp only[Z0i,Z0c]at he;obtain⟨n,hn,rfl,rfl⟩:=he;cases hl:A3d C.P t' M x with
   |none=>rw[hl]at hn;simp at hn
   |some m=>refine .same λs X hs=>?_;rw[hts,hargs];rw[hl]at hn;simp only[A2e,B4Y hs hl];rw[hn];rfl
  .rename_i t' hts hargs;split at he
   .rename_i hu;simp only[Z0a,Z0c]at he;obtain⟨rfl,rfl⟩:=he;refine .same λs X hs=>?_;rw[hts,hargs];simp only[A2e,hu]
   .simp at he
  .rename_i t' u x s0 hts hargs;rw[hts,hargs];refine D2B he (λf g sz lo len hx=>?_);cases hl:args.toList with
   |nil=>rw[hl]at hargs;simp at hargs
   |cons a l=>rw[hl]at hargs;simp only[Z0B,Z1e]at hargs;simp only[A2c,hl];rw[hargs.1,hx];simp
  .simp at he
 .simp at he
def C8l{C:Ctx}{o:Oper}{ρ:Operand->AV}{M M':Mem}{v:AV}(he:A2Q C o ρ M=some (v,M')):A7W (A2Q C o ρ) M v M' (A2c o ρ):=by
 obtain⟨d,op,t,p,af,g⟩:=o;unfold A2Q at he;simp only at he;split at he
 .rename_i ty x;unfold A6z at he;split at he;case h_2=>simp at he
  rename_i str hu hx;simp only[Z0a,Z0c]at he;obtain⟨rfl,rfl⟩:=he;refine .app λs X hs=>?_;simp only[A2Q,A6z,hu,hx,Z1o]
 .rename_i x;unfold A5D at he;split at he;case h_2=>simp at he
  rename_i b hx;split at he;case h_2=>simp at he
  rename_i str pos hM;split at he
  .rename_i hlt;simp only[Z0a,Z0c]at he;obtain⟨rfl,rfl⟩:=he;refine .put hM (by simp[A1m]) (by simp[A2c,hx]) λs X hs=>?_;simp only[A2Q,hx,A5D,A1S hs hM (by simp[A1m]),Z0d hlt]
  .rename_i hlt;simp only[Z0a,Z0c]at he;obtain⟨rfl,rfl⟩:=he;refine .same λs X hs=>?_;simp only[A2Q,hx,A5D,A1S hs hM (by simp[A1m]),Z0e hlt]
 .rename_i ty x lo hi mx;simp only[Z0i,Z0c]at he;obtain⟨v',hv,rfl,rfl⟩:=he;refine .same λs X hs=>?_;have key:A3j C.P ty (M.set s X) (ρ x) (lo.map ρ) (hi.map ρ) (mx.map ρ)=some v':=by unfold A3j at hv|-;split at hv;(case h_2=>simp at hv);rename_i f g' sz lo0 len;split at hv;(case h_2=>simp at hv);rename_i hA e1 s1 cs g1 hist hM hM2;split at hv;(case h_2=>simp at hv);rename_i n hn;simp only[hM,A1S hs hM2 (A1x hn),hn];exact hv
  simp only[A2Q,key,Z0M]
 .rename_i a b x;split at he
  .rename_i v' hv;simp only[Z0a,Z0c]at he;obtain⟨rfl,rfl⟩:=he;refine .same λs X hs=>?_;simp only[A2Q,hv]
  .rename_i hnone;simp only[Z0i,Z0c]at he;obtain⟨v',hv,rfl,rfl⟩:=he;refine .same λs X hs=>?_;have key:B6o C.P a b (M.set s X) (ρ x)=some v':=by
    unfold B6o at hv|-;split at hv
    .split at hv;(case h_2=>simp at hv);rename_i bt cs n hM hn;rw[A1S hs hM (by simp[A1m])];simp only[hn];exact hv
    .split at hv;(case h_2=>simp at hv);rename_i bt cs n hM hn;rw[A1S hs hM (by simp[A1m])];simp only[hn];exact hv
    .simp at hv
   simp only[A2Q,hnone,key,Z0M]
 .rename_i b args ts;have e:A2Q C ⟨d,.call {callee:=.builtin b,args:=args,argTypes:=ts},t,p,af,g⟩ ρ=A3n C.P b ts.toList (args.toList.map ρ):=rfl;rw[e];have hd:∀x l,args.toList.map ρ=x::l->∀f,(∃g' sz lo len,x=.vref f g' sz lo len)\/(∃g' off,x=.vptr f g' off)->f∈A2c ⟨d,.call {callee:=.builtin b,args:=args,argTypes:=ts},t,p,af,g⟩ ρ:=by
   intro x l hl f hf;cases ha:args.toList with
   |nil=>rw[ha]at hl;simp at hl
   |cons a l2=>rw[ha]at hl;simp only[Z0B,Z1e]at hl;simp only[A2c,ha];rw[hl.1];rcases hf with⟨_,_,_,_,rfl⟩|⟨_,_,rfl⟩<;>simp
  unfold A3n at he;split at he
  .rename_i ty x hts hargs;rw[hts,hargs];unfold A5u at he;split at he;(case h_2=>simp at he);rename_i f g' sz lo len;split at he;(case h_2=>simp at he);rename_i e0 hel;split at he;(case h_2=>simp at he);rename_i z ety sz2 cs g2 hist hz hM;split at he;(case h_2=>simp at he);rename_i n hn;split at he;(case isFalse=>simp at he);rename_i hc;split at he
   .rename_i h0;simp only[Z0a,Z0c]at he;obtain⟨rfl,rfl⟩:=he;refine .same λs X hs=>?_;simp only[A3n,A5u,hel,hz,A1S hs hM (A1x hn),hn,Z0d hc,Z0d h0]
   .rename_i h0;simp only[Z0a,Z0c]at he;obtain⟨rfl,rfl⟩:=he;refine .put hM (A1x hn) (hd _ _ hargs f (.inl ⟨_,_,_,_,rfl⟩)) λs X hs=>?_;simp only[A3n,A5u,hel,hz,A1S hs hM (A1x hn),hn,Z0d hc,Z0e h0]
  .rename_i x hargs;simp only[Z0i,Z0c]at he;obtain⟨v',hv,rfl,rfl⟩:=he;refine .same λs X hs=>?_;rw[hargs];have key:A3K (M.set s X) x=some v':=by
    unfold A3K at hv|-;split at hv
    .exact hv
    .split at hv;(case h_2=>simp at hv);rename_i ety sz2 cs g2 hist hM;split at hv;(case h_2=>simp at hv);rename_i n hn;simp only[A1S hs hM (A1x hn),hn];exact hv
    .simp at hv
   simp only[A3n,key,Z0M]
  .rename_i pt it pp nn hts hargs;rw[hts,hargs];unfold A2q at he;split at he;(case h_2=>simp at he);rename_i n;split at he
   .rename_i h0;subst h0;refine ?_;split at he
    .simp only[Z0a,Z0c]at he;obtain⟨rfl,rfl⟩:=he;exact .same λs X hs=>by simp only[A3n,A2q,Z0H]
    .simp only[Z0a,Z0c]at he;obtain⟨rfl,rfl⟩:=he;exact .same λs X hs=>by simp only[A3n,A2q,Z0H]
    .simp at he
   .rename_i h0;split at he;(case h_2=>simp at he);rename_i f g' off;split at he;(case h_2=>simp at he);rename_i e0 ety cs g2 hist hu hM;split at he;(case h_2=>simp at he);rename_i m hm;split at he;(case isFalse=>simp at he);rename_i hc;split at he;(case h_2=>simp at he);rename_i l hl;simp only[Z0a,Z0c]at he;obtain⟨rfl,rfl⟩:=he;refine .put hM (A1x hm) (hd _ _ hargs f (.inr ⟨_,_,rfl⟩)) λs X hs=>?_;simp only[A3n,A2q,Z0e h0,hu,A1S hs hM (A1x hm),hm,Z0d hc,hl]
  .simp at he
 .simp at he
def A7W.of{f g:Mem->Option (AV×Mem)}{M M1}{v}{ws}(h:A7W f M v M1 ws)(a:∀M2 v M',f M2=some (v,M')->g M2=some (v,M')):A7W g M v M1 ws:=⟨h.grow,h.old,h.keep,λs X hs=>a _ _ _ (h.fill s X hs)⟩
def C3I{C}{h}{o}{ρ:Operand->AV}{M}{r}(he:A0Q C h o ρ M=some r):∀M2,A0U C h o ρ M2=none:=by obtain⟨d,op,t,p,af,g⟩:=o;intro M2;cases op<;>first|rfl|(simp[A0Q]at he;done)
def C9y{C}{h}{o}{ρ:Operand->AV}{M}{r}(he:A2Q C o ρ M=some r):∀M2,A0U C h o ρ M2=none/\A0Q C h o ρ M2=none:=by
 obtain⟨d,op,t,p,af,g⟩:=o;intro M2;cases op<;>first|exact⟨rfl,rfl⟩|(simp[A2Q]at he;done)|skip
 case call c=>
  obtain⟨callee,args,ts⟩:=c;cases callee with
  |builtin b=>refine⟨rfl,?_⟩;cases b<;>first|rfl|(simp[A2Q,A3n]at he;done)
  |_=>simp[A2Q]at he
def B1h{C}{h}{o}{ρ:Operand->AV}{v}(he:A0E C o ρ=some v):∀M2,A0U C h o ρ M2=none/\A0Q C h o ρ M2=none:=by obtain⟨d,op,t,p,af,g⟩:=o;intro M2;cases op<;>first|exact⟨rfl,rfl⟩|(simp[A0E]at he;done)
def A9e{C}{h}{o}{ρ:Operand->AV}{M M'}{v}(he:A0A C h o ρ M=some (v,M')):A7W (A0A C h o ρ) M v M' (A2c o ρ):=by
 unfold A0A at he;split at he
 .rename_i u hu;simp only[Z0a,Z0c]at he;obtain⟨rfl,rfl⟩:=he;exact .same λs X hs=>by simp only[A0A,hu]
 rename_i hp;split at he
 .rename_i r hr;simp only[Z0a]at he;subst he;exact(C3A hr).of λM2 v2 M3 h2=>by simp only[A0A,hp,h2]
 split at he
 .rename_i r hr;simp only[Z0a]at he;subst he;exact(C0Q hr).of λM2 v2 M3 h2=>by simp only[A0A,hp,C3I hr,h2]
 split at he
 .rename_i u hu;simp only[Z0a,Z0c]at he;obtain⟨rfl,rfl⟩:=he;have h1:=B1h (h:=h) hu;exact .same λs X hs=>by simp only[A0A,hp,(h1 _).1,(h1 _).2,hu]
 .rename_i hp1;have h1:=C9y (h:=h) he;exact(C8l he).of λM2 v2 M3 h2=>by simp only[A0A,hp,(h1 _).1,(h1 _).2,hp1,h2]
def A5w(s:AV):List Nat:=match s with
 |.vref f _ _ _ _=>[f]
 |_=>[]
def C7m{e:TypeId}{sz}{s0 x v}{M M'}(h:A3g e sz s0 x M=some (v,M')):A7W (A3g e sz s0 x) M v M' (A5w s0):=by
 unfold A3g at h;split at h;case h_2=>simp at h
 rename_i news m f h' s' lo len hsrc;split at h;case h_2=>simp at h
 rename_i e2 s2 cs g hist hM;split at h;case h_2=>simp at h
 rename_i n hn;split at h;case isFalse=>simp at h
 rename_i hc;simp only[Z0a,Z0c]at h;obtain⟨rfl,rfl⟩:=h;refine .put hM (A1x hn) (by simp[A5w]) λs X hs=>?_;simp only[A3g,A1W hs hsrc,A1S hs hM (A1x hn),hn,Z0d hc]
def C6Z{e:TypeId}{sz}{s0 x v}{M M'}(h:A2L e sz s0 x M=some (v,M')):A7W (A2L e sz s0 x) M v M' (A5w s0):=by
 unfold A2L at h;split at h
 .simp at h
 rename_i news m hsrc;split at h
 .split at h
  .rename_i h0;simp only[Z0a,Z0c]at h;obtain⟨rfl,rfl⟩:=h;exact .same λs X hs=>by simp only[A2L,A1W hs hsrc,Z0d h0]
  .rename_i h0;simp only[Z0a,Z0c]at h;obtain⟨rfl,rfl⟩:=h;exact .app λs X hs=>by simp only[A2L,A1W hs hsrc,Z0e h0,Z1o]
 .split at h;case isFalse=>simp at h
  rename_i hss;split at h
  .rename_i h0;simp only[Z0a,Z0c]at h;obtain⟨rfl,rfl⟩:=h;exact .same λs X hs=>by simp only[A2L,A1W hs hsrc,Z0d hss,Z0d h0]
  .rename_i h0;simp only[Z0a,Z0c]at h;obtain⟨rfl,rfl⟩:=h;exact .app λs X hs=>by simp only[A2L,A1W hs hsrc,Z0d hss,Z0e h0,Z1o]
 .rename_i f h' s' lo len;split at h;case h_2=>simp at h
  rename_i e2 s2 cs g hist hM;split at h;case h_2=>simp at h
  rename_i n hn;split at h;case isFalse=>simp at h
  rename_i hc;split at h
  .rename_i h0;simp only[Z0a,Z0c]at h;obtain⟨rfl,rfl⟩:=h;exact .same λs X hs=>by simp only[A2L,A1W hs hsrc,A1S hs hM (A1x hn),hn,Z0d hc,Z0d h0]
  .rename_i h0;simp only[Z0a,Z0c]at h;obtain⟨rfl,rfl⟩:=h;exact .put hM (A1x hn) (by simp[A5w]) λs X hs=>by simp only[A2L,A1W hs hsrc,A1S hs hM (A1x hn),hn,Z0d hc,Z0e h0]
 .simp at h
inductive BT where
 |leaf (v:AV)
 |node (l r:BT)
def BT.get:BT->Nat->AV
 |.leaf v,n=>match n with|0=>v|_=>.poison
 |.node l r,n=>match n%2 with
  |0=>l.get (n/2)
  |_=>r.get (n/2)
def BT.put:BT->Nat->AV->Option BT
 |.leaf _,n,v=>match n with|0=>some (.leaf v)|_=>none
 |.node l r,n,v=>match n%2 with
  |0=>match l.put (n/2) v with|some l=>some (.node l r)|none=>none
  |_=>match r.put (n/2) v with|some r=>some (.node l r)|none=>none
def BT.mk:Nat->BT
 |0=>.leaf .poison
 |k+1=>.node (BT.mk k) (BT.mk k)
def BT.get_put:∀(t t':BT) (n:Nat) (v:AV),t.put n v=some t'->∀m,t'.get m=if m=n then v else t.get m
 |.leaf u,t',n,v,h,m=>by
  simp only[BT.put]at h;split at h
  .simp only[Z0a]at h;subst h;by_cases e:m=0
   .subst e;simp[BT.get]
   .rw[Z0e e];cases m with
    |zero=>exact absurd rfl e
    |succ m=>rfl
  .simp at h
 |.node l r,t',n,v,h,m=>by
  simp only[BT.put]at h;split at h
  .rename_i a;split at h
   .rename_i l' hl;simp only[Z0a]at h;subst h;have ih:=BT.get_put l l' (n/2) v hl (m/2);simp only[BT.get];split
    .rw[ih];rename_i b;by_cases e:m/2=n/2
     ·(have:m=n:=by omega);rw[Z0d e,Z0d this]
     ·(have:¬m=n:=by intro h;subst h;exact e rfl);rw[Z0e e,Z0e this]
    .rename_i b;(have:¬m=n:=by intro h;subst h;exact b a);rw[Z0e this]
   .simp at h
  .rename_i a;split at h
   .rename_i r' hr;simp only[Z0a]at h;subst h;have ih:=BT.get_put r r' (n/2) v hr (m/2);simp only[BT.get];split
    .rename_i b;rw[Z0e (by intro e;subst e;exact a b)]
    .rename_i b;rw[ih];by_cases e:m/2=n/2
     ·(have:m=n:=by have a':¬n%2=0:=a;have b':¬m%2=0:=b;omega);rw[Z0d e,Z0d this]
     ·(have:¬m=n:=by intro h;subst h;exact e rfl);rw[Z0e e,Z0e this]
   .simp at h
def BT.get_mk:∀(k n:Nat),(BT.mk k).get n=.poison
 |0,n=>by cases n<;>rfl
 |k+1,n=>by simp only[BT.get,BT.mk];split<;>exact BT.get_mk k _
def BT.fn(t:BT):Env:=t.get
def BT.set(t:BT)(d:Option Nat)(v:AV):Option BT:=match d with
 |none=>some t
 |some d=>t.put d v
def BT.set_fn{t t':BT}{d:Option Nat}{v:AV}(h:t.set d v=some t'):t'.fn=t.fn.put d v:=by
 cases d with
 |none=>simp only[BT.set,Z0a]at h;subst h;rfl
 |some d=>funext j;exact BT.get_put t t' d v h j
def BT.args:List AV->Nat->BT->Option BT
 |[],_,t=>some t
 |a::l,i,t=>match t.put i a with
  |some t=>BT.args l (i+1) t
  |none=>none
def BT.args_fn:∀(l:List AV) (i:Nat) (t t':BT),BT.args l i t=some t'->∀j,t'.get j=if i<=j/\j<i+l.length then l.getD (j-i) .poison else t.get j
 |[],i,t,t',h,j=>by simp only[BT.args,Z0a]at h;subst h;rw[Z0e (by simp only[Z1G];omega)]
 |a::l,i,t,t',h,j=>by
  simp only[BT.args]at h;split at h
  .rename_i t1 h1;rw[BT.args_fn l (i+1) t1 t' h j,BT.get_put _ _ _ _ h1];by_cases e:j=i
   .subst e;rw[Z0e (by omega),Z0d rfl,Z0d (by simp)];simp
   .by_cases e2:i+1<=j/\j<i+1+l.length
    .rw[Z0d e2,Z0d (by simp only[Z0C];omega)];obtain⟨m,rfl⟩:∃m,j=i+1+m:=⟨j-(i+1),by omega⟩;rw[show i+1+m-(i+1)=m from by omega,show i+1+m-i=m+1 from by omega];simp
    .rw[Z0e e2,Z0e e,Z0e (by simp only[Z0C];omega)]
  .simp at h
def BT.args_of{k}{l}{t}(h:BT.args l 0 (BT.mk k)=some t):t.fn=Env.of l:=by
 funext j;show t.get j=_;rw[BT.args_fn l 0 _ _ h j];simp only[Z3f,Z2t,Z0I,Nat.sub_zero,Env.of];split
 .rfl
 .rename_i hj;rw[BT.get_mk,Z1u,Z1d (by omega)];rfl
def C5F{e:TypeId}{sz b}{s0 x}{M}{X}{r1 r2}(hs:M[b]?=some A1m)(h1:A0z M sz s0=some r1)(h2:A0z M sz x=some r2)(h:A3g e sz s0 x M=none):A3g e sz s0 x (M.set b X)=none:=by
 cases s0 with
 |vref f h' s' lo len=>
  simp only[A0z]at h1;split at h1;case h_2=>simp at h1
  rename_i e2 s2 cs g hist hM;split at h1;case h_2=>simp at h1
  rename_i n hn;simp only[A3g,h2,hM,hn]at h;simp only[A3g,A1W hs h2,A1S hs hM (A1x hn),hn];split at h
  .simp at h
  .rename_i hc;rw[Z0e hc]
 |_=>simp[A3g]
def B6U{e:TypeId}{sz bytes}{s0 x v}{M M'}(hv:A8R true s0=true)(h:A3u false true e sz bytes s0 x M=some (v,M')):A7W (A3u false true e sz bytes s0 x) M v M' (A5w s0):=by
 unfold A3u at h;rw[Z0d hv]at h;split at h;case h_2=>simp at h
 rename_i c1 k c2 m h1 h2;split at h;case isFalse=>simp at h
 rename_i hb;split at h
 .rename_i r hr;simp only[Z0a]at h;subst h;have ha:=C7m hr;exact⟨ha.grow,ha.old,ha.keep,λs X hs=>by simp only[A3u,Z0d hv,A1W hs h1,A1W hs h2,Z0d hb,ha.fill s X hs]⟩
 .rename_i hr;have ha:=C6Z h;exact⟨ha.grow,ha.old,ha.keep,λs X hs=>by simp only[A3u,Z0d hv,A1W hs h1,A1W hs h2,Z0d hb,C5F hs h1 h2 hr,ha.fill s X hs]⟩
def HX:A2x:=⟨λ_=>false,λ_=>false,λ_=>true⟩
abbrev XR:=AV×Mem×List Nat
abbrev B4H:=FuncId->List AV->Mem->Option XR
structure A9H (f:Mem->Option XR) (M:Mem) (v:AV) (M1:Mem) (ws:List Nat):Prop where
 grow:M.length<=M1.length
 old:∀i,i<M.length->i∉ws->M1[i]?=M[i]?
 keep:A4O M M1
 fill:∀(s:Nat) (X:A0l),M[s]?=some A1m->f (M.set s X)=some (v,M1.set s X,ws)
def A7W.x{f:Mem->Option (AV×Mem)}{M M1}{v}{ws}(h:A7W f M v M1 ws){g:Mem->Option XR}(hg:∀M2 M3,f M2=some (v,M3)->g M2=some (v,M3,ws)):A9H g M v M1 ws:=⟨h.grow,h.old,h.keep,λs X hs=>hg _ _ (h.fill s X hs)⟩
def A9H.same{f:Mem->Option XR}{M:Mem}{v:AV}{ws:List Nat}(h:∀(s:Nat) (X:A0l),M[s]?=some A1m->f (M.set s X)=some (v,M.set s X,ws)):A9H f M v M ws:=⟨Z0o _,λ_ _ _=>rfl,λ_ h=>h,h⟩
def A9b{M}{p}{l}(hb:B0R M (p::l)):M[p.1]?=some A1m/\B0R (M.set p.1 p.2) l:=by obtain⟨h1,h2⟩:=hb;simp only[Z0B,Z1U]at h2;refine⟨h1 p (by simp),λq hq=>?_,h2.2⟩;rw[Z0f (λe=>h2.1 (by rw[e];exact List.mem_map_of_mem hq))];exact h1 q (by simp[hq])
def C5x{f:Mem->Option XR}(ha:∀M v M1 ws,f M=some (v,M1,ws)->A9H f M v M1 ws):∀(l:List (Nat×A0l)) (M M1:Mem) (v:AV) (ws:List Nat),f M=some (v,M1,ws)->B0R M l->f (Go.Abs.fill M l)=some (v,Go.Abs.fill M1 l,ws)
 |[],M,M1,v,ws,h,_=>h
 |p::l,M,M1,v,ws,h,hb=>by obtain⟨h1,h2⟩:=A9b hb;exact C5x ha l (M.set p.1 p.2) (M1.set p.1 p.2) v ws ((ha _ _ _ _ h).fill p.1 p.2 h1) h2
def B5l(C:Ctx)(call:B4H):Prop:=∀g args M v M1 ws,call g args M=some (v,M1,ws)->A4d C g args M (λr m=>r=v/\m=M1)/\A9H (call g args) M v M1 ws
def C3l(P:Program)(u:TypeId):Bool:=match P.underlying u with|some (.slice _)|some .string=>true|_=>false
def B2v(P:Program)(e:TypeId):Option (Nat×Nat):=match P.info? e with
 |some i=>match i.zero with
  |some z=>if z.cells.size=i.size/\0<i.bytes then some (i.size,i.bytes)else none
  |none=>none
 |none=>none
def C4r{P}{e:TypeId}{sz bytes}(h:B2v P e=some (sz,bytes)):A3x P e sz bytes:=by
 unfold B2v at h;split at h
 .rename_i i hi;split at h
  .rename_i z hz;split at h
   .rename_i hc;simp only[Z0a,Z0c]at h;obtain⟨rfl,rfl⟩:=h;exact⟨i,z,hi,hz,rfl,rfl,hc.1,hc.2⟩
   .simp at h
  .simp at h
 .simp at h
def D1y{P}{u:TypeId}(h:C3l P u=true):A4f P u:=by
 unfold C3l at h;split at h
 .rename_i e hu;exact .inl ⟨e,hu⟩
 .rename_i hu;exact .inr hu
 .simp at h
def A7s(P:Program)(t u:TypeId)(s x:AV)(M:Mem):Option XR:=match A0R P t with
 |some e=>match B2v P e with
  |some (sz,bytes)=>match C3l P u,A8R true s with
   |true,true=>match A3u false true e sz bytes s x M with
    |some (v,M')=>some (v,M',A5w s)
    |none=>none
   |_,_=>none
  |none=>none
 |none=>none
def B8N{C:Ctx}{t u:TypeId}{s x v:AV}{M M':Mem}{ws:List Nat}(h:A7s C.P t u s x M=some (v,M',ws)):(∃e sz bytes,B3Y C.P t u sz bytes e/\A3u false true e sz bytes s x M=some (v,M')/\A7W (A3u false true e sz bytes s x) M v M' ws)/\A9H (A7s C.P t u s x) M v M' ws:=by
 unfold A7s at h
 split at h
 case h_2=>simp at h
 rename_i e he
 split at h
 case h_2=>simp at h
 rename_i sz bytes hf
 split at h
 case h_2=>simp at h
 rename_i hu hv
 split at h
 case h_2=>simp at h
 rename_i v1 M1 ha
 simp only[Z0a,Z0c]at h
 obtain⟨rfl,rfl,rfl⟩:=h
 have a:=B6U hv ha
 refine⟨⟨e,sz,bytes,⟨he,D1y hu,C4r hf⟩,ha,a⟩,a.x λM2 M3 h2=>?_⟩
 simp only[A7s,he,hf,hu,hv,h2]
def xOp(call:B4H)(C:Ctx)(o:Oper)(ρ:Operand->AV)(M:Mem):Option XR:=
 match o.op with
 |.call {callee:=.value f,args,..}=>match ρ f with
  |.func (.func g) first captured=>call g (first++args.toList.map ρ++captured) M
  |_=>none
 |.call {callee:=.builtin .append,args,argTypes}=>match args.toList,argTypes.toList with
  |[s,x],[t,u]=>match o.dst with
   |some _=>A7s C.P t u (ρ s) (ρ x) M
   |none=>none
  |_,_=>none
 |_=>match A0q C HX o ρ with
  |some v=>some (v,M,[])
  |none=>match A0A C HX o ρ M with
   |some (v,M')=>some (v,M',A2c o ρ)
   |none=>none
def E0Y{a:B4H}{C:Ctx}(hc:B5l C a){o:Oper}{ρ:Operand->AV}{M M':Mem}{v:AV}{ws:List Nat}(h:xOp a C o ρ M=some (v,M',ws)):(∀K:AV->Mem->Prop,K v M'->A4z C HX o K ρ M)/\A9H (xOp a C o ρ) M v M' ws:=by
 obtain⟨d,op,t,p,af,g⟩:=o
 unfold xOp at h
 simp only at h
 split at h
 .rename_i f args ts;split at h;case h_2=>simp at h
  rename_i g' first captured hf
  obtain⟨h1,h2⟩:=hc _ _ _ _ _ _ h;refine⟨λK hk=>?_,⟨h2.grow,h2.old,h2.keep,λs X hs=>by simp only[xOp,hf];exact h2.fill s X hs⟩⟩;simp only[A4z,hf];refine h1.mono ?_;rintro r m ⟨rfl,rfl⟩;exact hk
 .rename_i args ts;split at h;case h_2=>simp at h
  rename_i s x t' u ha ht;split at h;case h_2=>simp at h
  rename_i d0;obtain⟨⟨e,sz,bytes,q1,q2,_⟩,q3⟩:=B8N h;refine⟨λK hk=>?_,⟨q3.grow,q3.old,q3.keep,λs X hs=>by simp only[xOp,ha,ht];exact q3.fill s X hs⟩⟩;simp only[A4z,ha,ht];refine⟨e,sz,bytes,q1,?_⟩;have:A3u (A1V HX.own (some d0)) (A1V HX.vec (some d0)) e sz bytes (ρ s) (ρ x) M=some (v,M'):=q2;rw[this];exact hk
 .rename_i hne1 hne2;have vc:∀v M',A0A C HX ⟨d,op,t,p,af,g⟩ ρ M=some (v,M')->∀K:AV->Mem->Prop,K v M'->A4z C HX ⟨d,op,t,p,af,g⟩ K ρ M:=by
   intro v M' he K hk;unfold A4z;split
   .rename_i heq;exact absurd heq (by intro e;exact hne1 _ _ _ e)
   .rename_i heq;exact absurd heq (by intro e;exact hne2 _ _ e)
   .rw[he];exact hk
  have xo:∀M2,xOp a C ⟨d,op,t,p,af,g⟩ ρ M2=(match A0q C HX ⟨d,op,t,p,af,g⟩ ρ with
  |some v=>some (v,M2,[])
  |none=>match A0A C HX ⟨d,op,t,p,af,g⟩ ρ M2 with
   |some (v,M')=>some (v,M',A2c ⟨d,op,t,p,af,g⟩ ρ)
   |none=>none):=by
   intro M2
   unfold xOp
   split
   .rename_i heq;exact absurd heq (by intro e;exact hne1 _ _ _ e)
   .rename_i heq;exact absurd heq (by intro e;exact hne2 _ _ e)
   .rfl
  split at h
  .rename_i v1 hp;simp only[Z0a,Z0c]at h;obtain⟨rfl,rfl,rfl⟩:=h;exact⟨vc _ _ (by simp only[A0A,hp]),.same λs X _=>by simp only[xo,hp]⟩
  .rename_i hp;split at h
   .rename_i v1 M1 he;simp only[Z0a,Z0c]at h;obtain⟨rfl,rfl,rfl⟩:=h;exact⟨vc _ _ he,(A9e he).x λM2 M3 h2=>by simp only[xo,hp,h2]⟩
   .simp at h
def B7T:Nat->List Nat->Bool
 |_,[]=>false
 |n,a::l=>match Nat.beq n a with
  |true=>true
  |false=>B7T n l
def B3P{n}:∀{l:List Nat},B7T n l=true<->n∈l
 |[]=>by simp[B7T]
 |a::l=>by
  simp only[B7T];split
  .rename_i h;simp[Z1J h]
  .rename_i h;rw[B3P (l:=l)];(have:n≠a:=by intro e;subst e;rw[Z4u]at h;simp at h);simp[this]
def B0W(base:Nat):List Nat->List Nat->List Nat
 |[],ws=>ws
 |b::l,ws=>match Nat.ble base b,B7T b ws with
  |false,false=>B0W base l (b::ws)
  |_,_=>B0W base l ws
def B5P{base}:∀{l ws:List Nat} {i:Nat},i<base->i∉B0W base l ws->i∉l/\i∉ws
 |[],ws,i,_,h=>⟨by simp,h⟩
 |b::l,ws,i,hi,h=>by
  simp only[B0W]at h;split at h
  .have:=B5P hi h;simp only[Z0A,Z2N]at this|-;exact⟨⟨this.2.1,this.1⟩,this.2.2⟩
  .rename_i hne;have:=B5P hi h;refine⟨?_,this.2⟩;simp only[Z0A,Z2N];refine⟨?_,this.1⟩;intro e;subst e;have h1:Nat.ble base i=false:=by
    cases hb:Nat.ble base i with
    |false=>rfl
    |true=>have:=Z2Y hb;omega
   have h2:B7T i ws=false:=by
    cases hm:B7T i ws with
    |false=>rfl
    |true=>exact absurd (B3P.1 hm) this.2
   exact hne h1 h2
def Old(base:Nat)(ws:List Nat)(M0 M:Mem):Prop:=∀i,i<base->i∉ws->M[i]?=M0[i]?
def Old.add{base}{l ws}{M0 M M1}(h:Old base ws M0 M)(hb:base<=M.length)(hs:∀i,i<M.length->i∉l->M1[i]?=M[i]?):Old base (B0W base l ws) M0 M1:=by intro i hi hn;obtain⟨h1,h2⟩:=B5P hi hn;rw[hs i (by omega) h1,h i hi h2]
structure B3k {R:Type} (base:Nat) (f:Mem->Option R) (mk:Mem->R) (M M':Mem) (ws ws':List Nat):Prop where
 grow:M.length<=M'.length
 keep:A4O M M'
 old:base<=M.length->∀M0,Old base ws M0 M->Old base ws' M0 M'
 fill:∀(s:Nat) (X:A0l),M[s]?=some A1m->f (M.set s X)=some (mk (M'.set s X))
def B3k.same{R:Type}{base:Nat}{f:Mem->Option R}{mk:Mem->R}{M:Mem}{ws:List Nat}(h:∀(s:Nat) (X:A0l),M[s]?=some A1m->f (M.set s X)=some (mk (M.set s X))):B3k base f mk M M ws ws:=⟨Z0o _,λ_ h=>h,λ_ _ h=>h,h⟩
def B3k.trans{R R2:Type}{base}{f:Mem->Option R}{mk:Mem->R}{f2:Mem->Option R2}{a:Mem->R2}{f3:Mem->Option R2}{M M1 M2}{ws ws1 ws2}(h:B3k base f mk M M1 ws ws1)(k:B3k base f2 a M1 M2 ws1 ws2) (hf:∀A B,f A=some (mk B)->f3 A=f2 B):B3k base f3 a M M2 ws ws2:=⟨Z0S h.grow k.grow,λs hs=>k.keep s (h.keep s hs),λhb M0 h0=>k.old (Z0S hb h.grow) M0 (h.old hb M0 h0),λs X hs=>by rw[hf _ _ (h.fill s X hs)];exact k.fill s X (h.keep s hs)⟩
def A9H.goes{R:Type}{base}{g:Mem->Option XR}{f:Mem->Option R}{mk:Mem->R}{M M1}{v}{l ws}(h:A9H g M v M1 l)(hf:∀A B,g A=some (v,B,l)->f A=some (mk B)):B3k base f mk M M1 ws (B0W base l ws):=⟨h.grow,h.keep,λhb M0 h0=>h0.add hb h.old,λs X hs=>hf _ _ (h.fill s X hs)⟩
def B3k.turn{R R2:Type}{base}{f:Mem->Option R}{mk:Mem->R}{f2:Mem->Option R2}{a:Mem->R2}{M M1}{ws ws1}(h:B3k base f mk M M1 ws ws1)(hf:∀A B,f A=some (mk B)->f2 A=some (a B)):B3k base f2 a M M1 ws ws1:=⟨h.grow,h.keep,h.old,λs X hs=>hf _ _ (h.fill s X hs)⟩
def B1q(ops:Array Oper)(o:Oper)(t:BT):Option Bool:=match o.guard with
 |none=>some true
 |some (j,want)=>match(ops[j]?).bind (·.dst)with
  |some d=>match t.get d with
   |.val (.bool b)=>some (b==want)
   |.val (.tuple _)=>some false
   |_=>none
  |none=>none
def B2h{ops}{o}{t}{b}(h:B1q ops o t=some b)(run skip:Prop):A2o ops o t.fn run skip=if b=true then run else skip:=by
 unfold B1q at h;unfold A2o;split at h
 .rename_i hg;simp only[Z0a]at h;subst h;rw[hg];simp
 .rename_i j want hg;rw[hg];simp only;split at h
  .rename_i d hd;rw[hd];simp only[BT.fn];split at h
   .rename_i b' hb;simp only[Z0a]at h;subst h;rw[hb];simp only[Z2I]
   .rename_i hb;simp only[Z0a]at h;subst h;rw[hb];simp
   .simp at h
  .simp at h
def B9N(call:B4H)(C:Ctx)(base:Nat)(ops:Array Oper):List Oper->BT->Mem->List Nat->Option (BT×Mem×List Nat)
 |[],t,M,ws=>some (t,M,ws)
 |o::rest,t,M,ws=>match B1q ops o t with
  |some true=>match xOp call C o (t.fn.ev C) M with
   |some (v,M',l)=>match t.set o.dst v with
    |some t'=>B9N call C base ops rest t' M' (B0W base l ws)
    |none=>none
   |none=>none
  |some false=>match t.set o.dst (.val undef)with
   |some t'=>B9N call C base ops rest t' M ws
   |none=>none
  |none=>none
def C4h{call}{C}(hc:B5l C call){base}{ops}:∀(l:List Oper) (t:BT) (M:Mem) (ws:List Nat) (t':BT) (M':Mem) (a:List Nat),B9N call C base ops l t M ws=some (t',M',a)->
 A9L C HX ops l (λT m=>T=t'.fn/\m=M') t.fn M/\B3k base (λm=>B9N call C base ops l t m ws) (λm=>(t',m,a)) M M' ws a
 |[],t,M,ws,t',M',a,h=>by simp only[B9N,Z0a,Z0c]at h;obtain⟨rfl,rfl,rfl⟩:=h;exact⟨⟨rfl,rfl⟩,.same λ_ _ _=>rfl⟩
 |o::rest,t,M,ws,t',M',a,h=>by
  simp only[B9N]at h;simp only[A9L];split at h
  .rename_i hgd;split at h;(case h_2=>simp at h);rename_i v M1 l2 ho;split at h;(case h_2=>simp at h);rename_i t1 ht;obtain⟨h1,h2⟩:=E0Y hc ho;obtain⟨h3,h4⟩:=C4h hc rest t1 M1 (B0W base l2 ws) t' M' a h;refine⟨?_,(h2.goes (base:=base) (ws:=ws) (f:=xOp call C o (t.fn.ev C)) (mk:=λB=>(v,B,l2)) (λA B e=>e)).trans h4 (λA B e=>?_)⟩
   .rw[B2h hgd,Z0d rfl];refine h1 _ ?_;rw[<-BT.set_fn ht];exact h3
   .simp only[B9N,hgd,e,ht]
  .rename_i hgd;split at h;(case h_2=>simp at h);rename_i t1 ht;obtain⟨h3,h4⟩:=C4h hc rest t1 M ws t' M' a h;refine⟨?_,h4.turn (λA B e=>by simp only[B9N,hgd,ht];exact e)⟩;rw[B2h hgd,Z0e (by simp),<-BT.set_fn ht];exact h3
  .simp at h
structure A4V where
 cls:Nat
 rob:Nat
 slot:Nat
 ws:List Nat
 len:Nat
def B2d(o:Oper):Bool:=match o.op with
 |.alloc _=>true
 |_=>false
def A4C(call:B4H)(C:Ctx)(o:Oper)(ρ:Operand->AV)(M:Mem)(slot:Nat):Option (A4V×AV×Mem):=
 match o.op with
 |.call {callee:=.value f,args,..}=>match ρ f with
  |.func (.func g) first captured=>match call g (first++args.toList.map ρ++captured) M with
   |some (v,M',l)=>some (⟨2,0,0,l,M.length⟩,v,M')
   |none=>none
  |_=>none
 |.call {callee:=.builtin .append,args,argTypes}=>match args.toList,argTypes.toList with
  |[s,x],[t,u]=>match o.dst with
   |some _=>match A7s C.P t u (ρ s) (ρ x) M with
    |some (v,M',l)=>some (⟨2,0,0,l,M.length⟩,v,M')
    |none=>none
   |none=>none
  |_,_=>none
 |.alloc e=>match A8M C.P e,M[slot]? with
  |some X,some (.vec 0 1 [] 0 [])=>some (⟨4,0,slot,[slot],M.length⟩,.vptr slot 1 0,M.set slot X)
  |_,_=>none
 |_=>match(A0q C HX o ρ).or (A0E C o ρ)with
  |some v=>some (⟨0,0,0,[],0⟩,v,M)
  |none=>match A0M o ρ with
   |some r=>match A2s C o ρ M with
    |some v=>some (⟨1,r,0,[],0⟩,v,M)
    |none=>none
   |none=>match A0A C HX o ρ M with
    |some (v,M')=>some (⟨2,0,0,A2c o ρ,M.length⟩,v,M')
    |none=>none
def C7j{C}{o}{ρ:Operand->AV}{M}{v}{s r}{X}(hs:M[s]?=some A1m)(hr:A0M o ρ=some r)(h:A2s C o ρ M=some v):A2s C o ρ (M.set s X)=some v:=by
 obtain⟨d,op,t,p,af,g⟩:=o;unfold A2s at h;simp only at h;split at h
 .rename_i t' x;simp only[A2s];unfold A1D at h|-;cases hm:A3b M (ρ x)with
  |none=>rw[hm]at h;simp at h
  |some cs=>rw[B3I hs hm];rw[hm]at h;exact h
 .simp only[A2s];exact B2D hs h
 .rename_i args ts;split at h;case h_2=>simp at h
  rename_i x t' ha ht;simp only[A2s,ha,ht];cases hl:A1Z C.P t' (ρ x)with
  |some n=>rw[hl]at h;simp only[Option.some_or]at h|-;exact h
  |none=>
   rw[hl]at h;simp only[Z2M]at h|-;cases hm:A3d C.P t' M (ρ x)with
   |none=>rw[hm]at h;simp at h
   |some n=>rw[B4Y hs hm];rw[hm]at h;exact h
 .simp at h
def A7V(o:Oper):Bool:=match o.op with
 |.store ..=>true
 |_=>false
def C7l{o}{ρ:Operand->AV}{r}(hs:A7V o=true)(hw:A2c o ρ=[r]):A5U o ρ=some r:=by
 obtain⟨d,op,t,p,af,g⟩:=o;cases op<;>first|(simp[A7V]at hs;done)|skip
 case store st a x=>simp only[A2c]at hw;simp only[A5U];split at hw<;>simp_all
structure E0H (C:Ctx) (o:Oper) (ρ:Operand->AV) (g:Mem->Option (A4V×AV×Mem)) (M:Mem) (f:A4V) (v:AV) (M':Mem) (slot R:Nat):Prop where
 run:∀K:AV->Mem->Prop,K v M'->dOp C HX true f.cls f.rob f.slot o ρ M K
 grow:M.length<=M'.length
 len:M'=M\/f.len=M.length
 old:∀i,i<M.length->i∉f.ws->M'[i]?=M[i]?
 keep:∀s,s<R->M[s]?=some A1m->M'[s]?=some A1m
 fill:∀(s:Nat) (X:A0l),s<R->M[s]?=some A1m->g (M.set s X)=some (f,v,M'.set s X)
 slot:f.cls=4->f.slot=slot/\B2d o=true/\∃X,M'=M.set slot X
 run5:∀r,A7V o=true->f.cls=2->f.ws=[r]->∀K:AV->Mem->Prop,K v M'->dOp C HX true 5 f.rob r o ρ M K
 no5:f.cls≠5
def C7P{call}{C}(hc:B5l C call){o}{ρ:Operand->AV}{M M'}{v}{f}{slot R}(hR:R<=slot)(h:A4C call C o ρ M slot=some (f,v,M')):E0H C o ρ (λm=>A4C call C o ρ m slot) M f v M' slot R:=by
 obtain⟨d,op,t,p,af,g⟩:=o
 unfold A4C at h
 simp only at h
 split at h
 .rename_i fo args ts;split at h;case h_2=>simp at h
  rename_i g' first captured hf
  split at h;case h_2=>simp at h
  rename_i v1 M1 l1 hcall;simp only[Z0a,Z0c]at h;obtain⟨rfl,rfl,rfl⟩:=h;obtain⟨h1,h2⟩:=hc _ _ _ _ _ _ hcall;refine⟨λK hk=>?_,h2.grow,.inr rfl,h2.old,λs _=>h2.keep s,λs X _ hs=>by simp only[A4C,hf,h2.fill s X hs,Z1o],λe=>by simp at e,λr hs=>by simp[A7V]at hs,by simp⟩;simp only[dOp,hf];rw[Z0e (by simp)];exact⟨v1,M1,by trivial,h1,λ_=>⟨h2.keep,λl hl=>(hc _ _ _ _ _ _ (C5x (f:=call g' (first++args.toList.map ρ++captured)) (λM v M1 ws h=>(hc _ _ _ _ _ _ h).2) l M M1 v1 l1 hcall hl)).1⟩,hk⟩
 .rename_i args ts;split at h;case h_2=>simp at h
  rename_i s x t' u ha ht;split at h;case h_2=>simp at h
  rename_i d0;split at h;case h_2=>simp at h
  rename_i v1 M1 l1 happ;simp only[Z0a,Z0c]at h;obtain⟨rfl,rfl,rfl⟩:=h;obtain⟨⟨e,sz,bytes,q1,q2,q4⟩,q3⟩:=B8N happ;refine⟨λK hk=>?_,q3.grow,.inr rfl,q3.old,λs _=>q3.keep s,λs X _ hs=>by simp only[A4C,ha,ht,q3.fill s X hs,Z1o],λe=>by simp at e,λr hs=>by simp[A7V]at hs,by simp⟩;simp only[dOp,ha,ht];refine⟨e,sz,bytes,q1,?_,?_⟩
  .trivial
  have k:A3u (A1V HX.own (some d0)) (A1V HX.vec (some d0)) e sz bytes (ρ s) (ρ x) M=some (v1,M1):=q2;unfold A5B;rw[k];refine⟨λ_=>⟨q3.keep,λl hl=>?_⟩,hk⟩;have hv:A8R true (ρ s)=true:=by unfold A7s at happ;split at happ;(case h_2=>simp at happ);split at happ;(case h_2=>simp at happ);split at happ;(case h_2=>simp at happ);rename_i hv;exact hv
  have b:∀(l:List (Nat×A0l)) (M M1:Mem) (v:AV),A3u false true e sz bytes (ρ s) (ρ x) M=some (v,M1)->B0R M l->A3u false true e sz bytes (ρ s) (ρ x) (Go.Abs.fill M l)=some (v,Go.Abs.fill M1 l):=by
   intro l;induction l with
   |nil=>intro M M1 v h _;exact h
   |cons p l ih=>intro M M1 v h hb;obtain⟨b1,b2⟩:=A9b hb;exact ih (M.set p.1 p.2) (M1.set p.1 p.2) v ((B6U hv h).fill p.1 p.2 b1) b2
  exact b l M M1 v1 q2 hl
 .rename_i e;split at h;case h_2=>simp at h
  rename_i X hX hM;simp only[Z0a,Z0c]at h;obtain⟨rfl,rfl,rfl⟩:=h;have j:M[slot]?=some A1m:=hM;refine⟨λK hk=>?_,by simp,.inr rfl,λi _ hn=>?_,λs hs hb=>?_,λs Y hs hb=>?_,λ_=>⟨rfl,rfl,X,rfl⟩,λr hs=>by simp[A7V]at hs,by simp⟩
  .simp only[dOp];rw[Z0d trivial];exact⟨trivial,j,by rw[hX];exact hk⟩
  .rw[Z0f (λe=>hn (by simp[e]))]
  .rw[Z0f (by omega)];exact hb
  ·(have:(M.set s Y)[slot]?=some (.vec 0 1 [] 0 []):=by rw[Z0f (by omega)];exact hM);simp only[A4C,hX,this,Z1o]
   rw[Z4t _ _ (by omega)]
 .rename_i hne1 hne2 hne3;have key:∀c r s M K,dOp C HX true c r s ⟨d,op,t,p,af,g⟩ ρ M K=(if c=0 then A0L ((A0q C HX ⟨d,op,t,p,af,g⟩ ρ).or (A0E C ⟨d,op,t,p,af,g⟩ ρ)) (λv=>K v M)else if c=1 then A0M ⟨d,op,t,p,af,g⟩ ρ=some r/\A0L (A2s C ⟨d,op,t,p,af,g⟩ ρ M) (λv=>K v M)
   else if c=5 then A5U ⟨d,op,t,p,af,g⟩ ρ=some s/\A0L (A0A C HX ⟨d,op,t,p,af,g⟩ ρ M) (λr=>K r.1 r.2)
   else c=2/\A5B true (A0A C HX ⟨d,op,t,p,af,g⟩ ρ) M K):=by
   intro c r s M K
   unfold dOp
   split
   .rename_i heq;exact absurd heq (by intro e;exact hne1 _ _ _ e)
   .rename_i heq;exact absurd heq (by intro e;exact hne2 _ _ e)
   .rename_i heq;exact absurd heq (by intro e;exact hne3 _ e)
   .rfl
  have a:∀M2,A4C call C ⟨d,op,t,p,af,g⟩ ρ M2 slot=(match(A0q C HX ⟨d,op,t,p,af,g⟩ ρ).or (A0E C ⟨d,op,t,p,af,g⟩ ρ)with
  |some v=>some (⟨0,0,0,[],0⟩,v,M2)
  |none=>match A0M ⟨d,op,t,p,af,g⟩ ρ with
   |some r=>match A2s C ⟨d,op,t,p,af,g⟩ ρ M2 with
    |some v=>some (⟨1,r,0,[],0⟩,v,M2)
    |none=>none
   |none=>match A0A C HX ⟨d,op,t,p,af,g⟩ ρ M2 with
    |some (v,M')=>some (⟨2,0,0,A2c ⟨d,op,t,p,af,g⟩ ρ,M2.length⟩,v,M')
    |none=>none):=by
   intro M2
   unfold A4C
   split
   .rename_i heq;exact absurd heq (by intro e;exact hne1 _ _ _ e)
   .rename_i heq;exact absurd heq (by intro e;exact hne2 _ _ e)
   .rename_i heq;exact absurd heq (by intro e;exact hne3 _ e)
   .rfl
  split at h
  .rename_i v1 he;simp only[Z0a,Z0c]at h;obtain⟨rfl,rfl,rfl⟩:=h;exact⟨λK hk=>by rw[key,Z0d rfl,he];exact hk,Z0o _,.inl rfl,λ_ _ _=>rfl,λ_ _ h=>h,λs X _ _=>by simp only[a,he],λe=>by simp at e,λr _ hc=>by simp at hc,by simp⟩
  .rename_i hnone;split at h
   .rename_i r hr;split at h;(case h_2=>simp at h);rename_i v1 hrd;simp only[Z0a,Z0c]at h;obtain⟨rfl,rfl,rfl⟩:=h;exact⟨λK hk=>by rw[key,Z0e (by simp),Z0d rfl,hrd];exact⟨hr,hk⟩,Z0o _,.inl rfl,λ_ _ _=>rfl,λ_ _ h=>h,λs X _ hs=>by simp only[a,hnone,hr,C7j hs hr hrd],λe=>by simp at e,λr _ hc=>by simp at hc,by simp⟩
   .rename_i hno;split at h;(case h_2=>simp at h);rename_i v1 M1 he;simp only[Z0a,Z0c]at h;obtain⟨rfl,rfl,rfl⟩:=h;have ha:=A9e he;refine⟨λK hk=>?_,ha.grow,.inr rfl,ha.old,λs _=>ha.keep s,λs X _ hs=>?_,λe=>by simp at e,λr hst _ hw K hk=>by rw[key,Z0e (by simp),Z0e (by simp),Z0d rfl,he];exact⟨C7l hst hw,hk⟩,by simp⟩
    .rw[key,Z0e (by simp),Z0e (by simp),Z0e (by simp)];refine⟨rfl,?_⟩;unfold A5B;rw[he];refine⟨λ_=>⟨ha.keep,λl hl=>?_⟩,hk⟩;have b:∀(l:List (Nat×A0l)) (M M1:Mem) (v:AV),A0A C HX ⟨d,op,t,p,af,g⟩ ρ M=some (v,M1)->B0R M l->A0A C HX ⟨d,op,t,p,af,g⟩ ρ (Go.Abs.fill M l)=some (v,Go.Abs.fill M1 l):=by
      intro l;induction l with
      |nil=>intro M M1 v h _;exact h
      |cons p l ih=>intro M M1 v h hb;obtain⟨b1,b2⟩:=A9b hb;exact ih (M.set p.1 p.2) (M1.set p.1 p.2) v ((A9e h).fill p.1 p.2 b1) b2
     exact b l M M1 v1 he hl
    .simp only[a,hnone];simp only[hno,ha.fill s X hs,Z1o]
def F0:A4V:=⟨0,0,0,[],0⟩
def A0B(fs:List A4V)(k:Nat):A4V:=fs.getD k F0
def A7h(fs:List A4V):B1c:={cls:=λk=>(A0B fs k).cls,rob:=λk=>(A0B fs k).rob,slot:=λk=>(A0B fs k).slot,aff:=λi k=>B7T (A0B fs i).rob (A0B fs k).ws||Nat.ble (A0B fs k).len (A0B fs i).rob,fl:=true}
def A6F(o:Oper):List Nat:=(o.after.toList.filter (Region.binds .any)).map (·.on)
def A7k(ms:List Nat):List Nat->Nat
 |[]=>0
 |on::l=>Nat.lor (Nat.lor (Nat.shiftLeft 1 on) (ms.getD on 0)) (A7k ms l)
def D4T(ops:Array Oper):List Oper->Nat->List Nat->Option (List (List Nat))
 |[],_,_=>some []
 |o::l,i,ms=>match(A6F o).all (λon=>Nat.blt on i)with
  |true=>match((List.range i).filter λj=>!(Nat.testBit (A7k ms (A6F o)) j)).all (λj=>match ops[j]? with|some x=>!A5q ops x o|none=>true)with
   |true=>match D4T ops l (i+1) (ms++[A7k ms (A6F o)])with
    |some r=>some (((List.range i).filter λj=>!(Nat.testBit (A7k ms (A6F o)) j))::r)
    |none=>none
   |false=>none
  |false=>none
def B9G(a b:A4V):Bool:=match a.cls with
 |0=>false
 |1=>match b.cls with
  |2=>B7T a.rob b.ws||Nat.ble b.len a.rob
  |4=>Nat.beq a.rob b.slot
  |5=>Nat.beq a.rob b.slot
  |_=>false
 |2=>match b.cls with
  |2=>true
  |5=>true
  |1=>B7T b.rob a.ws||Nat.ble a.len b.rob
  |_=>false
 |4=>match b.cls with
  |2=>true
  |1=>Nat.beq b.rob a.slot
  |_=>false
 |5=>match b.cls with
  |2=>true
  |1=>Nat.beq b.rob a.slot
  |_=>false
 |_=>true
def C3T(all:List A4V)(f:A4V):List Nat->Bool
 |[]=>true
 |j::l=>match B9G (A0B all j) f with
  |true=>false
  |false=>C3T all f l
def C5v(all:List A4V):List (List Nat)->List A4V->Bool
 |free::r,f::fs=>match f.cls with
  |0=>C5v all r fs
  |_=>match C3T all f free with
   |true=>C5v all r fs
   |false=>false
 |[],[]=>true
 |_,_=>false
def D7z(ops:Array Oper)(fs:List A4V):Bool:=match D4T ops ops.toList 0 []with
 |some r=>C5v fs r fs
 |none=>false
def D4I(o:Oper)(f:A4V):A4V:=match A7V o,f with
 |true,⟨2,rob,_,[r],len⟩=>⟨5,rob,r,[r],len⟩
 |_,f=>f
def A6c:List Oper->List A4V->List A4V
 |o::l,f::fs=>D4I o f::A6c l fs
 |_,fs=>fs
def A5Q:List A4V->List Nat
 |[]=>[]
 |f::fs=>match A3p f.cls with
  |true=>f.slot::A5Q fs
  |false=>A5Q fs
def B5G:List Nat->Bool
 |[]=>true
 |a::l=>!B7T a l&&B5G l
def okF(ops:Array Oper)(fs:List A4V):Bool:=match D7z ops fs with
 |true=>true
 |false=>D7z ops (A6c ops.toList fs)&&B5G (A5Q (A6c ops.toList fs))
def C5V{o}{e}(he:e∈o.after.toList)(hb:Region.binds .any e=true):e.on∈A6F o:=Z0J.2 ⟨e,Z1A.2 ⟨he,hb⟩,rfl⟩
def C9f{o}{j}(h:j∈A6F o):∃e∈o.after.toList,Region.binds .any e=true/\e.on=j:=by obtain⟨e,he,rfl⟩:=Z0J.1 h;obtain⟨h1,h2⟩:=Z1A.1 he;exact⟨e,h1,h2,rfl⟩
def B1O{ms}{j}:∀{l:List Nat},Nat.testBit (A7k ms l) j=true->∃on∈l,on=j\/Nat.testBit (ms.getD on 0) j=true
 |[],h=>by simp[A7k]at h
 |on::l,h=>by
  simp only[A7k]at h;have e:Nat.lor (Nat.lor (Nat.shiftLeft 1 on) (ms.getD on 0)) (A7k ms l)=((1 <<< on) ||| ms.getD on 0) ||| A7k ms l:=rfl;rw[e,Z4n,Z4n,Nat.testBit_shiftLeft]at h;simp only[Z1H,Z0g,Z0m]at h;rcases h with(h|h)|h
  .refine⟨on,by simp,.inl ?_⟩;obtain⟨h1,h2⟩:=h;rw[Nat.testBit_one_eq_true_iff_self_eq_zero]at h2;omega
  .exact⟨on,by simp,.inr h⟩
  .obtain⟨x,hx,h2⟩:=B1O h;exact⟨x,by simp[hx],h2⟩
def B9E{ops}:∀(f j i:Nat),A7M ops f j i=true->A7M ops (f+1) j i=true
 |0,j,i,h=>by simp[A7M]at h
 |f+1,j,i,h=>by
  rw[A7M]at h|-;split at h;case h_2=>simp at h
  rename_i o ho;rw[<-Z3Z]at h|-;obtain⟨e,he,hb⟩:=Z2u.1 h;refine Z2u.2 ⟨e,he,?_⟩;simp only[Z0g,Z1H]at hb|-;exact⟨hb.1,hb.2.imp id (B9E f j e.on)⟩
def C5D{ops}{f g j i}(h:A7M ops f j i=true)(a:f<=g):A7M ops g j i=true:=by
 induction a with
 |refl=>exact h
 |step _ ih=>exact B9E _ _ _ ih
def C4B(ops:Array Oper)(ms:List Nat):Prop:=∀i j,i<ms.length->Nat.testBit (ms.getD i 0) j=true->A7M ops (i+1) j i=true
def B4k{ops}{ms}(hm:C4B ops ms){o}{i j}(ho:ops[i]?=some o)(hi:i=ms.length)(hb:(A6F o).all (λon=>Nat.blt on i)=true)(h:Nat.testBit (A7k ms (A6F o)) j=true):A7M ops (i+1) j i=true:=by
 obtain⟨on,a,hc⟩:=B1O h;have c:on<i:=by have h1:=Z0t.1 hb on a;have:on+1<=i:=Z2Y h1;omega
 obtain⟨e,he,b,rfl⟩:=C9f a;rw[A7M,ho];simp only;rw[<-Z3Z];refine Z2u.2 ⟨e,he,?_⟩;simp only[Z0g,Z1H,Z2I];refine⟨b,?_⟩;rcases hc with hc|hc
 .exact .inl hc
 .exact .inr (C5D (hm e.on j (by omega) hc) (by omega))
def D0z{ops}:∀(l:List Oper) (i:Nat) (ms:List Nat) (r:List (List Nat)),D4T ops l i ms=some r->i=ms.length->C4B ops ms->(∀k o,l[k]?=some o->ops[i+k]?=some o)->
 r.length=l.length/\∀k o,l[k]?=some o->(∀e∈o.after.toList,Region.binds .any e=true->e.on<i+k)/\∀j x,j<i+k->ops[j]?=some x->(A7M ops (i+k+1) j (i+k)=true\/(A5q ops x o=false/\∃fr,r[k]?=some fr/\j∈fr))
 |[],i,ms,r,h,_,_,_=>by simp only[D4T,Z0a]at h;subst h;exact⟨rfl,by simp⟩
 |o::l,i,ms,r,h,hi,hm,hl=>by
  simp only[D4T]at h;split at h;case h_2=>simp at h
  rename_i hb;split at h;case h_2=>simp at h
  rename_i hs;split at h;case h_2=>simp at h
  rename_i r1 hr;simp only[Z0a]at h;subst h;have ho:ops[i]?=some o:=by have:=hl 0 o rfl;simpa using this
  have b:C4B ops (ms++[A7k ms (A6F o)]):=by
   intro i' j c ht;by_cases e:i'<ms.length
   .refine hm i' j e ?_;rw[Z1u,Z0h e,<-Z1u]at ht;exact ht
   ·(have e2:i'=i:=by simp at c;omega);subst e2
    rw[Z1u,hi,Z1n (Z0o _)]at ht;simp at ht;exact B4k hm ho hi hb ht
  obtain⟨i1,i2⟩:=D0z l (i+1) _ r1 hr (by simp[hi]) b (λk o' h'=>by have:=hl (k+1) o' (by simpa using h');rwa[show i+(k+1)=i+1+k from by omega]at this);refine⟨by simp[i1],λk o' hk=>?_⟩;cases k with
  |zero=>
   simp only[Z2Q,Z0a]at hk;subst hk;refine⟨λe he hbe=>?_,λj x hj hx=>?_⟩
   .have h1:=Z0t.1 hb _ (C5V he hbe);have:e.on+1<=i:=Z2Y h1;omega
   .cases ht:Nat.testBit (A7k ms (A6F o)) j with
    |true=>exact .inl (B4k hm ho hi hb ht)
    |false=>have a:j∈(List.range i).filter λj=>!(Nat.testBit (A7k ms (A6F o)) j):=Z1A.2 ⟨Z1i.2 (by omega),by simp[ht]⟩;have h1:=Z0t.1 hs j a;rw[hx]at h1;exact .inr ⟨by simpa using h1,_,rfl,a⟩
  |succ k=>have:=i2 k o' (by simpa using hk);rw[show i+(k+1)=i+1+k from by omega];simpa using this
def C2H{all}{f}:∀{l:List Nat},C3T all f l=true->∀j∈l,B9G (A0B all j) f=false
 |[],_,j,hj=>by simp at hj
 |x::l,h,j,hj=>by
  simp only[C3T]at h;split at h
  .simp at h
  .rename_i hc;rcases Z0A.1 hj with rfl|hj
   .exact hc
   .exact C2H h j hj
def D0x{all}:∀(r:List (List Nat)) (fs:List A4V),C5v all r fs=true->r.length=fs.length/\∀(k:Nat) (fr:List Nat) (f:A4V),r[k]?=some fr->fs[k]?=some f->f.cls=0\/∀j∈fr,B9G (A0B all j) f=false
 |[],[],_=>⟨rfl,by simp⟩
 |[],f::fs,h=>by simp[C5v]at h
 |fr::r,[],h=>by simp[C5v]at h
 |fr::r,f::fs,h=>by
  have step:∀hh:C5v all r fs=true,(f.cls=0\/∀j∈fr,B9G (A0B all j) f=false)->(fr::r).length=(f::fs).length/\∀(k:Nat) (a:List Nat) (f':A4V),(fr::r)[k]?=some a->(f::fs)[k]?=some f'->f'.cls=0\/∀j∈a,B9G (A0B all j) f'=false:=by
   intro hh h0;obtain⟨i1,i2⟩:=D0x r fs hh;refine⟨by simp[i1],λk a f' e1 e2=>?_⟩;cases k with
   |zero=>simp at e1 e2;subst e1;subst e2;exact h0
   |succ k=>exact i2 k a f' (by simpa using e1) (by simpa using e2)
  simp only[C5v]at h;split at h
  .rename_i hc;exact step h (.inl hc)
  .split at h
   .rename_i hf;exact step h (.inr (C2H hf))
   .simp at h
def D1t{fs}{j i}(h:B9G (A0B fs j) (A0B fs i)=false):A1N (A7h fs) j i=false:=by
 simp only[A1N,A7h];revert h;generalize A0B fs j=a;generalize A0B fs i=b;intro h;obtain⟨ac,ar,d,aw,al⟩:=a;obtain⟨bc,br,bs,bw,bl⟩:=b;simp only[B9G]at h|-;have c:∀a b:Nat,Nat.beq a b=false->(a==b)=false:=λa b h=>by rw[Z1b];intro e;subst e;rw[Z4u]at h;simp at h
 split at h
 .simp[A3p]
 .split at h
  .simp[h,A3p]
  .simp[c _ _ h,A3p]
  .simp[c _ _ h,A3p]
  .rename_i e2 e3 e4;(have n2:(bc==2)=false:=by rw[Z1b];exact e2);(have n4:(bc==4)=false:=by rw[Z1b];exact e3);(have n5:(bc==5)=false:=by rw[Z1b];exact e4);simp[n2,n4,n5,A3p]
 .split at h
  .simp at h
  .simp at h
  .simp[h,A3p]
  .rename_i e2 e4 e3;(have n2:(bc==2)=false:=by rw[Z1b];exact e2);(have n1:(bc==1)=false:=by rw[Z1b];exact e3);(have n5:(bc==5)=false:=by rw[Z1b];exact e4);simp[n2,n1,n5,A3p]
 .split at h
  .simp at h
  .simp[c _ _ h,A3p]
  .rename_i e2 e3;(have n2:(bc==2)=false:=by rw[Z1b];exact e2);(have n1:(bc==1)=false:=by rw[Z1b];exact e3);simp[n2,n1,A3p]
 .split at h
  .simp at h
  .simp[c _ _ h,A3p]
  .rename_i e2 e3;(have n2:(bc==2)=false:=by rw[Z1b];exact e2);(have n1:(bc==1)=false:=by rw[Z1b];exact e3);simp[n2,n1,A3p]
 .simp at h
def D1i{ops}{fs}(h:D7z ops fs=true)(g:∀j i,j<i->((A0B fs j).cls=4\/(A0B fs j).cls=5)->((A0B fs i).cls=4\/(A0B fs i).cls=5)->(A0B fs j).slot≠(A0B fs i).slot):A4H ops (A7h fs)=true:=by
 unfold D7z at h;split at h;case h_2=>simp at h
 rename_i r hr;obtain⟨s1,s2⟩:=D0z ops.toList 0 [] r hr rfl (λi j hi=>by simp at hi) (λk o hk=>by simpa using hk);obtain⟨c1,c2⟩:=D0x r fs h;refine Z0t.2 λi hi=>?_;have b:=Z1i.1 hi;have ho:ops[i]?=some ops[i]:=Z0R b;rw[ho];obtain⟨q1,q2⟩:=s2 i ops[i] (by simpa using ho);simp only[Z0I]at q1 q2;simp only[Z0g];refine⟨⟨?_,by simp[A7h]⟩,Z0t.2 λj hj=>?_⟩
 .rw[<-Z3v];refine Z0t.2 λe he=>?_;cases hb:Region.binds .any e with
  |false=>rfl
  |true=>simp[q1 e he hb]
 .have a:=Z1i.1 hj;have hx:ops[j]?=some ops[j]:=Z0R (by omega);rw[hx];simp only[Z0g];refine⟨?_,?_⟩
  .rcases q2 j _ a hx with hc|⟨hc,fr,d,hm⟩
   .rw[C5D hc (by omega)];simp
   ·(have f:fs[i]?=some (A0B fs i):=by(have:i<fs.length:=by rw[<-c1,s1];simpa using b);simp[A0B,Z0l this]);have c:A1N (A7h fs) j i=false:=by
     rcases c2 i fr _ d f with h0|h0
     .simp only[A1N,A7h];simp[h0,A3p]
     .exact D1t (h0 j hm)
    rw[hc,c];simp
  .have:=g j i a;simp only[A7h];cases e1:A3p (A0B fs i).cls with
   |false=>rfl
   |true=>
    cases e2:A3p (A0B fs j).cls with
    |false=>rfl
    |true=>have:=this (A5a.1 e2) (A5a.1 e1);simp[this]
def D1l{fs}:B5G (A5Q fs)=true->∀j i,j<i->((A0B fs j).cls=4\/(A0B fs j).cls=5)->((A0B fs i).cls=4\/(A0B fs i).cls=5)->(A0B fs j).slot≠(A0B fs i).slot:=by
 have mem:∀(fs:List A4V) i,((A0B fs i).cls=4\/(A0B fs i).cls=5)->(A0B fs i).slot∈A5Q fs:=by
  intro fs;induction fs with
  |nil=>intro i h;simp[A0B,F0]at h
  |cons f fs ih=>
   intro i h;cases i with
   |zero=>simp only[A0B,Z2B]at h|-;simp only[A5Q,A5a.2 h];simp
   |succ i=>
    have:=ih i (by simpa[A0B]using h);simp only[A5Q];(have e:(A0B (f::fs) (i+1)).slot=(A0B fs i).slot:=by simp[A0B]);rw[e];split
    .exact Z1W _ this
    .exact this
 induction fs with
 |nil=>intro _ j i _ h;simp[A0B,F0]at h
 |cons f fs ih=>
  intro hn j i b hj hi;have a:B5G (A5Q fs)=true:=by
   simp only[A5Q]at hn;split at hn
   .simp only[B5G,Z0g]at hn;exact hn.2
   .exact hn
  cases i with
  |zero=>omega
  |succ i=>
   cases j with
   |succ j=>have:=ih a j i (by omega) (by simpa[A0B]using hj) (by simpa[A0B]using hi);simpa[A0B]using this
   |zero=>have hm:=mem fs i (by simpa[A0B]using hi);simp only[A0B,Z2B]at hj;simp only[A5Q,A5a.2 hj,B5G,Z0g,Z1Q]at hn;intro e;have e1:(A0B (f::fs) 0).slot=f.slot:=rfl;(have e2:(A0B (f::fs) (i+1)).slot=(A0B fs i).slot:=by simp[A0B]);rw[e1,e2]at e;rw[<-e]at hm;rw[B3P.2 hm]at hn;simp at hn
def A8o(f:A4V)(slot:Nat):Nat:=match f.cls with
 |4=>slot+1
 |_=>slot
def B1f(f:A4V)(slot:Nat):A8o f slot=if f.cls=4 then slot+1 else slot:=by
 unfold A8o;split
 .rename_i h;rw[Z0d h]
 .rename_i h;rw[Z0e (λe=>h e)]
def B1H(call:B4H)(C:Ctx)(ops:Array Oper):List Oper->BT->Mem->Nat->Option (BT×Mem×List A4V)
 |[],t,M,_=>some (t,M,[])
 |o::rest,t,M,slot=>match B1q ops o t with
  |some true=>match A4C call C o (t.fn.ev C) M slot with
   |some (f,v,M')=>match t.set o.dst v with
    |some t'=>match B1H call C ops rest t' M' (A8o f slot)with
     |some (t2,M2,fs)=>some (t2,M2,f::fs)
     |none=>none
    |none=>none
   |none=>none
  |some false=>match t.set o.dst (.val undef)with
   |some t'=>match B1H call C ops rest t' M slot with
    |some (t2,M2,fs)=>some (t2,M2,F0::fs)
    |none=>none
   |none=>none
  |none=>none
def C9c(L:B1c)(k:Nat)(l:List Oper)(fs:List A4V):Prop:=∀j,L.rob (k+j)=(A0B fs j).rob/\(∀i,L.aff i (k+j)=(B7T (L.rob i) (A0B fs j).ws||Nat.ble (A0B fs j).len (L.rob i)))/\((L.cls (k+j)=(A0B fs j).cls/\L.slot (k+j)=(A0B fs j).slot)\/(L.cls (k+j)=5/\(A0B fs j).cls=2/\(A0B fs j).ws=[L.slot (k+j)]/\∃o,l[j]?=some o/\A7V o=true))
def D3j(l:List Oper)(fs:List A4V):C9c (A7h fs) 0 l fs:=λj=>by simp[A7h]
def B3m:∀(l:List Oper) (fs:List A4V) (j:Nat),A0B (A6c l fs) j=A0B fs j\/∃(o:Oper) (rob sl r len:Nat),l[j]?=some o/\A7V o=true/\A0B fs j=⟨2,rob,sl,[r],len⟩/\A0B (A6c l fs) j=⟨5,rob,r,[r],len⟩
 |[],fs,j=>.inl rfl
 |o::l,[],j=>.inl rfl
 |o::l,f::fs,j=>by
  cases j with
  |zero=>
   simp only[A0B,A6c,Z2B];unfold D4I;split
   .rename_i rob sl r len hs;exact .inr ⟨o,rob,sl,r,len,rfl,hs,rfl,rfl⟩
   .exact .inl rfl
  |succ j=>have:=B3m l fs j;simpa[A0B,A6c]using this
def C9k(l:List Oper)(fs:List A4V):C9c (A7h (A6c l fs)) 0 l fs:=λj=>by
 have key:∀i,(A0B (A6c l fs) i).rob=(A0B fs i).rob/\(A0B (A6c l fs) i).ws=(A0B fs i).ws/\(A0B (A6c l fs) i).len=(A0B fs i).len:=λi=>by
  rcases B3m l fs i with h|⟨o,rob,sl,r,len,_,_,h1,h2⟩
  .rw[h];exact⟨rfl,rfl,rfl⟩
  .rw[h1,h2];exact⟨rfl,rfl,rfl⟩
 simp only[A7h,Z0I];refine⟨(key j).1,λi=>by rw[(key j).2.1,(key j).2.2],?_⟩;rcases B3m l fs j with h|⟨o,rob,sl,r,len,h0,hs,h1,h2⟩
 .rw[h];exact .inl ⟨rfl,rfl⟩
 .rw[h1,h2];exact .inr ⟨rfl,rfl,rfl,o,h0,hs⟩
def C9c.tail{L}{k}{o}{l}{f}{fs}(h:C9c L k (o::l) (f::fs)):C9c L (k+1) l fs:=λj=>by have:=h (j+1);rw[show k+(j+1)=k+1+j from by omega]at this;simpa[A0B]using this
def B9f(base:Nat):List A4V->List Nat->List Nat
 |[],ws=>ws
 |f::fs,ws=>B9f base fs (B0W base f.ws ws)
def A3Z:List Oper->Nat
 |[]=>0
 |o::l=>match B2d o with
  |true=>A3Z l+1
  |false=>A3Z l
def C0m{call}{C}(hc:B5l C call){base R}(b:base<=R){ops}:∀(l:List Oper) (t:BT) (M:Mem) (slot:Nat) (t':BT) (M':Mem) (fs:List A4V),B1H call C ops l t M slot=some (t',M',fs)->R<=slot->R<=M.length->
 (∀L k,C9c L k l fs->L.fl=true->A1E C HX ops L k l t.fn M (λT m=>T=t'.fn/\m=M'))/\M.length<=M'.length/\(∀s,s<R->M[s]?=some A1m->M'[s]?=some A1m)/\(∀M0 ws,Old base ws M0 M->Old base (B9f base fs ws) M0 M')/\
 (∀(s:Nat) (X:A0l),s<R->M[s]?=some A1m->B1H call C ops l t (M.set s X) slot=some (t',M'.set s X,fs))/\(∀j,(A0B fs j).cls=4->slot<=(A0B fs j).slot/\(A0B fs j).slot<slot+A3Z l)/\(∀j i,j<i->(A0B fs j).cls=4->(A0B fs i).cls=4->(A0B fs j).slot≠(A0B fs i).slot)/\(∀j,(A0B fs j).cls≠5)
 |[],t,M,slot,t',M',fs,h,hs,hM=>by simp only[B1H,Z0a,Z0c]at h;obtain⟨rfl,rfl,rfl⟩:=h;exact⟨λ_ _ _ _=>⟨rfl,rfl⟩,Z0o _,λ_ _ h=>h,λ_ _ h=>h,λ_ _ _ _=>rfl,λj hj=>by simp[A0B,F0]at hj,λj i _ hj=>by simp[A0B,F0]at hj,λj=>by simp[A0B,F0]⟩
 |o::rest,t,M,slot,t',M',fs,h,hs,hM=>by
  simp only[B1H]at h;split at h
  .rename_i hgd;split at h;(case h_2=>simp at h);rename_i f v M1 ho;split at h;(case h_2=>simp at h);rename_i t1 ht;split at h;(case h_2=>simp at h);rename_i t2 M2 fs1 hr;simp only[Z0a,Z0c]at h;obtain⟨rfl,rfl,rfl⟩:=h;have hD:=C7P hc hs ho;(have e:slot<=A8o f slot:=by rw[B1f];split<;>omega);obtain⟨i1,i2,i3,i4,i5,i6,i7,i8⟩:=C0m hc b rest t1 M1 (A8o f slot) t2 M2 fs1 hr (by omega) (by have:=hD.grow;omega);refine⟨λL k hL hfl=>?_,Z0S hD.grow i2,λs h1 h2=>i3 s h1 (hD.keep s h1 h2),λM0 ws h0=>i4 M0 _ (h0.add (by omega) hD.old),λs X h1 h2=>?_,λj hj=>?_,λj i hji hj hi=>?_,λj=>?_⟩
   .obtain⟨e2,e4,c⟩:=hL 0;simp only[A0B,Z2B,Z0T]at e2 e4 c;simp only[A1E];rw[B2h hgd,Z0d rfl,e2,hfl];have a:∀K:AV->Mem->Prop,K v M1->dOp C HX true (L.cls k) f.rob (L.slot k) o (t.fn.ev C) M K:=λK hk=>by
     rcases c with⟨e1,e3⟩|⟨e1,q1,q2,o',q3,q4⟩
     .rw[e1,e3];exact hD.run K hk
     .simp only[Z2Q,Z0a]at q3;subst q3;rw[e1];exact hD.run5 _ q4 q1 q2 K hk
    refine a _ ⟨λi hi ha=>?_,?_⟩
    .rcases hD.len with h1|h1
     .rw[h1]
     .rw[e4 i]at ha;simp only[Z2l]at ha;refine hD.old _ ?_ (λhm=>?_)
      ·(have:¬(f.len<=L.rob i):=λd=>by rw[Z4m d]at ha;simp at ha);omega
      .rw[B3P.2 hm]at ha;simp at ha
    .rw[<-BT.set_fn ht];exact i1 L (k+1) hL.tail hfl
   .simp only[B1H,hgd,hD.fill s X h1 h2,ht,i5 s X h1 (hD.keep s h1 h2)]
   .cases j with
    |zero=>simp only[A0B,Z2B]at hj|-;obtain⟨h1,h2,_⟩:=hD.slot hj;simp only[A3Z,h2];omega
    |succ j=>
     have:=i6 j (by simpa[A0B]using hj);simp only[A0B,Z3K]at this|-;rw[B1f]at this;simp only[A3Z];by_cases h4:f.cls=4
     .rw[Z0d h4]at this;rw[(hD.slot h4).2.1];simp only;omega
     .rw[Z0e h4]at this;split<;>omega
   .cases i with
    |zero=>omega
    |succ i=>
     cases j with
     |zero=>simp only[A0B,Z2B,Z3K]at hj hi|-;obtain⟨h1,_,_⟩:=hD.slot hj;have:=(i6 i (by simpa[A0B]using hi)).1;rw[B1f,Z0d hj]at this;simp only[A0B]at this;omega
     |succ j=>have:=i7 j i (by omega) (by simpa[A0B]using hj) (by simpa[A0B]using hi);simpa[A0B]using this
   .cases j with
    |zero=>exact hD.no5
    |succ j=>have:=i8 j;simpa[A0B]using this
  .rename_i hgd;split at h;(case h_2=>simp at h);rename_i t1 ht;split at h;(case h_2=>simp at h);rename_i t2 M2 fs1 hr;simp only[Z0a,Z0c]at h;obtain⟨rfl,rfl,rfl⟩:=h;obtain⟨i1,i2,i3,i4,i5,i6,i7,i8⟩:=C0m hc b rest t1 M slot t2 M2 fs1 hr hs hM;refine⟨λL k hL hfl=>?_,i2,i3,λM0 ws h0=>i4 M0 _ h0,λs X h1 h2=>?_,λj hj=>?_,λj i hji hj hi=>?_,λj=>?_⟩
   .simp only[A1E];rw[B2h hgd,Z0e (by simp),<-BT.set_fn ht];exact i1 L (k+1) hL.tail hfl
   .simp only[B1H,hgd,ht,i5 s X h1 h2]
   .cases j with
    |zero=>simp[A0B,F0]at hj
    |succ j=>have:=i6 j (by simpa[A0B]using hj);simp only[A0B,Z3K,A3Z]at this|-;split<;>omega
   .cases i with
    |zero=>omega
    |succ i=>
     cases j with
     |zero=>simp[A0B,F0]at hj
     |succ j=>have:=i7 j i (by omega) (by simpa[A0B]using hj) (by simpa[A0B]using hi);simpa[A0B]using this
   .cases j with
    |zero=>simp[A0B,F0]
    |succ j=>have:=i8 j;simpa[A0B]using this
  .simp at h
def D4a{ops}{fs}(h:okF ops fs=true)(h7:∀j i,j<i->(A0B fs j).cls=4->(A0B fs i).cls=4->(A0B fs j).slot≠(A0B fs i).slot)(h8:∀j,(A0B fs j).cls≠5):∃L:B1c,A4H ops L=true/\C9c L 0 ops.toList fs/\L.fl=true:=by
 unfold okF at h
 split at h
 .rename_i h0;exact⟨A7h fs,D1i h0 (λj i hji h1 h2=>h7 j i hji (h1.resolve_right (h8 j)) (h2.resolve_right (h8 i))),D3j _ fs,rfl⟩
 .simp only[Z0g]at h;exact⟨A7h (A6c ops.toList fs),D1i h.1 (D1l h.2),C9k _ fs,rfl⟩
def B2s:Nat->Mem->Mem
 |0,M=>M
 |n+1,M=>M++List.replicate (n+1) A1m
def B0L(n:Nat)(M:Mem):B2s n M=M++List.replicate n A1m:=by
 cases n with
 |zero=>simp[B2s]
 |succ n=>rfl
abbrev XC:=Exit×BT×Mem×List Nat
def B1b(f:BT->Mem->List Nat->Option XC):Nat->BT->Mem->List Nat->Option XC
 |0,_,_,_=>none
 |n+1,t,M,ws=>match f t M ws with
  |some (.normal,t,M,ws)=>B1b f n t M ws
  |r=>r
def A2p(call:B4H)(C:Ctx)(fuel base:Nat):Code->BT->Mem->List Nat->Option XC
 |.skip,t,M,ws=>some (.normal,t,M,ws)
 |.label _,t,M,ws=>some (.normal,t,M,ws)
 |.region _ ops draw,t,M,ws=>match draw with
  |true=>match B1H call C ops ops.toList t (B2s (A3Z ops.toList) M) M.length with
   |some (t',M',fs)=>match okF ops fs with
    |true=>some (.normal,t',M',B9f base fs ws)
    |false=>none
   |none=>none
  |false=>match B9N call C base ops ops.toList t M ws with
   |some s=>some (.normal,s)
   |none=>none
 |.seq x y,t,M,ws=>match A2p call C fuel base x t M ws with
  |some (.normal,t,M,ws)=>A2p call C fuel base y t M ws
  |r=>r
 |.cond c x y,t,M,ws=>match t.fn.ev C c with
  |.val (.bool true)=>A2p call C fuel base x t M ws
  |.val (.bool false)=>A2p call C fuel base y t M ws
  |_=>none
 |.block id c,t,M,ws=>match A2p call C fuel base c t M ws with
  |some (.exit i,s)=>match Nat.beq i id with
   |true=>some (.normal,s)
   |false=>some (.exit i,s)
  |r=>r
 |.loop c,t,M,ws=>B1b (A2p call C fuel base c) fuel t M ws
 |.exit id,t,M,ws=>some (.exit id,t,M,ws)
 |.ret,t,M,ws=>some (.ret,t,M,ws)
 |_,_,_,_=>none
def A7a(N:Nat):Code->Bool
 |.region _ ops _=>A2m N ops ops.toList
 |.seq x y=>A7a N x&&A7a N y
 |.cond c x y=>Operand.inside N c&&A7a N x&&A7a N y
 |.block _ c=>A7a N c
 |.loop c=>A7a N c
 |_=>true
def A4q{ops}{o}{T}{r r' s s':Prop}(hr:r->r')(hs:s->s')(h:A2o ops o T r s):A2o ops o T r' s':=by
 unfold A2o at h|-;split at h
 .exact hr h
 .split at h
  .split at h
   .split at h
    .rename_i e;rw[Z0d e];exact hr h
    .rename_i e;rw[Z0e e];exact hs h
   .exact hs h
   .exact h.elim
  .exact h.elim
def C2K{C}{h}{o}{K K':AV->Mem->Prop}{ρ:Operand->AV}{M}(hk:∀v m,K v m->K' v m)(hv:A4z C h o K ρ M):A4z C h o K' ρ M:=by
 unfold A4z at hv|-;split at hv
 .split at hv
  .exact hv.mono hk
  .exact hv.elim
 .split at hv
  .obtain⟨e,sz,bytes,h1,h2⟩:=hv;refine⟨e,sz,bytes,h1,?_⟩;split at h2
   .exact hk _ _ h2
   .exact h2.elim
  .exact hv.elim
 .split at hv
  .exact hk _ _ hv
  .exact⟨hv.1,λb=>hk _ _ (hv.2 b)⟩
def B3n{C}{h}{ops}{K K':Env->Mem->Prop}(hk:∀T m,K T m->K' T m):∀(l:List Oper) (T:Env) (M:Mem),A9L C h ops l K T M->A9L C h ops l K' T M
 |[],T,M,hv=>hk _ _ hv
 |o::rest,T,M,hv=>by simp only[A9L]at hv|-;exact A4q (λh1=>C2K (λv m h2=>B3n hk rest _ _ h2) h1) (λh1=>B3n hk rest _ _ h1) hv
def At2(e:Exit)(t:BT)(M:Mem):Exit->Env->Mem->Prop:=λe2 T m=>e2=e/\T=t.fn/\m=M
def D4O{C}{N base}{c}{f:BT->Mem->List Nat->Option XC}(hf:∀t M ws e t' M' ws',base<=M.length->f t M ws=some (e,t',M',ws')->AWp C N c (At2 e t' M') t.fn M/\B3k base (λm=>f t m ws) (λm=>(e,t',m,ws')) M M' ws ws')
 {n}{t}{M}{ws}{e}{t'}{M'}{ws'}(hb:base<=M.length)(h:B1b f n t M ws=some (e,t',M',ws')):AWp C N (.loop c) (At2 e t' M') t.fn M/\B3k base (λm=>B1b f n t m ws) (λm=>(e,t',m,ws')) M M' ws ws':=by
 have key:∀n t M ws,base<=M.length->B1b f n t M ws=some (e,t',M',ws')->B3k base (λm=>B1b f n t m ws) (λm=>(e,t',m,ws')) M M' ws ws'/\∀G w a,Inv C G M w->A3c G N t.fn a->∀b k cs,
  ∃e2 a' w',B3p C N (At2 e t' M') G w e2 a' w'/\Arrives C.P (lone (b.at a (.code c::.inLoop c::k)) cs w) b k cs e2 a' w':=by
  intro n
  induction n with
  |zero=>intro t M ws _ h;simp[B1b]at h
  |succ n ih=>
   intro t M ws hb h
   simp only[B1b]at h
   split at h
   .rename_i t1 M1 ws1 h1;obtain⟨q1,q2⟩:=hf _ _ _ _ _ _ _ hb h1;obtain⟨r1,r2⟩:=ih t1 M1 ws1 (Z0S hb q2.grow) h;refine⟨q2.trans r1 (λA B e=>by simp only[B1b,e]),λG w a hi he b k cs=>?_⟩;obtain⟨e1,a1,w1,⟨T1,m1,G1,⟨rfl,rfl,rfl⟩,g1,i1,g,x1⟩,d⟩:=q1 G w a hi he b (.inLoop c::k) cs;obtain⟨e₂,a₂,w₂,l,i⟩:=r2 G1 w1 a1 i1 g b k cs;exact⟨e₂,a₂,w₂,B3p.mono g1 x1 l,.of_steps (Steps.trans d (.one step_inLoop)) i⟩
   .rename_i hne;obtain⟨q1,q2⟩:=hf _ _ _ _ _ _ _ hb h;(have j:e≠.normal:=by intro e1;subst e1;exact hne _ _ _ h);refine⟨q2.turn (λA B e2=>?_),λG w a hi he b k cs=>?_⟩
    .simp only[B1b,e2];cases e with
     |normal=>exact absurd rfl j
     |_=>rfl
    obtain⟨e1,a1,w1,hq,d⟩:=q1 G w a hi he b (.inLoop c::k) cs;(have g:e1=e:=by obtain⟨T1,m1,G1,⟨h1,_,_⟩,_⟩:=hq;exact h1);subst g;refine⟨_,a1,w1,hq,?_⟩;cases e1 with
    |normal=>exact absurd rfl j
    |_=>exact .pass (x:=.inLoop c) rfl (λ_ _=>.inl (by simp)) d
 obtain⟨k1,k2⟩:=key n t M ws hb h
 refine⟨λG w a hi he b k cs=>?_,k1⟩
 obtain⟨e2,a',w',hq,d⟩:=k2 G w a hi he b k cs
 exact⟨e2,a',w',hq,.of_steps (.one step_loop) d⟩
def C0U{C}{h}{ops}{L}{K K':Env->Mem->Prop}(hk:∀T m,K T m->K' T m):∀(l:List Oper) (k:Nat) (T:Env) (M:Mem),A1E C h ops L k l T M K->A1E C h ops L k l T M K':=by
 have on:∀{α:Type} (o:Option α) (f g:α->Prop),(∀a,f a->g a)->A0L o f->A0L o g:=by
  intro α o f g d ho;cases o with
  |none=>exact ho
  |some a=>exact d a ho
 have b:∀(fl:Bool) (f:Mem->Option (AV×Mem)) (M:Mem) (K K':AV->Mem->Prop),(∀v m,K v m->K' v m)->A5B fl f M K->A5B fl f M K':=by
  intro fl f M K K' hk h;unfold A5B at h|-;split at h
  .exact⟨h.1,hk _ _ h.2⟩
  .exact h
 have j:∀(fl:Bool) (c r s:Nat) (o:Oper) (ρ:Operand->AV) (M:Mem) (K K':AV->Mem->Prop),(∀v m,K v m->K' v m)->dOp C h fl c r s o ρ M K->dOp C h fl c r s o ρ M K':=by
  intro fl c r s o ρ M K K' hk hv;unfold dOp at hv|-;split at hv
  .split at hv
   .split at hv
    .rename_i e;rw[Z0d e];obtain⟨r,q1,q2⟩:=hv;exact⟨r,q1,hk _ _ q2⟩
    .rename_i e;rw[Z0e e];obtain⟨r,M1,q1,q2,q3,q4⟩:=hv;exact⟨r,M1,q1,q2,q3,hk _ _ q4⟩
   .exact hv.elim
  .split at hv
   .obtain⟨e,sz,bytes,h1,i,h2⟩:=hv;exact⟨e,sz,bytes,h1,i,b _ _ _ _ _ hk h2⟩
   .exact hv.elim
  .split at hv
   .rename_i e;rw[Z0d e];exact⟨hv.1,hv.2.1,on _ _ _ (λa h=>hk _ _ h) hv.2.2⟩
   .rename_i e;rw[Z0e e];exact⟨hv.1,b _ _ _ _ _ hk hv.2⟩
  .split at hv
   .rename_i e;rw[Z0d e];exact on _ _ _ (λa h=>hk _ _ h) hv
   .rename_i e;rw[Z0e e];split at hv
    .rename_i e1;rw[Z0d e1];exact⟨hv.1,on _ _ _ (λa h=>hk _ _ h) hv.2⟩
    .rename_i e1;rw[Z0e e1];split at hv
     .rename_i e2;rw[Z0d e2];exact⟨hv.1,on _ _ _ (λa h=>hk _ _ h) hv.2⟩
     .rename_i e2;rw[Z0e e2];exact⟨hv.1,b _ _ _ _ _ hk hv.2⟩
 intro l;induction l with
 |nil=>intro k T M hv;exact hk _ _ hv
 |cons o rest ih=>intro k T M hv;simp only[A1E]at hv|-;exact A4q (λh1=>j _ _ _ _ _ _ _ _ _ (λv m h2=>⟨h2.1,ih _ _ _ h2.2⟩) h1) (λh1=>ih _ _ _ h1) hv
def A6J{call}{C}(b:C.P.follows .mixedOrders=true)(hc:B5l C call){fuel base N}:∀(c:Code) (t:BT) (M:Mem) (ws:List Nat) (e:Exit) (t':BT) (M':Mem) (a:List Nat),A7a N c=true->base<=M.length->
 A2p call C fuel base c t M ws=some (e,t',M',a)->AWp C N c (At2 e t' M') t.fn M/\B3k base (λm=>A2p call C fuel base c t m ws) (λm=>(e,t',m,a)) M M' ws a
 |.skip,t,M,ws,e,t',M',a,_,_,h=>by simp only[A2p,Z0a,Z0c]at h;obtain⟨rfl,rfl,rfl,rfl⟩:=h;exact⟨C6o ⟨rfl,rfl,rfl⟩,.same λ_ _ _=>by simp only[A2p]⟩
 |.label l,t,M,ws,e,t',M',a,_,_,h=>by simp only[A2p,Z0a,Z0c]at h;obtain⟨rfl,rfl,rfl,rfl⟩:=h;exact⟨C2d ⟨rfl,rfl,rfl⟩,.same λ_ _ _=>by simp only[A2p]⟩
 |.region id ops draw,t,M,ws,e,t',M',a,hin,hb,h=>by
  simp only[A7a]at hin;simp only[A2p]at h;cases draw with
  |true=>
   simp only at h;split at h;(case h_2=>simp at h);rename_i t1 M1 fs hd;split at h;(case h_2=>simp at h);rename_i hok;simp only[Z0a,Z0c]at h;obtain⟨rfl,rfl,rfl,rfl⟩:=h;have u:=hd;rw[B0L]at hd;(have d:M.length<=(M++List.replicate (A3Z ops.toList) A1m).length:=by simp);obtain⟨i1,i2,i3,i4,i5,i6,i7,i8⟩:=C0m hc hb ops.toList t _ M.length t1 M1 fs hd (Z0o _) d;obtain⟨L,o,f,r⟩:=D4a hok i7 i8;(have q:∀s,s<M.length->M[s]?=some A1m->(M++List.replicate (A3Z ops.toList) A1m)[s]?=some A1m:=λs h1 h2=>by rw[Z0h h1];exact h2);refine⟨B2a (A3Z ops.toList) (A8d (h:=HX) b L hin o ?_ ?_),⟨Z0S d i2,λs hs=>i3 s (A0x hs) (q s (A0x hs) hs),λhb M0 h0=>i4 M0 ws (λi hi hn=>?_),λs X hs=>?_⟩⟩
   .intro k _ hk;have j:(A0B fs k).cls=4/\L.slot k=(A0B fs k).slot:=by
     have:=(f k).2.2;rw[Z0I]at this;rcases this with⟨q1,q2⟩|⟨q1,_⟩
     .exact⟨q1.symm.trans hk,q2⟩
     .omega
    obtain⟨j1,j2⟩:=i6 k j.1;rw[j.2];rw[Z1n j1,List.getElem?_replicate,Z0d (by omega)]
   .exact C0U (λT m h=>⟨rfl,h⟩) _ _ _ _ (i1 L 0 f r)
   .rw[Z0h (by omega)];exact h0 i hi hn
   .have hl:=A0x hs;have h5:=i5 s X hl (q s hl hs);simp only[A2p,B0L,Z1o];rw[<-Z3F _ _ hl,h5];simp only[hok]
  |false=>simp only at h;split at h;(case h_2=>simp at h);rename_i s hd;simp only[Z0a,Z0c]at h;obtain⟨rfl,rfl⟩:=h;obtain⟨h1,h2⟩:=C4h hc ops.toList t M ws t' M' a hd;refine⟨B9T (h:=HX) hin ?_,h2.turn (λA B e=>by simp only[A2p,e])⟩;exact B3n (λT m h=>⟨rfl,h⟩) _ _ _ h1
 |.seq x y,t,M,ws,e,t',M',a,hin,hb,h=>by
  simp only[A7a,Z0g]at hin;simp only[A2p]at h;split at h
  .rename_i t1 M1 ws1 h1;obtain⟨q1,q2⟩:=A6J b hc x t M ws _ t1 M1 ws1 hin.1 hb h1;obtain⟨r1,r2⟩:=A6J b hc y t1 M1 ws1 e t' M' a hin.2 (Z0S hb q2.grow) h;refine⟨C3t (q1.mono ?_),q2.trans r2 (λA B e=>by simp only[A2p,e])⟩;rintro e2 T m ⟨rfl,rfl,rfl⟩;exact r1
  .rename_i hne;obtain⟨q1,q2⟩:=A6J b hc x t M ws e t' M' a hin.1 hb h;(have p:e≠.normal:=by intro e1;subst e1;exact hne _ _ _ h);refine⟨C3t (q1.mono ?_),q2.turn (λA B e2=>?_)⟩
   .rintro e2 T m ⟨rfl,rfl,rfl⟩;cases e2 with
    |normal=>exact absurd rfl p
    |_=>exact⟨rfl,rfl,rfl⟩
   .simp only[A2p,e2];cases e with
    |normal=>exact absurd rfl p
    |_=>rfl
 |.cond c x y,t,M,ws,e,t',M',a,hin,hb,h=>by
  simp only[A7a,Z0g]at hin;simp only[A2p]at h;split at h
  .rename_i hv;obtain⟨q1,q2⟩:=A6J b hc x t M ws e t' M' a hin.1.2 hb h;exact⟨B9v hin.1.1 hv (λ_=>q1) (λe=>by simp at e),q2.turn (λA B e=>by simp only[A2p,hv];exact e)⟩
  .rename_i hv;obtain⟨q1,q2⟩:=A6J b hc y t M ws e t' M' a hin.2 hb h;exact⟨B9v hin.1.1 hv (λe=>by simp at e) (λ_=>q1),q2.turn (λA B e=>by simp only[A2p,hv];exact e)⟩
  .simp at h
 |.block id c,t,M,ws,e,t',M',a,hin,hb,h=>by
  simp only[A7a]at hin;simp only[A2p]at h;split at h
  .rename_i i s hx;obtain⟨t1,M1,ws1⟩:=s;obtain⟨q1,q2⟩:=A6J b hc c t M ws _ t1 M1 ws1 hin hb hx;split at h
   .rename_i hi;have g:=Z1J hi;simp only[Z0a,Z0c]at h;obtain⟨rfl,rfl,rfl,rfl⟩:=h;refine⟨B2x (q1.mono ?_),q2.turn (λA B e=>by simp only[A2p,e,hi])⟩;rintro e2 T m ⟨rfl,rfl,rfl⟩;simp only[A7w,g,Z0H];exact⟨rfl,rfl,rfl⟩
   .rename_i hi;(have g:i≠id:=by intro e;subst e;rw[Z4u]at hi;simp at hi);simp only[Z0a,Z0c]at h;obtain⟨rfl,rfl,rfl,rfl⟩:=h;refine⟨B2x (q1.mono ?_),q2.turn (λA B e=>by simp only[A2p,e,hi])⟩;rintro e2 T m ⟨rfl,rfl,rfl⟩;simp only[A7w,g,Z1l];exact⟨rfl,rfl,rfl⟩
  .rename_i hne;obtain⟨q1,q2⟩:=A6J b hc c t M ws e t' M' a hin hb h;refine⟨B2x (q1.mono ?_),q2.turn (λA B e2=>?_)⟩
   .rintro e2 T m ⟨rfl,rfl,rfl⟩;cases e2 with
    |exit i=>exact absurd h (hne _ _)
    |_=>exact⟨rfl,rfl,rfl⟩
   .simp only[A2p,e2];cases e with
    |exit i=>exact absurd h (hne _ _)
    |_=>rfl
 |.loop c,t,M,ws,e,t',M',a,hin,hb,h=>by simp only[A7a]at hin;simp only[A2p]at h;obtain⟨q1,q2⟩:=D4O (λt M ws e t' M' a hb h=>A6J b hc c t M ws e t' M' a hin hb h) hb h;exact⟨q1,q2.turn (λA B e=>by simp only[A2p];exact e)⟩
 |.exit id,t,M,ws,e,t',M',a,_,_,h=>by simp only[A2p,Z0a,Z0c]at h;obtain⟨rfl,rfl,rfl,rfl⟩:=h;exact⟨C6C ⟨rfl,rfl,rfl⟩,.same λ_ _ _=>by simp only[A2p]⟩
 |.ret,t,M,ws,e,t',M',a,_,_,h=>by simp only[A2p,Z0a,Z0c]at h;obtain⟨rfl,rfl,rfl,rfl⟩:=h;exact⟨D0o ⟨rfl,rfl,rfl⟩,.same λ_ _ _=>by simp only[A2p]⟩
 |.rangeFunc _ _ _ _,t,M,ws,e,t',M',a,_,_,h=>by simp[A2p]at h
 |.scope _,t,M,ws,e,t',M',a,_,_,h=>by simp[A2p]at h
 |.goto _,t,M,ws,e,t',M',a,_,_,h=>by simp[A2p]at h
 |.refuse _,t,M,ws,e,t',M',a,_,_,h=>by simp[A2p]at h
end Go.Abs
