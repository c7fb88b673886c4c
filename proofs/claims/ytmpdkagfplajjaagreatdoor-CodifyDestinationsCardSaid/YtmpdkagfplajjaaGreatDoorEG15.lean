/- The texts AbsU2, AbsU3, AbsU, AbsV, AbsV2, AbsVo. -/
import Derived.Test.YtmpdkagfplajjaaGreatDoorEG14
set_option linter.all false
namespace Go.Abs
structure A7A (f:Mem->Option (AV×Mem)) (M:Mem) (v:AV) (M1:Mem) (ws:List Nat):Prop where
 grow:M.length<=M1.length
 old:∀i,i<M.length->i∉ws->M1[i]?=M[i]?
 keep:A4G M M1
 fill:∀(s:Nat) (X:A0j),M[s]?=some A1h->f (M.set s X)=some (v,M1.set s X)
def A7A.same{f:Mem->Option (AV×Mem)}{M:Mem}{v:AV}{ws:List Nat}(h:∀(s:Nat) (X:A0j),M[s]?=some A1h->f (M.set s X)=some (v,M.set s X)):A7A f M v M ws:=⟨Z0n _,λ_ _ _=>rfl,λ_ h=>h,h⟩
def A7A.put{f:Mem->Option (AV×Mem)}{M:Mem}{v:AV}{b:Nat}{o ob:A0j}{ws:List Nat}(hb:M[b]?=some ob)(a:ob≠A1h)(hw:b∈ws)(h:∀(s:Nat) (X:A0j),M[s]?=some A1h->f (M.set s X)=some (v,(M.set s X).set b o)):A7A f M v (M.set b o) ws:=by
 have ne:∀s:Nat,M[s]?=some A1h->b≠s:=λs hs e=>by subst e;rw[hb]at hs;simp at hs;exact a hs
 refine⟨by simp,λi hi hn=>?_,λs hs=>?_,λs X hs=>?_⟩
 .rw[Z0f (λe:b=i=>hn (by rw[<-e];exact hw))]
 .rw[Z0f (ne s hs)];exact hs
 .rw[h s X hs,Z4n _ _ (ne s hs).symm]
def A7A.app{f:Mem->Option (AV×Mem)}{M Y:Mem}{v:AV}{ws:List Nat}(h:∀(s:Nat) (X:A0j),M[s]?=some A1h->f (M.set s X)=some (v,M.set s X++Y)):A7A f M v (M++Y) ws:=by refine⟨by simp,λi hi _=>by rw[Z0h hi],λs hs=>by rw[Z0h (A0t hs)];exact hs,λs X hs=>?_⟩;rw[h s X hs,Z3A _ _ (A0t hs)]
def A1M{M:Mem}{s b:Nat}{X ob:A0j}(hs:M[s]?=some A1h)(hb:M[b]?=some ob)(a:ob≠A1h):(M.set s X)[b]?=some ob:=by rw[Z0f (λe=>by subst e;rw[hb]at hs;simp at hs;exact a hs)];exact hb
def A1q{e sz:Nat}{cs:List AV}{g h n:Nat}{a:List (Nat×Nat)}(hn:a.lookup h=some n):A0j.vec e sz cs g a≠A1h:=by intro e;simp only[A1h,A0j.vec.injEq]at e;rw[e.2.2.2.2]at hn;simp at hn
section
variable {M:Mem} {s:Nat} {X:A0j} (hs:M[s]?=some A1h)
include hs
def B3A{a:AV}{cs:List AV}(h:A2L M a=some cs):A2L (M.set s X) a=some cs:=by
 unfold A2L at h|-;split at h
 .exact h
 .rename_i b off;split at h;case h_2=>simp at h
  rename_i t cs' hb;rw[A1M hs hb (by simp[A1h])];exact h
 .rename_i f g off;split at h;case h_2=>simp at h
  rename_i e sz cs' g' hist hb;split at h;case h_2=>simp at h
  rename_i n hn;rw[A1M hs hb (A1q hn)];simp only[hn];exact h
 .simp at h
def A1Q{sz:Nat}{a:AV}{r:List AV×Nat}(h:A0A M sz a=some r):A0A (M.set s X) sz a=some r:=by
 unfold A0A at h|-;split at h
 .exact h
 .exact h
 .exact h
 .rename_i f h' s' lo len;split at h;case h_2=>simp at h
  rename_i e sz' cs' g' hist hb;split at h;case h_2=>simp at h
  rename_i n hn;rw[A1M hs hb (A1q hn)];simp only[hn];exact h
 .simp at h
def B7j{a:AV}{es:List (AV×AV×Nat)}(h:A4r M a=some es):A4r (M.set s X) a=some es:=by
 unfold A4r at h|-;split at h
 .exact h
 .rename_i b;split at h;case h_2=>simp at h
  rename_i es' c hb;rw[A1M hs hb (by simp[A1h])];exact h
 .simp at h
def B4O{P:Program}{t:TypeId}{x:AV}{n:Nat}(h:A2S P t M x=some n):A2S P t (M.set s X) x=some n:=by
 unfold A2S at h|-;split at h
 .rename_i b;split at h;case h_2=>simp at h
  rename_i k e es c hu hb;rw[A1M hs hb (by simp[A1h]),hu];exact h
 .simp at h
end
def A1Y(o:Oper)(ρ:Operand->AV):List Nat:=match o.op with
 |.store _ a _=>match ρ a with|.ptr b _=>[b]|.vptr f _ _=>[f]|_=>[]
 |.mapUpdate _ m _ _=>match ρ m with|.mapr b=>[b]|_=>[]
 |.insert _ m _ _=>match ρ m with|.mapr b=>[b]|_=>[]
 |.next x _=>match ρ x with|.ptr b _=>[b]|_=>[]
 |.call {callee:=.builtin _,args,..}=>match args.toList with
  |d::_=>match ρ d with|.vref f _ _ _ _=>[f]|.vptr f _ _=>[f]|_=>[]
  |[]=>[]
 |_=>[]
def C2I{C:Ctx}{h:A2r}{o:Oper}{ρ:Operand->AV}{M M':Mem}{v:AV}(he:A0T C h o ρ M=some (v,M')):A7A (A0T C h o ρ) M v M' (A1Y o ρ):=by
 obtain⟨d,op,t,p,af,g⟩:=o;have c:=he;unfold A0T at he;simp only at he;split at he
 .rename_i ty x;split at he;case h_3=>simp at he
  all_goals
   rename_i hx
   simp only[Z0i,Z0c,Z1M]at he
   obtain⟨u,⟨cs,h1,h2⟩,rfl,rfl⟩:=he
   refine .same λs X hs=>?_
   simp only[A0T,hx,B3A hs h1,Z2y,h2,Z0M]
 .rename_i ty a x;split at he;case h_3=>simp at he
  .rename_i b off hb;split at he;(case h_2=>simp at he);rename_i bt cs hM;split at he;(case isFalse=>simp at he);rename_i hc;simp only[Z0a,Z0c]at he;obtain⟨rfl,rfl⟩:=he;refine .put hM (by simp[A1h]) (by simp[A1Y,hb]) λs X hs=>?_;simp only[A0T,hb,A1M hs hM (by simp[A1h]),hc,Z0F]
  .rename_i f g' off hb;split at he;(case h_2=>simp at he);rename_i vt sz cs g2 hist hM;split at he;(case h_2=>simp at he);rename_i n hn;split at he;(case isFalse=>simp at he);rename_i hc;simp only[Z0a,Z0c]at he;obtain⟨rfl,rfl⟩:=he;refine .put hM (A1q hn) (by simp[A1Y,hb]) λs X hs=>?_;simp only[A0T,hb,A1M hs hM (A1q hn),hn,hc,Z0F]
 .rename_i e;split at he;case h_2=>simp at he
  rename_i z hz;split at he;case isFalse=>simp at he
  rename_i hc;simp only[Z0a,Z0c]at he;obtain⟨rfl,rfl⟩:=he;refine .app λs X hs=>?_;simp only[A0T,hz,hc,Z0F,Z1l]
 .rename_i e x;split at he;case isFalse=>simp at he
  rename_i hc;simp only[Z0a,Z0c]at he;obtain⟨rfl,rfl⟩:=he;refine .app λs X hs=>?_;simp only[A0T,hc,Z0F,Z1l]
 .simp at he
def B2v{P:Program}{t:TypeId}{m k:AV}{ok:Bool}{M:Mem}{s:Nat}{X:A0j}(hs:M[s]?=some A1h){v:AV}(h:A1z P t M m k ok=some v):A1z P t (M.set s X) m k ok=some v:=by
 unfold A1z at h|-;cases he:A4r M m with
 |none=>rw[he]at h;cases hk:A7m P t<;>rw[hk]at h<;>simp at h
 |some es=>rw[B7j hs he];rw[he]at h;exact h
def B5Q{P:Program}{t:TypeId}{m k x v0:AV}{M M':Mem}{ws:List Nat}(h:A1o P t M m k x=some M')(hw:∀b,m=.mapr b->b∈ws):A7A (λM=>(A1o P t M m k x).map λM'=>(v0,M')) M v0 M' ws:=by
 have key:∃b es c o,m=.mapr b/\M[b]?=some (.map es c)/\M'=M.set b o/\∀M2:Mem,M2[b]?=some (.map es c)->A1o P t M2 m k x=some (M2.set b o):=by
  unfold A1o at h;split at h;case h_2=>simp at h
  rename_i kt et b hkv;split at h;case h_2=>simp at h
  rename_i es clock hM;split at h;case isFalse=>simp at h
  rename_i hc;split at h
  .rename_i i e0 hf;split at h;(case h_2=>simp at h);rename_i ok e1 born hes;split at h;(case h_2=>simp at h);rename_i a c ha hc2;split at h;(case isFalse=>simp at h);rename_i hsb;simp only[Z0a]at h;subst h;exact⟨b,es,clock,_,rfl,hM,rfl,λM2 h2=>by simp only[A1o,hkv,h2,hc,Z0F,hf,hes,ha,hc2,hsb]⟩
  .rename_i hf;simp only[Z0a]at h;subst h;exact⟨b,es,clock,_,rfl,hM,rfl,λM2 h2=>by simp only[A1o,hkv,h2,hc,Z0F,hf]⟩
  .simp at h
 obtain⟨b,es,c,o,hm,hM,rfl,hf⟩:=key;refine .put hM (by simp[A1h]) (hw b hm) λs X hs=>?_;simp only[hf _ (A1M hs hM (by simp[A1h])),Z0M]
def D1s{P:Program}{t u:TypeId}{d s0 v:AV}{M M':Mem}{ws:List Nat}(h:A5o P t u M d s0=some (v,M'))(hw:∀f g sz lo len,d=.vref f g sz lo len->f∈ws):A7A (λM=>A5o P t u M d s0) M v M' ws:=by
 unfold A5o at h;split at h;case h_2=>simp at h
 rename_i e he;split at h;case h_2=>simp at h
 rename_i sz hsz;split at h;case h_2=>simp at h
 rename_i news m hsrc;split at h;case h_2=>simp at h
 rename_i f g sz' lo len;split at h;case h_2=>simp at h
 rename_i ety sz2 cs g' hist hM;split at h;case h_2=>simp at h
 rename_i n hn;split at h;case isFalse=>simp at h
 rename_i hc;split at h
 .rename_i h0;simp only[Z0a,Z0c]at h;obtain⟨rfl,rfl⟩:=h;refine .same λs X hs=>?_;simp only[A5o,he,hsz,A1Q hs hsrc,A1M hs hM (A1q hn),hn,Z0d hc,Z0d h0]
 .rename_i h0;simp only[Z0a,Z0c]at h;obtain⟨rfl,rfl⟩:=h;refine .put hM (A1q hn) (hw _ _ _ _ _ rfl) λs X hs=>?_;simp only[A5o,he,hsz,A1Q hs hsrc,A1M hs hM (A1q hn),hn,Z0d hc,Z0e h0]
def C3P{P}{t:TypeId}{n}{parts}{v}{M M'}{ws}(h:A1H P t n parts M=some (v,M')):A7A (A1H P t n parts) M v M' ws:=by
 unfold A1H at h;split at h;case h_2=>simp at h
 rename_i e he;split at h;case h_2=>simp at h
 rename_i sz z hs hz;split at h;case isFalse=>simp at h
 rename_i hc;simp only[Z0i,Z0c]at h;obtain⟨rows,hr,rfl,rfl⟩:=h;refine .app λs X hs'=>?_;simp only[A1H,he,hs,hz,Z0d hc,hr,Z0M,Z1l]
def C8z{P}{t:TypeId}{l c v}{M M'}{ws}(h:A4f P t l c M=some (v,M')):A7A (A4f P t l c) M v M' ws:=by
 unfold A4f at h;split at h;case h_2=>simp at h
 rename_i e kl l kc c he;split at h;case h_2=>simp at h
 rename_i sz z b hs hz hb;split at h;case isFalse=>simp at h
 rename_i hc;simp only[Z0a,Z0c]at h;obtain⟨rfl,rfl⟩:=h;refine .app λs X hs'=>?_;simp only[A4f,he,hs,hz,hb,Z0d hc,Z1l]
def C0g{C:Ctx}{h:A2r}{o:Oper}{ρ:Operand->AV}{M M':Mem}{v:AV}(he:A0P C h o ρ M=some (v,M')):A7A (A0P C h o ρ) M v M' (A1Y o ρ):=by
 obtain⟨d,op,t,p,af,g⟩:=o;unfold A0P at he;simp only at he;split at he
 .rename_i ty n parts;split at he;case isFalse=>simp at he
  rename_i hv;have e:A0P C h ⟨d,.buildSlice ty n parts,t,p,af,g⟩ ρ=A1H C.P ty n (parts.toList.map λp=>(p.1,ρ p.2)):=by funext M2;simp only[A0P,hv,Z0F]
  rw[e];exact C3P he
 .rename_i ty l c;exact C8z he
 .rename_i ty;simp only[Z0a,Z0c]at he;obtain⟨rfl,rfl⟩:=he;refine .app λs X hs=>?_;simp only[A0P,Z1l]
 .rename_i ty m k ok;simp only[Z0i,Z0c]at he;obtain⟨v',hv,rfl,rfl⟩:=he;refine .same λs X hs=>?_;simp only[A0P,B2v hs hv,Z0M]
 .rename_i ty m k x;simp only[Z0i,Z0c]at he;obtain⟨M2,i,rfl,rfl⟩:=he;exact B5Q i (λb hb=>by simp[A1Y,hb])
 .rename_i ty m k x;simp only[Z0i,Z0c]at he;obtain⟨M2,i,rfl,rfl⟩:=he;exact B5Q i (λb hb=>by simp[A1Y,hb])
 .rename_i b args ts;have e:A0P C h ⟨d,.call {callee:=.builtin b,args:=args,argTypes:=ts},t,p,af,g⟩ ρ=A2b C.P b ts.toList (args.toList.map ρ):=rfl;rw[e];unfold A2b at he;split at he
  .rename_i t' x hts hargs;simp only[Z0i,Z0c]at he;obtain⟨n,hn,rfl,rfl⟩:=he;cases hl:A2S C.P t' M x with
   |none=>rw[hl]at hn;simp at hn
   |some m=>refine .same λs X hs=>?_;rw[hts,hargs];rw[hl]at hn;simp only[A2b,B4O hs hl];rw[hn];rfl
  .rename_i t' hts hargs;split at he
   .rename_i hu;simp only[Z0a,Z0c]at he;obtain⟨rfl,rfl⟩:=he;refine .same λs X hs=>?_;rw[hts,hargs];simp only[A2b,hu]
   .simp at he
  .rename_i t' u x s0 hts hargs;rw[hts,hargs];refine D1s he (λf g sz lo len hx=>?_);cases hl:args.toList with
   |nil=>rw[hl]at hargs;simp at hargs
   |cons a l=>rw[hl]at hargs;simp only[Z0t,Z1d]at hargs;simp only[A1Y,hl];rw[hargs.1,hx];simp
  .simp at he
 .simp at he
def C7k{C:Ctx}{o:Oper}{ρ:Operand->AV}{M M':Mem}{v:AV}(he:A2G C o ρ M=some (v,M')):A7A (A2G C o ρ) M v M' (A1Y o ρ):=by
 obtain⟨d,op,t,p,af,g⟩:=o;unfold A2G at he;simp only at he;split at he
 .rename_i ty x;unfold A6e at he;split at he;case h_2=>simp at he
  rename_i str hu hx;simp only[Z0a,Z0c]at he;obtain⟨rfl,rfl⟩:=he;refine .app λs X hs=>?_;simp only[A2G,A6e,hu,hx,Z1l]
 .rename_i x;unfold A5m at he;split at he;case h_2=>simp at he
  rename_i b hx;split at he;case h_2=>simp at he
  rename_i str pos hM;split at he
  .rename_i hlt;simp only[Z0a,Z0c]at he;obtain⟨rfl,rfl⟩:=he;refine .put hM (by simp[A1h]) (by simp[A1Y,hx]) λs X hs=>?_;simp only[A2G,hx,A5m,A1M hs hM (by simp[A1h]),Z0d hlt]
  .rename_i hlt;simp only[Z0a,Z0c]at he;obtain⟨rfl,rfl⟩:=he;refine .same λs X hs=>?_;simp only[A2G,hx,A5m,A1M hs hM (by simp[A1h]),Z0e hlt]
 .rename_i ty x lo hi mx;simp only[Z0i,Z0c]at he;obtain⟨v',hv,rfl,rfl⟩:=he;refine .same λs X hs=>?_;have key:A2Y C.P ty (M.set s X) (ρ x) (lo.map ρ) (hi.map ρ) (mx.map ρ)=some v':=by unfold A2Y at hv|-;split at hv;(case h_2=>simp at hv);rename_i f g' sz lo0 len;split at hv;(case h_2=>simp at hv);rename_i hA e1 s1 cs g1 hist hM hM2;split at hv;(case h_2=>simp at hv);rename_i n hn;simp only[hM,A1M hs hM2 (A1q hn),hn];exact hv
  simp only[A2G,key,Z0M]
 .rename_i a b x;split at he
  .rename_i v' hv;simp only[Z0a,Z0c]at he;obtain⟨rfl,rfl⟩:=he;refine .same λs X hs=>?_;simp only[A2G,hv]
  .rename_i hnone;simp only[Z0i,Z0c]at he;obtain⟨v',hv,rfl,rfl⟩:=he;refine .same λs X hs=>?_;have key:B5T C.P a b (M.set s X) (ρ x)=some v':=by
    unfold B5T at hv|-;split at hv
    .split at hv;(case h_2=>simp at hv);rename_i bt cs n hM hn;rw[A1M hs hM (by simp[A1h])];simp only[hn];exact hv
    .split at hv;(case h_2=>simp at hv);rename_i bt cs n hM hn;rw[A1M hs hM (by simp[A1h])];simp only[hn];exact hv
    .simp at hv
   simp only[A2G,hnone,key,Z0M]
 .rename_i b args ts;have e:A2G C ⟨d,.call {callee:=.builtin b,args:=args,argTypes:=ts},t,p,af,g⟩ ρ=A3b C.P b ts.toList (args.toList.map ρ):=rfl;rw[e];have hd:∀x l,args.toList.map ρ=x::l->∀f,(∃g' sz lo len,x=.vref f g' sz lo len)\/(∃g' off,x=.vptr f g' off)->f∈A1Y ⟨d,.call {callee:=.builtin b,args:=args,argTypes:=ts},t,p,af,g⟩ ρ:=by
   intro x l hl f hf;cases ha:args.toList with
   |nil=>rw[ha]at hl;simp at hl
   |cons a l2=>rw[ha]at hl;simp only[Z0t,Z1d]at hl;simp only[A1Y,ha];rw[hl.1];rcases hf with⟨_,_,_,_,rfl⟩|⟨_,_,rfl⟩<;>simp
  unfold A3b at he;split at he
  .rename_i ty x hts hargs;rw[hts,hargs];unfold A5d at he;split at he;(case h_2=>simp at he);rename_i f g' sz lo len;split at he;(case h_2=>simp at he);rename_i e0 hel;split at he;(case h_2=>simp at he);rename_i z ety sz2 cs g2 hist hz hM;split at he;(case h_2=>simp at he);rename_i n hn;split at he;(case isFalse=>simp at he);rename_i hc;split at he
   .rename_i h0;simp only[Z0a,Z0c]at he;obtain⟨rfl,rfl⟩:=he;refine .same λs X hs=>?_;simp only[A3b,A5d,hel,hz,A1M hs hM (A1q hn),hn,Z0d hc,Z0d h0]
   .rename_i h0;simp only[Z0a,Z0c]at he;obtain⟨rfl,rfl⟩:=he;refine .put hM (A1q hn) (hd _ _ hargs f (.inl ⟨_,_,_,_,rfl⟩)) λs X hs=>?_;simp only[A3b,A5d,hel,hz,A1M hs hM (A1q hn),hn,Z0d hc,Z0e h0]
  .rename_i x hargs;simp only[Z0i,Z0c]at he;obtain⟨v',hv,rfl,rfl⟩:=he;refine .same λs X hs=>?_;rw[hargs];have key:A3x (M.set s X) x=some v':=by
    unfold A3x at hv|-;split at hv
    .exact hv
    .split at hv;(case h_2=>simp at hv);rename_i ety sz2 cs g2 hist hM;split at hv;(case h_2=>simp at hv);rename_i n hn;simp only[A1M hs hM (A1q hn),hn];exact hv
    .simp at hv
   simp only[A3b,key,Z0M]
  .rename_i pt it pp nn hts hargs;rw[hts,hargs];unfold A2k at he;split at he;(case h_2=>simp at he);rename_i n;split at he
   .rename_i h0;subst h0;refine ?_;split at he
    .simp only[Z0a,Z0c]at he;obtain⟨rfl,rfl⟩:=he;exact .same λs X hs=>by simp only[A3b,A2k,Z0F]
    .simp only[Z0a,Z0c]at he;obtain⟨rfl,rfl⟩:=he;exact .same λs X hs=>by simp only[A3b,A2k,Z0F]
    .simp at he
   .rename_i h0;split at he;(case h_2=>simp at he);rename_i f g' off;split at he;(case h_2=>simp at he);rename_i e0 ety cs g2 hist hu hM;split at he;(case h_2=>simp at he);rename_i m hm;split at he;(case isFalse=>simp at he);rename_i hc;split at he;(case h_2=>simp at he);rename_i l hl;simp only[Z0a,Z0c]at he;obtain⟨rfl,rfl⟩:=he;refine .put hM (A1q hm) (hd _ _ hargs f (.inr ⟨_,_,rfl⟩)) λs X hs=>?_;simp only[A3b,A2k,Z0e h0,hu,A1M hs hM (A1q hm),hm,Z0d hc,hl]
  .simp at he
 .simp at he
def A7A.of{f g:Mem->Option (AV×Mem)}{M M1}{v}{ws}(h:A7A f M v M1 ws)(a:∀M2 v M',f M2=some (v,M')->g M2=some (v,M')):A7A g M v M1 ws:=⟨h.grow,h.old,h.keep,λs X hs=>a _ _ _ (h.fill s X hs)⟩
def C2Q{C}{h}{o}{ρ:Operand->AV}{M}{r}(he:A0P C h o ρ M=some r):∀M2,A0T C h o ρ M2=none:=by obtain⟨d,op,t,p,af,g⟩:=o;intro M2;cases op<;>first|rfl|(simp[A0P]at he;done)
def C8x{C}{h}{o}{ρ:Operand->AV}{M}{r}(he:A2G C o ρ M=some r):∀M2,A0T C h o ρ M2=none/\A0P C h o ρ M2=none:=by
 obtain⟨d,op,t,p,af,g⟩:=o;intro M2;cases op<;>first|exact⟨rfl,rfl⟩|(simp[A2G]at he;done)|skip
 case call c=>
  obtain⟨callee,args,ts⟩:=c;cases callee with
  |builtin b=>refine⟨rfl,?_⟩;cases b<;>first|rfl|(simp[A2G,A3b]at he;done)
  |_=>simp[A2G]at he
def B0W{C}{h}{o}{ρ:Operand->AV}{v}(he:A0B C o ρ=some v):∀M2,A0T C h o ρ M2=none/\A0P C h o ρ M2=none:=by obtain⟨d,op,t,p,af,g⟩:=o;intro M2;cases op<;>first|exact⟨rfl,rfl⟩|(simp[A0B]at he;done)
def A8G{C}{h}{o}{ρ:Operand->AV}{M M'}{v}(he:A0w C h o ρ M=some (v,M')):A7A (A0w C h o ρ) M v M' (A1Y o ρ):=by
 unfold A0w at he;split at he
 .rename_i u hu;simp only[Z0a,Z0c]at he;obtain⟨rfl,rfl⟩:=he;exact .same λs X hs=>by simp only[A0w,hu]
 rename_i hp;split at he
 .rename_i r hr;simp only[Z0a]at he;subst he;exact(C2I hr).of λM2 v2 M3 h2=>by simp only[A0w,hp,h2]
 split at he
 .rename_i r hr;simp only[Z0a]at he;subst he;exact(C0g hr).of λM2 v2 M3 h2=>by simp only[A0w,hp,C2Q hr,h2]
 split at he
 .rename_i u hu;simp only[Z0a,Z0c]at he;obtain⟨rfl,rfl⟩:=he;have h1:=B0W (h:=h) hu;exact .same λs X hs=>by simp only[A0w,hp,(h1 _).1,(h1 _).2,hu]
 .rename_i hp1;have h1:=C8x (h:=h) he;exact(C7k he).of λM2 v2 M3 h2=>by simp only[A0w,hp,(h1 _).1,(h1 _).2,hp1,h2]
def A5f(s:AV):List Nat:=match s with
 |.vref f _ _ _ _=>[f]
 |_=>[]
def C6m{e:TypeId}{sz}{s0 x v}{M M'}(h:A3a e sz s0 x M=some (v,M')):A7A (A3a e sz s0 x) M v M' (A5f s0):=by
 unfold A3a at h;split at h;case h_2=>simp at h
 rename_i news m f h' s' lo len hsrc;split at h;case h_2=>simp at h
 rename_i e2 s2 cs g hist hM;split at h;case h_2=>simp at h
 rename_i n hn;split at h;case isFalse=>simp at h
 rename_i hc;simp only[Z0a,Z0c]at h;obtain⟨rfl,rfl⟩:=h;refine .put hM (A1q hn) (by simp[A5f]) λs X hs=>?_;simp only[A3a,A1Q hs hsrc,A1M hs hM (A1q hn),hn,Z0d hc]
def C6a{e:TypeId}{sz}{s0 x v}{M M'}(h:A2H e sz s0 x M=some (v,M')):A7A (A2H e sz s0 x) M v M' (A5f s0):=by
 unfold A2H at h;split at h
 .simp at h
 rename_i news m hsrc;split at h
 .split at h
  .rename_i h0;simp only[Z0a,Z0c]at h;obtain⟨rfl,rfl⟩:=h;exact .same λs X hs=>by simp only[A2H,A1Q hs hsrc,Z0d h0]
  .rename_i h0;simp only[Z0a,Z0c]at h;obtain⟨rfl,rfl⟩:=h;exact .app λs X hs=>by simp only[A2H,A1Q hs hsrc,Z0e h0,Z1l]
 .split at h;case isFalse=>simp at h
  rename_i hss;split at h
  .rename_i h0;simp only[Z0a,Z0c]at h;obtain⟨rfl,rfl⟩:=h;exact .same λs X hs=>by simp only[A2H,A1Q hs hsrc,Z0d hss,Z0d h0]
  .rename_i h0;simp only[Z0a,Z0c]at h;obtain⟨rfl,rfl⟩:=h;exact .app λs X hs=>by simp only[A2H,A1Q hs hsrc,Z0d hss,Z0e h0,Z1l]
 .rename_i f h' s' lo len;split at h;case h_2=>simp at h
  rename_i e2 s2 cs g hist hM;split at h;case h_2=>simp at h
  rename_i n hn;split at h;case isFalse=>simp at h
  rename_i hc;split at h
  .rename_i h0;simp only[Z0a,Z0c]at h;obtain⟨rfl,rfl⟩:=h;exact .same λs X hs=>by simp only[A2H,A1Q hs hsrc,A1M hs hM (A1q hn),hn,Z0d hc,Z0d h0]
  .rename_i h0;simp only[Z0a,Z0c]at h;obtain⟨rfl,rfl⟩:=h;exact .put hM (A1q hn) (by simp[A5f]) λs X hs=>by simp only[A2H,A1Q hs hsrc,A1M hs hM (A1q hn),hn,Z0d hc,Z0e h0]
 .simp at h
inductive BT where
 |leaf (v:AV)
 |node (l r:BT)
def BT.get:BT->Nat->AV
 |.leaf v,n=>match n with|0=>v|_=>.poison
 |.node l r,n=>match n%2 with
  |0=>l.get (n/2)
  |_=>r.get (n/2)
def BT.put:BT->Nat->AV->Option BT
 |.leaf _,n,v=>match n with|0=>some (.leaf v)|_=>none
 |.node l r,n,v=>match n%2 with
  |0=>match l.put (n/2) v with|some l=>some (.node l r)|none=>none
  |_=>match r.put (n/2) v with|some r=>some (.node l r)|none=>none
def BT.mk:Nat->BT
 |0=>.leaf .poison
 |k+1=>.node (BT.mk k) (BT.mk k)
def BT.get_put:∀(t t':BT) (n:Nat) (v:AV),t.put n v=some t'->∀m,t'.get m=if m=n then v else t.get m
 |.leaf u,t',n,v,h,m=>by
  simp only[BT.put]at h;split at h
  .simp only[Z0a]at h;subst h;by_cases e:m=0
   .subst e;simp[BT.get]
   .rw[Z0e e];cases m with
    |zero=>exact absurd rfl e
    |succ m=>rfl
  .simp at h
 |.node l r,t',n,v,h,m=>by
  simp only[BT.put]at h;split at h
  .rename_i a;split at h
   .rename_i l' hl;simp only[Z0a]at h;subst h;have ih:=BT.get_put l l' (n/2) v hl (m/2);simp only[BT.get];split
    .rw[ih];rename_i b;by_cases e:m/2=n/2
     ·(have:m=n:=by omega);rw[Z0d e,Z0d this]
     ·(have:¬m=n:=by intro h;subst h;exact e rfl);rw[Z0e e,Z0e this]
    .rename_i b;(have:¬m=n:=by intro h;subst h;exact b a);rw[Z0e this]
   .simp at h
  .rename_i a;split at h
   .rename_i r' hr;simp only[Z0a]at h;subst h;have ih:=BT.get_put r r' (n/2) v hr (m/2);simp only[BT.get];split
    .rename_i b;rw[Z0e (by intro e;subst e;exact a b)]
    .rename_i b;rw[ih];by_cases e:m/2=n/2
     ·(have:m=n:=by have a':¬n%2=0:=a;have b':¬m%2=0:=b;omega);rw[Z0d e,Z0d this]
     ·(have:¬m=n:=by intro h;subst h;exact e rfl);rw[Z0e e,Z0e this]
   .simp at h
def BT.get_mk:∀(k n:Nat),(BT.mk k).get n=.poison
 |0,n=>by cases n<;>rfl
 |k+1,n=>by simp only[BT.get,BT.mk];split<;>exact BT.get_mk k _
def BT.fn(t:BT):Env:=t.get
def BT.set(t:BT)(d:Option Nat)(v:AV):Option BT:=match d with
 |none=>some t
 |some d=>t.put d v
def BT.set_fn{t t':BT}{d:Option Nat}{v:AV}(h:t.set d v=some t'):t'.fn=t.fn.put d v:=by
 cases d with
 |none=>simp only[BT.set,Z0a]at h;subst h;rfl
 |some d=>funext j;exact BT.get_put t t' d v h j
def BT.args:List AV->Nat->BT->Option BT
 |[],_,t=>some t
 |a::l,i,t=>match t.put i a with
  |some t=>BT.args l (i+1) t
  |none=>none
def BT.args_fn:∀(l:List AV) (i:Nat) (t t':BT),BT.args l i t=some t'->∀j,t'.get j=if i<=j/\j<i+l.length then l.getD (j-i) .poison else t.get j
 |[],i,t,t',h,j=>by simp only[BT.args,Z0a]at h;subst h;rw[Z0e (by simp only[Z1z];omega)]
 |a::l,i,t,t',h,j=>by
  simp only[BT.args]at h;split at h
  .rename_i t1 h1;rw[BT.args_fn l (i+1) t1 t' h j,BT.get_put _ _ _ _ h1];by_cases e:j=i
   .subst e;rw[Z0e (by omega),Z0d rfl,Z0d (by simp)];simp
   .by_cases e2:i+1<=j/\j<i+1+l.length
    .rw[Z0d e2,Z0d (by simp only[Z0v];omega)];obtain⟨m,rfl⟩:∃m,j=i+1+m:=⟨j-(i+1),by omega⟩;rw[show i+1+m-(i+1)=m from by omega,show i+1+m-i=m+1 from by omega];simp
    .rw[Z0e e2,Z0e e,Z0e (by simp only[Z0v];omega)]
  .simp at h
def BT.args_of{k}{l}{t}(h:BT.args l 0 (BT.mk k)=some t):t.fn=Env.of l:=by
 funext j;show t.get j=_;rw[BT.args_fn l 0 _ _ h j];simp only[Z3a,Z2n,Z0G,Nat.sub_zero,Env.of];split
 .rfl
 .rename_i hj;rw[BT.get_mk,Z1v,Z1c (by omega)];rfl
def C4G{e:TypeId}{sz b}{s0 x}{M}{X}{r1 r2}(hs:M[b]?=some A1h)(h1:A0A M sz s0=some r1)(h2:A0A M sz x=some r2)(h:A3a e sz s0 x M=none):A3a e sz s0 x (M.set b X)=none:=by
 cases s0 with
 |vref f h' s' lo len=>
  simp only[A0A]at h1;split at h1;case h_2=>simp at h1
  rename_i e2 s2 cs g hist hM;split at h1;case h_2=>simp at h1
  rename_i n hn;simp only[A3a,h2,hM,hn]at h;simp only[A3a,A1Q hs h2,A1M hs hM (A1q hn),hn];split at h
  .simp at h
  .rename_i hc;rw[Z0e hc]
 |_=>simp[A3a]
def B6x{e:TypeId}{sz bytes}{s0 x v}{M M'}(hv:A8u true s0=true)(h:A3h false true e sz bytes s0 x M=some (v,M')):A7A (A3h false true e sz bytes s0 x) M v M' (A5f s0):=by
 unfold A3h at h;rw[Z0d hv]at h;split at h;case h_2=>simp at h
 rename_i c1 k c2 m h1 h2;split at h;case isFalse=>simp at h
 rename_i hb;split at h
 .rename_i r hr;simp only[Z0a]at h;subst h;have ha:=C6m hr;exact⟨ha.grow,ha.old,ha.keep,λs X hs=>by simp only[A3h,Z0d hv,A1Q hs h1,A1Q hs h2,Z0d hb,ha.fill s X hs]⟩
 .rename_i hr;have ha:=C6a h;exact⟨ha.grow,ha.old,ha.keep,λs X hs=>by simp only[A3h,Z0d hv,A1Q hs h1,A1Q hs h2,Z0d hb,C4G hs h1 h2 hr,ha.fill s X hs]⟩
def HX:A2r:=⟨λ_=>false,λ_=>false,λ_=>true⟩
abbrev XR:=AV×Mem×List Nat
abbrev B4C:=FuncId->List AV->Mem->Option XR
structure A9l (f:Mem->Option XR) (M:Mem) (v:AV) (M1:Mem) (ws:List Nat):Prop where
 grow:M.length<=M1.length
 old:∀i,i<M.length->i∉ws->M1[i]?=M[i]?
 keep:A4G M M1
 fill:∀(s:Nat) (X:A0j),M[s]?=some A1h->f (M.set s X)=some (v,M1.set s X,ws)
def A7A.x{f:Mem->Option (AV×Mem)}{M M1}{v}{ws}(h:A7A f M v M1 ws){g:Mem->Option XR}(hg:∀M2 M3,f M2=some (v,M3)->g M2=some (v,M3,ws)):A9l g M v M1 ws:=⟨h.grow,h.old,h.keep,λs X hs=>hg _ _ (h.fill s X hs)⟩
def A9l.same{f:Mem->Option XR}{M:Mem}{v:AV}{ws:List Nat}(h:∀(s:Nat) (X:A0j),M[s]?=some A1h->f (M.set s X)=some (v,M.set s X,ws)):A9l f M v M ws:=⟨Z0n _,λ_ _ _=>rfl,λ_ h=>h,h⟩
def A8F{M}{p}{l}(hb:B0z M (p::l)):M[p.1]?=some A1h/\B0z (M.set p.1 p.2) l:=by obtain⟨h1,h2⟩:=hb;simp only[Z0t,Z1J]at h2;refine⟨h1 p (by simp),λq hq=>?_,h2.2⟩;rw[Z0f (λe=>h2.1 (by rw[e];exact List.mem_map_of_mem hq))];exact h1 q (by simp[hq])
def C4A{f:Mem->Option XR}(ha:∀M v M1 ws,f M=some (v,M1,ws)->A9l f M v M1 ws):∀(l:List (Nat×A0j)) (M M1:Mem) (v:AV) (ws:List Nat),f M=some (v,M1,ws)->B0z M l->f (Go.Abs.fill M l)=some (v,Go.Abs.fill M1 l,ws)
 |[],M,M1,v,ws,h,_=>h
 |p::l,M,M1,v,ws,h,hb=>by obtain⟨h1,h2⟩:=A8F hb;exact C4A ha l (M.set p.1 p.2) (M1.set p.1 p.2) v ws ((ha _ _ _ _ h).fill p.1 p.2 h1) h2
def B5c(C:Ctx)(call:B4C):Prop:=∀g args M v M1 ws,call g args M=some (v,M1,ws)->A3V C g args M (λr m=>r=v/\m=M1)/\A9l (call g args) M v M1 ws
def C2s(P:Program)(u:TypeId):Bool:=match P.underlying u with|some (.slice _)|some .string=>true|_=>false
def B2m(P:Program)(e:TypeId):Option (Nat×Nat):=match P.info? e with
 |some i=>match i.zero with
  |some z=>if z.cells.size=i.size/\0<i.bytes then some (i.size,i.bytes)else none
  |none=>none
 |none=>none
def C3v{P}{e:TypeId}{sz bytes}(h:B2m P e=some (sz,bytes)):A3j P e sz bytes:=by
 unfold B2m at h;split at h
 .rename_i i hi;split at h
  .rename_i z hz;split at h
   .rename_i hc;simp only[Z0a,Z0c]at h;obtain⟨rfl,rfl⟩:=h;exact⟨i,z,hi,hz,rfl,rfl,hc.1,hc.2⟩
   .simp at h
  .simp at h
 .simp at h
def D0s{P}{u:TypeId}(h:C2s P u=true):A3W P u:=by
 unfold C2s at h;split at h
 .rename_i e hu;exact .inl ⟨e,hu⟩
 .rename_i hu;exact .inr hu
 .simp at h
def A6Y(P:Program)(t u:TypeId)(s x:AV)(M:Mem):Option XR:=match A0S P t with
 |some e=>match B2m P e with
  |some (sz,bytes)=>match C2s P u,A8u true s with
   |true,true=>match A3h false true e sz bytes s x M with
    |some (v,M')=>some (v,M',A5f s)
    |none=>none
   |_,_=>none
  |none=>none
 |none=>none
def B8k{C:Ctx}{t u:TypeId}{s x v:AV}{M M':Mem}{ws:List Nat}(h:A6Y C.P t u s x M=some (v,M',ws)):(∃e sz bytes,B3O C.P t u sz bytes e/\A3h false true e sz bytes s x M=some (v,M')/\A7A (A3h false true e sz bytes s x) M v M' ws)/\A9l (A6Y C.P t u s x) M v M' ws:=by
 unfold A6Y at h
 split at h
 case h_2=>simp at h
 rename_i e he
 split at h
 case h_2=>simp at h
 rename_i sz bytes hf
 split at h
 case h_2=>simp at h
 rename_i hu hv
 split at h
 case h_2=>simp at h
 rename_i v1 M1 ha
 simp only[Z0a,Z0c]at h
 obtain⟨rfl,rfl,rfl⟩:=h
 have a:=B6x hv ha
 refine⟨⟨e,sz,bytes,⟨he,D0s hu,C3v hf⟩,ha,a⟩,a.x λM2 M3 h2=>?_⟩
 simp only[A6Y,he,hf,hu,hv,h2]
def xOp(call:B4C)(C:Ctx)(o:Oper)(ρ:Operand->AV)(M:Mem):Option XR:=
 match o.op with
 |.call {callee:=.value f,args,..}=>match ρ f with
  |.func (.func g) first captured=>call g (first++args.toList.map ρ++captured) M
  |_=>none
 |.call {callee:=.builtin .append,args,argTypes}=>match args.toList,argTypes.toList with
  |[s,x],[t,u]=>match o.dst with
   |some _=>A6Y C.P t u (ρ s) (ρ x) M
   |none=>none
  |_,_=>none
 |_=>match A0n C HX o ρ with
  |some v=>some (v,M,[])
  |none=>match A0w C HX o ρ M with
   |some (v,M')=>some (v,M',A1Y o ρ)
   |none=>none
def D9L{a:B4C}{C:Ctx}(hc:B5c C a){o:Oper}{ρ:Operand->AV}{M M':Mem}{v:AV}{ws:List Nat}(h:xOp a C o ρ M=some (v,M',ws)):(∀K:AV->Mem->Prop,K v M'->A4n C HX o K ρ M)/\A9l (xOp a C o ρ) M v M' ws:=by
 obtain⟨d,op,t,p,af,g⟩:=o
 unfold xOp at h
 simp only at h
 split at h
 .rename_i f args ts;split at h;case h_2=>simp at h
  rename_i g' first captured hf
  obtain⟨h1,h2⟩:=hc _ _ _ _ _ _ h;refine⟨λK hk=>?_,⟨h2.grow,h2.old,h2.keep,λs X hs=>by simp only[xOp,hf];exact h2.fill s X hs⟩⟩;simp only[A4n,hf];refine h1.mono ?_;rintro r m ⟨rfl,rfl⟩;exact hk
 .rename_i args ts;split at h;case h_2=>simp at h
  rename_i s x t' u ha ht;split at h;case h_2=>simp at h
  rename_i d0;obtain⟨⟨e,sz,bytes,q1,q2,_⟩,q3⟩:=B8k h;refine⟨λK hk=>?_,⟨q3.grow,q3.old,q3.keep,λs X hs=>by simp only[xOp,ha,ht];exact q3.fill s X hs⟩⟩;simp only[A4n,ha,ht];refine⟨e,sz,bytes,q1,?_⟩;have:A3h (A1O HX.own (some d0)) (A1O HX.vec (some d0)) e sz bytes (ρ s) (ρ x) M=some (v,M'):=q2;rw[this];exact hk
 .rename_i hne1 hne2;have vc:∀v M',A0w C HX ⟨d,op,t,p,af,g⟩ ρ M=some (v,M')->∀K:AV->Mem->Prop,K v M'->A4n C HX ⟨d,op,t,p,af,g⟩ K ρ M:=by
   intro v M' he K hk;unfold A4n;split
   .rename_i heq;exact absurd heq (by intro e;exact hne1 _ _ _ e)
   .rename_i heq;exact absurd heq (by intro e;exact hne2 _ _ e)
   .rw[he];exact hk
  have xo:∀M2,xOp a C ⟨d,op,t,p,af,g⟩ ρ M2=(match A0n C HX ⟨d,op,t,p,af,g⟩ ρ with
  |some v=>some (v,M2,[])
  |none=>match A0w C HX ⟨d,op,t,p,af,g⟩ ρ M2 with
   |some (v,M')=>some (v,M',A1Y ⟨d,op,t,p,af,g⟩ ρ)
   |none=>none):=by
   intro M2
   unfold xOp
   split
   .rename_i heq;exact absurd heq (by intro e;exact hne1 _ _ _ e)
   .rename_i heq;exact absurd heq (by intro e;exact hne2 _ _ e)
   .rfl
  split at h
  .rename_i v1 hp;simp only[Z0a,Z0c]at h;obtain⟨rfl,rfl,rfl⟩:=h;exact⟨vc _ _ (by simp only[A0w,hp]),.same λs X _=>by simp only[xo,hp]⟩
  .rename_i hp;split at h
   .rename_i v1 M1 he;simp only[Z0a,Z0c]at h;obtain⟨rfl,rfl,rfl⟩:=h;exact⟨vc _ _ he,(A8G he).x λM2 M3 h2=>by simp only[xo,hp,h2]⟩
   .simp at h
def B7t:Nat->List Nat->Bool
 |_,[]=>false
 |n,a::l=>match Nat.beq n a with
  |true=>true
  |false=>B7t n l
def B3H{n}:∀{l:List Nat},B7t n l=true<->n∈l
 |[]=>by simp[B7t]
 |a::l=>by
  simp only[B7t];split
  .rename_i h;simp[Z1E h]
  .rename_i h;rw[B3H (l:=l)];(have:n≠a:=by intro e;subst e;rw[Z4o]at h;simp at h);simp[this]
def B0G(base:Nat):List Nat->List Nat->List Nat
 |[],ws=>ws
 |b::l,ws=>match Nat.ble base b,B7t b ws with
  |false,false=>B0G base l (b::ws)
  |_,_=>B0G base l ws
def B5D{base}:∀{l ws:List Nat} {i:Nat},i<base->i∉B0G base l ws->i∉l/\i∉ws
 |[],ws,i,_,h=>⟨by simp,h⟩
 |b::l,ws,i,hi,h=>by
  simp only[B0G]at h;split at h
  .have:=B5D hi h;simp only[Z0u,Z2L]at this|-;exact⟨⟨this.2.1,this.1⟩,this.2.2⟩
  .rename_i hne;have:=B5D hi h;refine⟨?_,this.2⟩;simp only[Z0u,Z2L];refine⟨?_,this.1⟩;intro e;subst e;have h1:Nat.ble base i=false:=by
    cases hb:Nat.ble base i with
    |false=>rfl
    |true=>have:=Z2V hb;omega
   have h2:B7t i ws=false:=by
    cases hm:B7t i ws with
    |false=>rfl
    |true=>exact absurd (B3H.1 hm) this.2
   exact hne h1 h2
def Old(base:Nat)(ws:List Nat)(M0 M:Mem):Prop:=∀i,i<base->i∉ws->M[i]?=M0[i]?
def Old.add{base}{l ws}{M0 M M1}(h:Old base ws M0 M)(hb:base<=M.length)(hs:∀i,i<M.length->i∉l->M1[i]?=M[i]?):Old base (B0G base l ws) M0 M1:=by intro i hi hn;obtain⟨h1,h2⟩:=B5D hi hn;rw[hs i (by omega) h1,h i hi h2]
structure B3b {R:Type} (base:Nat) (f:Mem->Option R) (mk:Mem->R) (M M':Mem) (ws ws':List Nat):Prop where
 grow:M.length<=M'.length
 keep:A4G M M'
 old:base<=M.length->∀M0,Old base ws M0 M->Old base ws' M0 M'
 fill:∀(s:Nat) (X:A0j),M[s]?=some A1h->f (M.set s X)=some (mk (M'.set s X))
def B3b.same{R:Type}{base:Nat}{f:Mem->Option R}{mk:Mem->R}{M:Mem}{ws:List Nat}(h:∀(s:Nat) (X:A0j),M[s]?=some A1h->f (M.set s X)=some (mk (M.set s X))):B3b base f mk M M ws ws:=⟨Z0n _,λ_ h=>h,λ_ _ h=>h,h⟩
def B3b.trans{R R2:Type}{base}{f:Mem->Option R}{mk:Mem->R}{f2:Mem->Option R2}{a:Mem->R2}{f3:Mem->Option R2}{M M1 M2}{ws ws1 ws2}(h:B3b base f mk M M1 ws ws1)(k:B3b base f2 a M1 M2 ws1 ws2) (hf:∀A B,f A=some (mk B)->f3 A=f2 B):B3b base f3 a M M2 ws ws2:=⟨Z0Q h.grow k.grow,λs hs=>k.keep s (h.keep s hs),λhb M0 h0=>k.old (Z0Q hb h.grow) M0 (h.old hb M0 h0),λs X hs=>by rw[hf _ _ (h.fill s X hs)];exact k.fill s X (h.keep s hs)⟩
def A9l.goes{R:Type}{base}{g:Mem->Option XR}{f:Mem->Option R}{mk:Mem->R}{M M1}{v}{l ws}(h:A9l g M v M1 l)(hf:∀A B,g A=some (v,B,l)->f A=some (mk B)):B3b base f mk M M1 ws (B0G base l ws):=⟨h.grow,h.keep,λhb M0 h0=>h0.add hb h.old,λs X hs=>hf _ _ (h.fill s X hs)⟩
def B3b.turn{R R2:Type}{base}{f:Mem->Option R}{mk:Mem->R}{f2:Mem->Option R2}{a:Mem->R2}{M M1}{ws ws1}(h:B3b base f mk M M1 ws ws1)(hf:∀A B,f A=some (mk B)->f2 A=some (a B)):B3b base f2 a M M1 ws ws1:=⟨h.grow,h.keep,h.old,λs X hs=>hf _ _ (h.fill s X hs)⟩
def B1e(ops:Array Oper)(o:Oper)(t:BT):Option Bool:=match o.guard with
 |none=>some true
 |some (j,want)=>match(ops[j]?).bind (·.dst)with
  |some d=>match t.get d with
   |.val (.bool b)=>some (b==want)
   |.val (.tuple _)=>some false
   |_=>none
  |none=>none
def B1V{ops}{o}{t}{b}(h:B1e ops o t=some b)(run skip:Prop):A2i ops o t.fn run skip=if b=true then run else skip:=by
 unfold B1e at h;unfold A2i;split at h
 .rename_i hg;simp only[Z0a]at h;subst h;rw[hg];simp
 .rename_i j want hg;rw[hg];simp only;split at h
  .rename_i d hd;rw[hd];simp only[BT.fn];split at h
   .rename_i b' hb;simp only[Z0a]at h;subst h;rw[hb];simp only[Z2Q]
   .rename_i hb;simp only[Z0a]at h;subst h;rw[hb];simp
   .simp at h
  .simp at h
def B9i(call:B4C)(C:Ctx)(base:Nat)(ops:Array Oper):List Oper->BT->Mem->List Nat->Option (BT×Mem×List Nat)
 |[],t,M,ws=>some (t,M,ws)
 |o::rest,t,M,ws=>match B1e ops o t with
  |some true=>match xOp call C o (t.fn.ev C) M with
   |some (v,M',l)=>match t.set o.dst v with
    |some t'=>B9i call C base ops rest t' M' (B0G base l ws)
    |none=>none
   |none=>none
  |some false=>match t.set o.dst (.val undef)with
   |some t'=>B9i call C base ops rest t' M ws
   |none=>none
  |none=>none
def C3n{call}{C}(hc:B5c C call){base}{ops}:∀(l:List Oper) (t:BT) (M:Mem) (ws:List Nat) (t':BT) (M':Mem) (a:List Nat),B9i call C base ops l t M ws=some (t',M',a)->
 A9p C HX ops l (λT m=>T=t'.fn/\m=M') t.fn M/\B3b base (λm=>B9i call C base ops l t m ws) (λm=>(t',m,a)) M M' ws a
 |[],t,M,ws,t',M',a,h=>by simp only[B9i,Z0a,Z0c]at h;obtain⟨rfl,rfl,rfl⟩:=h;exact⟨⟨rfl,rfl⟩,.same λ_ _ _=>rfl⟩
 |o::rest,t,M,ws,t',M',a,h=>by
  simp only[B9i]at h;simp only[A9p];split at h
  .rename_i hgd;split at h;(case h_2=>simp at h);rename_i v M1 l2 ho;split at h;(case h_2=>simp at h);rename_i t1 ht;obtain⟨h1,h2⟩:=D9L hc ho;obtain⟨h3,h4⟩:=C3n hc rest t1 M1 (B0G base l2 ws) t' M' a h;refine⟨?_,(h2.goes (base:=base) (ws:=ws) (f:=xOp call C o (t.fn.ev C)) (mk:=λB=>(v,B,l2)) (λA B e=>e)).trans h4 (λA B e=>?_)⟩
   .rw[B1V hgd,Z0d rfl];refine h1 _ ?_;rw[<-BT.set_fn ht];exact h3
   .simp only[B9i,hgd,e,ht]
  .rename_i hgd;split at h;(case h_2=>simp at h);rename_i t1 ht;obtain⟨h3,h4⟩:=C3n hc rest t1 M ws t' M' a h;refine⟨?_,h4.turn (λA B e=>by simp only[B9i,hgd,ht];exact e)⟩;rw[B1V hgd,Z0e (by simp),<-BT.set_fn ht];exact h3
  .simp at h
structure A4M where
 cls:Nat
 rob:Nat
 slot:Nat
 ws:List Nat
 len:Nat
def B1S(o:Oper):Bool:=match o.op with
 |.alloc _=>true
 |_=>false
def A4q(call:B4C)(C:Ctx)(o:Oper)(ρ:Operand->AV)(M:Mem)(slot:Nat):Option (A4M×AV×Mem):=
 match o.op with
 |.call {callee:=.value f,args,..}=>match ρ f with
  |.func (.func g) first captured=>match call g (first++args.toList.map ρ++captured) M with
   |some (v,M',l)=>some (⟨2,0,0,l,M.length⟩,v,M')
   |none=>none
  |_=>none
 |.call {callee:=.builtin .append,args,argTypes}=>match args.toList,argTypes.toList with
  |[s,x],[t,u]=>match o.dst with
   |some _=>match A6Y C.P t u (ρ s) (ρ x) M with
    |some (v,M',l)=>some (⟨2,0,0,l,M.length⟩,v,M')
    |none=>none
   |none=>none
  |_,_=>none
 |.alloc e=>match A8o C.P e,M[slot]? with
  |some X,some (.vec 0 1 [] 0 [])=>some (⟨4,0,slot,[slot],M.length⟩,.vptr slot 1 0,M.set slot X)
  |_,_=>none
 |_=>match(A0n C HX o ρ).or (A0B C o ρ)with
  |some v=>some (⟨0,0,0,[],0⟩,v,M)
  |none=>match A0R o ρ with
   |some r=>match A2m C o ρ M with
    |some v=>some (⟨1,r,0,[],0⟩,v,M)
    |none=>none
   |none=>match A0w C HX o ρ M with
    |some (v,M')=>some (⟨2,0,0,A1Y o ρ,M.length⟩,v,M')
    |none=>none
def C6j{C}{o}{ρ:Operand->AV}{M}{v}{s r}{X}(hs:M[s]?=some A1h)(hr:A0R o ρ=some r)(h:A2m C o ρ M=some v):A2m C o ρ (M.set s X)=some v:=by
 obtain⟨d,op,t,p,af,g⟩:=o;unfold A2m at h;simp only at h;split at h
 .rename_i t' x;simp only[A2m];unfold A1D at h|-;cases hm:A2L M (ρ x)with
  |none=>rw[hm]at h;simp at h
  |some cs=>rw[B3A hs hm];rw[hm]at h;exact h
 .simp only[A2m];exact B2v hs h
 .rename_i args ts;split at h;case h_2=>simp at h
  rename_i x t' ha ht;simp only[A2m,ha,ht];cases hl:A1V C.P t' (ρ x)with
  |some n=>rw[hl]at h;simp only[Option.some_or]at h|-;exact h
  |none=>
   rw[hl]at h;simp only[Z2K]at h|-;cases hm:A2S C.P t' M (ρ x)with
   |none=>rw[hm]at h;simp at h
   |some n=>rw[B4O hs hm];rw[hm]at h;exact h
 .simp at h
def A7y(o:Oper):Bool:=match o.op with
 |.store ..=>true
 |_=>false
def C6l{o}{ρ:Operand->AV}{r}(hs:A7y o=true)(hw:A1Y o ρ=[r]):A5D o ρ=some r:=by
 obtain⟨d,op,t,p,af,g⟩:=o;cases op<;>first|(simp[A7y]at hs;done)|skip
 case store st a x=>simp only[A1Y]at hw;simp only[A5D];split at hw<;>simp_all
structure D9t (C:Ctx) (o:Oper) (ρ:Operand->AV) (g:Mem->Option (A4M×AV×Mem)) (M:Mem) (f:A4M) (v:AV) (M':Mem) (slot R:Nat):Prop where
 run:∀K:AV->Mem->Prop,K v M'->dOp C HX true f.cls f.rob f.slot o ρ M K
 grow:M.length<=M'.length
 len:M'=M\/f.len=M.length
 old:∀i,i<M.length->i∉f.ws->M'[i]?=M[i]?
 keep:∀s,s<R->M[s]?=some A1h->M'[s]?=some A1h
 fill:∀(s:Nat) (X:A0j),s<R->M[s]?=some A1h->g (M.set s X)=some (f,v,M'.set s X)
 slot:f.cls=4->f.slot=slot/\B1S o=true/\∃X,M'=M.set slot X
 run5:∀r,A7y o=true->f.cls=2->f.ws=[r]->∀K:AV->Mem->Prop,K v M'->dOp C HX true 5 f.rob r o ρ M K
 no5:f.cls≠5
def C6O{call}{C}(hc:B5c C call){o}{ρ:Operand->AV}{M M'}{v}{f}{slot R}(hR:R<=slot)(h:A4q call C o ρ M slot=some (f,v,M')):D9t C o ρ (λm=>A4q call C o ρ m slot) M f v M' slot R:=by
 obtain⟨d,op,t,p,af,g⟩:=o
 unfold A4q at h
 simp only at h
 split at h
 .rename_i fo args ts;split at h;case h_2=>simp at h
  rename_i g' first captured hf
  split at h;case h_2=>simp at h
  rename_i v1 M1 l1 hcall;simp only[Z0a,Z0c]at h;obtain⟨rfl,rfl,rfl⟩:=h;obtain⟨h1,h2⟩:=hc _ _ _ _ _ _ hcall;refine⟨λK hk=>?_,h2.grow,.inr rfl,h2.old,λs _=>h2.keep s,λs X _ hs=>by simp only[A4q,hf,h2.fill s X hs,Z1l],λe=>by simp at e,λr hs=>by simp[A7y]at hs,by simp⟩;simp only[dOp,hf];rw[Z0e (by simp)];exact⟨v1,M1,by trivial,h1,λ_=>⟨h2.keep,λl hl=>(hc _ _ _ _ _ _ (C4A (f:=call g' (first++args.toList.map ρ++captured)) (λM v M1 ws h=>(hc _ _ _ _ _ _ h).2) l M M1 v1 l1 hcall hl)).1⟩,hk⟩
 .rename_i args ts;split at h;case h_2=>simp at h
  rename_i s x t' u ha ht;split at h;case h_2=>simp at h
  rename_i d0;split at h;case h_2=>simp at h
  rename_i v1 M1 l1 happ;simp only[Z0a,Z0c]at h;obtain⟨rfl,rfl,rfl⟩:=h;obtain⟨⟨e,sz,bytes,q1,q2,q4⟩,q3⟩:=B8k happ;refine⟨λK hk=>?_,q3.grow,.inr rfl,q3.old,λs _=>q3.keep s,λs X _ hs=>by simp only[A4q,ha,ht,q3.fill s X hs,Z1l],λe=>by simp at e,λr hs=>by simp[A7y]at hs,by simp⟩;simp only[dOp,ha,ht];refine⟨e,sz,bytes,q1,?_,?_⟩
  .trivial
  have k:A3h (A1O HX.own (some d0)) (A1O HX.vec (some d0)) e sz bytes (ρ s) (ρ x) M=some (v1,M1):=q2;unfold A5k;rw[k];refine⟨λ_=>⟨q3.keep,λl hl=>?_⟩,hk⟩;have hv:A8u true (ρ s)=true:=by unfold A6Y at happ;split at happ;(case h_2=>simp at happ);split at happ;(case h_2=>simp at happ);split at happ;(case h_2=>simp at happ);rename_i hv;exact hv
  have b:∀(l:List (Nat×A0j)) (M M1:Mem) (v:AV),A3h false true e sz bytes (ρ s) (ρ x) M=some (v,M1)->B0z M l->A3h false true e sz bytes (ρ s) (ρ x) (Go.Abs.fill M l)=some (v,Go.Abs.fill M1 l):=by
   intro l;induction l with
   |nil=>intro M M1 v h _;exact h
   |cons p l ih=>intro M M1 v h hb;obtain⟨b1,b2⟩:=A8F hb;exact ih (M.set p.1 p.2) (M1.set p.1 p.2) v ((B6x hv h).fill p.1 p.2 b1) b2
  exact b l M M1 v1 q2 hl
 .rename_i e;split at h;case h_2=>simp at h
  rename_i X hX hM;simp only[Z0a,Z0c]at h;obtain⟨rfl,rfl,rfl⟩:=h;have j:M[slot]?=some A1h:=hM;refine⟨λK hk=>?_,by simp,.inr rfl,λi _ hn=>?_,λs hs hb=>?_,λs Y hs hb=>?_,λ_=>⟨rfl,rfl,X,rfl⟩,λr hs=>by simp[A7y]at hs,by simp⟩
  .simp only[dOp];rw[Z0d trivial];exact⟨trivial,j,by rw[hX];exact hk⟩
  .rw[Z0f (λe=>hn (by simp[e]))]
  .rw[Z0f (by omega)];exact hb
  ·(have:(M.set s Y)[slot]?=some (.vec 0 1 [] 0 []):=by rw[Z0f (by omega)];exact hM);simp only[A4q,hX,this,Z1l]
   rw[Z4n _ _ (by omega)]
 .rename_i hne1 hne2 hne3;have key:∀c r s M K,dOp C HX true c r s ⟨d,op,t,p,af,g⟩ ρ M K=(if c=0 then A0J ((A0n C HX ⟨d,op,t,p,af,g⟩ ρ).or (A0B C ⟨d,op,t,p,af,g⟩ ρ)) (λv=>K v M)else if c=1 then A0R ⟨d,op,t,p,af,g⟩ ρ=some r/\A0J (A2m C ⟨d,op,t,p,af,g⟩ ρ M) (λv=>K v M)
   else if c=5 then A5D ⟨d,op,t,p,af,g⟩ ρ=some s/\A0J (A0w C HX ⟨d,op,t,p,af,g⟩ ρ M) (λr=>K r.1 r.2)
   else c=2/\A5k true (A0w C HX ⟨d,op,t,p,af,g⟩ ρ) M K):=by
   intro c r s M K
   unfold dOp
   split
   .rename_i heq;exact absurd heq (by intro e;exact hne1 _ _ _ e)
   .rename_i heq;exact absurd heq (by intro e;exact hne2 _ _ e)
   .rename_i heq;exact absurd heq (by intro e;exact hne3 _ e)
   .rfl
  have a:∀M2,A4q call C ⟨d,op,t,p,af,g⟩ ρ M2 slot=(match(A0n C HX ⟨d,op,t,p,af,g⟩ ρ).or (A0B C ⟨d,op,t,p,af,g⟩ ρ)with
  |some v=>some (⟨0,0,0,[],0⟩,v,M2)
  |none=>match A0R ⟨d,op,t,p,af,g⟩ ρ with
   |some r=>match A2m C ⟨d,op,t,p,af,g⟩ ρ M2 with
    |some v=>some (⟨1,r,0,[],0⟩,v,M2)
    |none=>none
   |none=>match A0w C HX ⟨d,op,t,p,af,g⟩ ρ M2 with
    |some (v,M')=>some (⟨2,0,0,A1Y ⟨d,op,t,p,af,g⟩ ρ,M2.length⟩,v,M')
    |none=>none):=by
   intro M2
   unfold A4q
   split
   .rename_i heq;exact absurd heq (by intro e;exact hne1 _ _ _ e)
   .rename_i heq;exact absurd heq (by intro e;exact hne2 _ _ e)
   .rename_i heq;exact absurd heq (by intro e;exact hne3 _ e)
   .rfl
  split at h
  .rename_i v1 he;simp only[Z0a,Z0c]at h;obtain⟨rfl,rfl,rfl⟩:=h;exact⟨λK hk=>by rw[key,Z0d rfl,he];exact hk,Z0n _,.inl rfl,λ_ _ _=>rfl,λ_ _ h=>h,λs X _ _=>by simp only[a,he],λe=>by simp at e,λr _ hc=>by simp at hc,by simp⟩
  .rename_i hnone;split at h
   .rename_i r hr;split at h;(case h_2=>simp at h);rename_i v1 hrd;simp only[Z0a,Z0c]at h;obtain⟨rfl,rfl,rfl⟩:=h;exact⟨λK hk=>by rw[key,Z0e (by simp),Z0d rfl,hrd];exact⟨hr,hk⟩,Z0n _,.inl rfl,λ_ _ _=>rfl,λ_ _ h=>h,λs X _ hs=>by simp only[a,hnone,hr,C6j hs hr hrd],λe=>by simp at e,λr _ hc=>by simp at hc,by simp⟩
   .rename_i hno;split at h;(case h_2=>simp at h);rename_i v1 M1 he;simp only[Z0a,Z0c]at h;obtain⟨rfl,rfl,rfl⟩:=h;have ha:=A8G he;refine⟨λK hk=>?_,ha.grow,.inr rfl,ha.old,λs _=>ha.keep s,λs X _ hs=>?_,λe=>by simp at e,λr hst _ hw K hk=>by rw[key,Z0e (by simp),Z0e (by simp),Z0d rfl,he];exact⟨C6l hst hw,hk⟩,by simp⟩
    .rw[key,Z0e (by simp),Z0e (by simp),Z0e (by simp)];refine⟨rfl,?_⟩;unfold A5k;rw[he];refine⟨λ_=>⟨ha.keep,λl hl=>?_⟩,hk⟩;have b:∀(l:List (Nat×A0j)) (M M1:Mem) (v:AV),A0w C HX ⟨d,op,t,p,af,g⟩ ρ M=some (v,M1)->B0z M l->A0w C HX ⟨d,op,t,p,af,g⟩ ρ (Go.Abs.fill M l)=some (v,Go.Abs.fill M1 l):=by
      intro l;induction l with
      |nil=>intro M M1 v h _;exact h
      |cons p l ih=>intro M M1 v h hb;obtain⟨b1,b2⟩:=A8F hb;exact ih (M.set p.1 p.2) (M1.set p.1 p.2) v ((A8G h).fill p.1 p.2 b1) b2
     exact b l M M1 v1 he hl
    .simp only[a,hnone];simp only[hno,ha.fill s X hs,Z1l]
def F0:A4M:=⟨0,0,0,[],0⟩
def A0y(fs:List A4M)(k:Nat):A4M:=fs.getD k F0
def A6O(fs:List A4M):B0O:={cls:=λk=>(A0y fs k).cls,rob:=λk=>(A0y fs k).rob,slot:=λk=>(A0y fs k).slot,aff:=λi k=>B7t (A0y fs i).rob (A0y fs k).ws||Nat.ble (A0y fs k).len (A0y fs i).rob,fl:=true}
def A6j(o:Oper):List Nat:=(o.after.toList.filter (Region.binds .any)).map (·.on)
def A6Q(ms:List Nat):List Nat->Nat
 |[]=>0
 |on::l=>Nat.lor (Nat.lor (Nat.shiftLeft 1 on) (ms.getD on 0)) (A6Q ms l)
def D3B(ops:Array Oper):List Oper->Nat->List Nat->Option (List (List Nat))
 |[],_,_=>some []
 |o::l,i,ms=>match(A6j o).all (λon=>Nat.blt on i)with
  |true=>match((List.range i).filter λj=>!(Nat.testBit (A6Q ms (A6j o)) j)).all (λj=>match ops[j]? with|some x=>!A5c ops x o|none=>true)with
   |true=>match D3B ops l (i+1) (ms++[A6Q ms (A6j o)])with
    |some r=>some (((List.range i).filter λj=>!(Nat.testBit (A6Q ms (A6j o)) j))::r)
    |none=>none
   |false=>none
  |false=>none
def B9a(a b:A4M):Bool:=match a.cls with
 |0=>false
 |1=>match b.cls with
  |2=>B7t a.rob b.ws||Nat.ble b.len a.rob
  |4=>Nat.beq a.rob b.slot
  |5=>Nat.beq a.rob b.slot
  |_=>false
 |2=>match b.cls with
  |2=>true
  |5=>true
  |1=>B7t b.rob a.ws||Nat.ble a.len b.rob
  |_=>false
 |4=>match b.cls with
  |2=>true
  |1=>Nat.beq b.rob a.slot
  |_=>false
 |5=>match b.cls with
  |2=>true
  |1=>Nat.beq b.rob a.slot
  |_=>false
 |_=>true
def C3a(all:List A4M)(f:A4M):List Nat->Bool
 |[]=>true
 |j::l=>match B9a (A0y all j) f with
  |true=>false
  |false=>C3a all f l
def C4y(all:List A4M):List (List Nat)->List A4M->Bool
 |free::r,f::fs=>match f.cls with
  |0=>C4y all r fs
  |_=>match C3a all f free with
   |true=>C4y all r fs
   |false=>false
 |[],[]=>true
 |_,_=>false
def D6m(ops:Array Oper)(fs:List A4M):Bool:=match D3B ops ops.toList 0 []with
 |some r=>C4y fs r fs
 |none=>false
def D3q(o:Oper)(f:A4M):A4M:=match A7y o,f with
 |true,⟨2,rob,_,[r],len⟩=>⟨5,rob,r,[r],len⟩
 |_,f=>f
def A5J:List Oper->List A4M->List A4M
 |o::l,f::fs=>D3q o f::A5J l fs
 |_,fs=>fs
def A5y:List A4M->List Nat
 |[]=>[]
 |f::fs=>match A3d f.cls with
  |true=>f.slot::A5y fs
  |false=>A5y fs
def B5w:List Nat->Bool
 |[]=>true
 |a::l=>!B7t a l&&B5w l
def okF(ops:Array Oper)(fs:List A4M):Bool:=match D6m ops fs with
 |true=>true
 |false=>D6m ops (A5J ops.toList fs)&&B5w (A5y (A5J ops.toList fs))
def C4X{o}{e}(he:e∈o.after.toList)(hb:Region.binds .any e=true):e.on∈A6j o:=Z0H.2 ⟨e,Z1t.2 ⟨he,hb⟩,rfl⟩
def C8e{o}{j}(h:j∈A6j o):∃e∈o.after.toList,Region.binds .any e=true/\e.on=j:=by obtain⟨e,he,rfl⟩:=Z0H.1 h;obtain⟨h1,h2⟩:=Z1t.1 he;exact⟨e,h1,h2,rfl⟩
def B1B{ms}{j}:∀{l:List Nat},Nat.testBit (A6Q ms l) j=true->∃on∈l,on=j\/Nat.testBit (ms.getD on 0) j=true
 |[],h=>by simp[A6Q]at h
 |on::l,h=>by
  simp only[A6Q]at h;have e:Nat.lor (Nat.lor (Nat.shiftLeft 1 on) (ms.getD on 0)) (A6Q ms l)=((1 <<< on) ||| ms.getD on 0) ||| A6Q ms l:=rfl;rw[e,Z4i,Z4i,Nat.testBit_shiftLeft]at h;simp only[Z1A,Z0g,Z0m]at h;rcases h with(h|h)|h
  .refine⟨on,by simp,.inl ?_⟩;obtain⟨h1,h2⟩:=h;rw[Nat.testBit_one_eq_true_iff_self_eq_zero]at h2;omega
  .exact⟨on,by simp,.inr h⟩
  .obtain⟨x,hx,h2⟩:=B1B h;exact⟨x,by simp[hx],h2⟩
def B8Y{ops}:∀(f j i:Nat),A7t ops f j i=true->A7t ops (f+1) j i=true
 |0,j,i,h=>by simp[A7t]at h
 |f+1,j,i,h=>by
  rw[A7t]at h|-;split at h;case h_2=>simp at h
  rename_i o ho;rw[<-Z3T]at h|-;obtain⟨e,he,hb⟩:=Z2o.1 h;refine Z2o.2 ⟨e,he,?_⟩;simp only[Z0g,Z1A]at hb|-;exact⟨hb.1,hb.2.imp id (B8Y f j e.on)⟩
def C4E{ops}{f g j i}(h:A7t ops f j i=true)(a:f<=g):A7t ops g j i=true:=by
 induction a with
 |refl=>exact h
 |step _ ih=>exact B8Y _ _ _ ih
def C3C(ops:Array Oper)(ms:List Nat):Prop:=∀i j,i<ms.length->Nat.testBit (ms.getD i 0) j=true->A7t ops (i+1) j i=true
def B4c{ops}{ms}(hm:C3C ops ms){o}{i j}(ho:ops[i]?=some o)(hi:i=ms.length)(hb:(A6j o).all (λon=>Nat.blt on i)=true)(h:Nat.testBit (A6Q ms (A6j o)) j=true):A7t ops (i+1) j i=true:=by
 obtain⟨on,a,hc⟩:=B1B h;have c:on<i:=by have h1:=Z0p.1 hb on a;have:on+1<=i:=Z2V h1;omega
 obtain⟨e,he,b,rfl⟩:=C8e a;rw[A7t,ho];simp only;rw[<-Z3T];refine Z2o.2 ⟨e,he,?_⟩;simp only[Z0g,Z1A,Z2Q];refine⟨b,?_⟩;rcases hc with hc|hc
 .exact .inl hc
 .exact .inr (C4E (hm e.on j (by omega) hc) (by omega))
def C9t{ops}:∀(l:List Oper) (i:Nat) (ms:List Nat) (r:List (List Nat)),D3B ops l i ms=some r->i=ms.length->C3C ops ms->(∀k o,l[k]?=some o->ops[i+k]?=some o)->
 r.length=l.length/\∀k o,l[k]?=some o->(∀e∈o.after.toList,Region.binds .any e=true->e.on<i+k)/\∀j x,j<i+k->ops[j]?=some x->(A7t ops (i+k+1) j (i+k)=true\/(A5c ops x o=false/\∃fr,r[k]?=some fr/\j∈fr))
 |[],i,ms,r,h,_,_,_=>by simp only[D3B,Z0a]at h;subst h;exact⟨rfl,by simp⟩
 |o::l,i,ms,r,h,hi,hm,hl=>by
  simp only[D3B]at h;split at h;case h_2=>simp at h
  rename_i hb;split at h;case h_2=>simp at h
  rename_i hs;split at h;case h_2=>simp at h
  rename_i r1 hr;simp only[Z0a]at h;subst h;have ho:ops[i]?=some o:=by have:=hl 0 o rfl;simpa using this
  have b:C3C ops (ms++[A6Q ms (A6j o)]):=by
   intro i' j c ht;by_cases e:i'<ms.length
   .refine hm i' j e ?_;rw[Z1v,Z0h e,<-Z1v]at ht;exact ht
   ·(have e2:i'=i:=by simp at c;omega);subst e2
    rw[Z1v,hi,Z1e (Z0n _)]at ht;simp at ht;exact B4c hm ho hi hb ht
  obtain⟨i1,i2⟩:=C9t l (i+1) _ r1 hr (by simp[hi]) b (λk o' h'=>by have:=hl (k+1) o' (by simpa using h');rwa[show i+(k+1)=i+1+k from by omega]at this);refine⟨by simp[i1],λk o' hk=>?_⟩;cases k with
  |zero=>
   simp only[Z2P,Z0a]at hk;subst hk;refine⟨λe he hbe=>?_,λj x hj hx=>?_⟩
   .have h1:=Z0p.1 hb _ (C4X he hbe);have:e.on+1<=i:=Z2V h1;omega
   .cases ht:Nat.testBit (A6Q ms (A6j o)) j with
    |true=>exact .inl (B4c hm ho hi hb ht)
    |false=>have a:j∈(List.range i).filter λj=>!(Nat.testBit (A6Q ms (A6j o)) j):=Z1t.2 ⟨Z1i.2 (by omega),by simp[ht]⟩;have h1:=Z0p.1 hs j a;rw[hx]at h1;exact .inr ⟨by simpa using h1,_,rfl,a⟩
  |succ k=>have:=i2 k o' (by simpa using hk);rw[show i+(k+1)=i+1+k from by omega];simpa using this
def C1O{all}{f}:∀{l:List Nat},C3a all f l=true->∀j∈l,B9a (A0y all j) f=false
 |[],_,j,hj=>by simp at hj
 |x::l,h,j,hj=>by
  simp only[C3a]at h;split at h
  .simp at h
  .rename_i hc;rcases Z0u.1 hj with rfl|hj
   .exact hc
   .exact C1O h j hj
def C9r{all}:∀(r:List (List Nat)) (fs:List A4M),C4y all r fs=true->r.length=fs.length/\∀(k:Nat) (fr:List Nat) (f:A4M),r[k]?=some fr->fs[k]?=some f->f.cls=0\/∀j∈fr,B9a (A0y all j) f=false
 |[],[],_=>⟨rfl,by simp⟩
 |[],f::fs,h=>by simp[C4y]at h
 |fr::r,[],h=>by simp[C4y]at h
 |fr::r,f::fs,h=>by
  have step:∀hh:C4y all r fs=true,(f.cls=0\/∀j∈fr,B9a (A0y all j) f=false)->(fr::r).length=(f::fs).length/\∀(k:Nat) (a:List Nat) (f':A4M),(fr::r)[k]?=some a->(f::fs)[k]?=some f'->f'.cls=0\/∀j∈a,B9a (A0y all j) f'=false:=by
   intro hh h0;obtain⟨i1,i2⟩:=C9r r fs hh;refine⟨by simp[i1],λk a f' e1 e2=>?_⟩;cases k with
   |zero=>simp at e1 e2;subst e1;subst e2;exact h0
   |succ k=>exact i2 k a f' (by simpa using e1) (by simpa using e2)
  simp only[C4y]at h;split at h
  .rename_i hc;exact step h (.inl hc)
  .split at h
   .rename_i hf;exact step h (.inr (C1O hf))
   .simp at h
def D0l{fs}{j i}(h:B9a (A0y fs j) (A0y fs i)=false):A1J (A6O fs) j i=false:=by
 simp only[A1J,A6O];revert h;generalize A0y fs j=a;generalize A0y fs i=b;intro h;obtain⟨ac,ar,d,aw,al⟩:=a;obtain⟨bc,br,bs,bw,bl⟩:=b;simp only[B9a]at h|-;have c:∀a b:Nat,Nat.beq a b=false->(a==b)=false:=λa b h=>by rw[Z1b];intro e;subst e;rw[Z4o]at h;simp at h
 split at h
 .simp[A3d]
 .split at h
  .simp[h,A3d]
  .simp[c _ _ h,A3d]
  .simp[c _ _ h,A3d]
  .rename_i e2 e3 e4;(have n2:(bc==2)=false:=by rw[Z1b];exact e2);(have n4:(bc==4)=false:=by rw[Z1b];exact e3);(have n5:(bc==5)=false:=by rw[Z1b];exact e4);simp[n2,n4,n5,A3d]
 .split at h
  .simp at h
  .simp at h
  .simp[h,A3d]
  .rename_i e2 e4 e3;(have n2:(bc==2)=false:=by rw[Z1b];exact e2);(have n1:(bc==1)=false:=by rw[Z1b];exact e3);(have n5:(bc==5)=false:=by rw[Z1b];exact e4);simp[n2,n1,n5,A3d]
 .split at h
  .simp at h
  .simp[c _ _ h,A3d]
  .rename_i e2 e3;(have n2:(bc==2)=false:=by rw[Z1b];exact e2);(have n1:(bc==1)=false:=by rw[Z1b];exact e3);simp[n2,n1,A3d]
 .split at h
  .simp at h
  .simp[c _ _ h,A3d]
  .rename_i e2 e3;(have n2:(bc==2)=false:=by rw[Z1b];exact e2);(have n1:(bc==1)=false:=by rw[Z1b];exact e3);simp[n2,n1,A3d]
 .simp at h
def D0a{ops}{fs}(h:D6m ops fs=true)(g:∀j i,j<i->((A0y fs j).cls=4\/(A0y fs j).cls=5)->((A0y fs i).cls=4\/(A0y fs i).cls=5)->(A0y fs j).slot≠(A0y fs i).slot):A4x ops (A6O fs)=true:=by
 unfold D6m at h;split at h;case h_2=>simp at h
 rename_i r hr;obtain⟨s1,s2⟩:=C9t ops.toList 0 [] r hr rfl (λi j hi=>by simp at hi) (λk o hk=>by simpa using hk);obtain⟨c1,c2⟩:=C9r r fs h;refine Z0p.2 λi hi=>?_;have b:=Z1i.1 hi;have ho:ops[i]?=some ops[i]:=Z0P b;rw[ho];obtain⟨q1,q2⟩:=s2 i ops[i] (by simpa using ho);simp only[Z0G]at q1 q2;simp only[Z0g];refine⟨⟨?_,by simp[A6O]⟩,Z0p.2 λj hj=>?_⟩
 .rw[<-Z3r];refine Z0p.2 λe he=>?_;cases hb:Region.binds .any e with
  |false=>rfl
  |true=>simp[q1 e he hb]
 .have a:=Z1i.1 hj;have hx:ops[j]?=some ops[j]:=Z0P (by omega);rw[hx];simp only[Z0g];refine⟨?_,?_⟩
  .rcases q2 j _ a hx with hc|⟨hc,fr,d,hm⟩
   .rw[C4E hc (by omega)];simp
   ·(have f:fs[i]?=some (A0y fs i):=by(have:i<fs.length:=by rw[<-c1,s1];simpa using b);simp[A0y,Z1v,Z0k this]);have c:A1J (A6O fs) j i=false:=by
     rcases c2 i fr _ d f with h0|h0
     .simp only[A1J,A6O];simp[h0,A3d]
     .exact D0l (h0 j hm)
    rw[hc,c];simp
  .have:=g j i a;simp only[A6O];cases e1:A3d (A0y fs i).cls with
   |false=>rfl
   |true=>
    cases e2:A3d (A0y fs j).cls with
    |false=>rfl
    |true=>have:=this (A4Q.1 e2) (A4Q.1 e1);simp[this]
def D0d{fs}:B5w (A5y fs)=true->∀j i,j<i->((A0y fs j).cls=4\/(A0y fs j).cls=5)->((A0y fs i).cls=4\/(A0y fs i).cls=5)->(A0y fs j).slot≠(A0y fs i).slot:=by
 have mem:∀(fs:List A4M) i,((A0y fs i).cls=4\/(A0y fs i).cls=5)->(A0y fs i).slot∈A5y fs:=by
  intro fs;induction fs with
  |nil=>intro i h;simp[A0y,F0]at h
  |cons f fs ih=>
   intro i h;cases i with
   |zero=>simp only[A0y,Z2x]at h|-;simp only[A5y,A4Q.2 h];simp
   |succ i=>
    have:=ih i (by simpa[A0y]using h);simp only[A5y];(have e:(A0y (f::fs) (i+1)).slot=(A0y fs i).slot:=by simp[A0y]);rw[e];split
    .exact Z1I _ this
    .exact this
 induction fs with
 |nil=>intro _ j i _ h;simp[A0y,F0]at h
 |cons f fs ih=>
  intro hn j i b hj hi;have a:B5w (A5y fs)=true:=by
   simp only[A5y]at hn;split at hn
   .simp only[B5w,Z0g]at hn;exact hn.2
   .exact hn
  cases i with
  |zero=>omega
  |succ i=>
   cases j with
   |succ j=>have:=ih a j i (by omega) (by simpa[A0y]using hj) (by simpa[A0y]using hi);simpa[A0y]using this
   |zero=>have hm:=mem fs i (by simpa[A0y]using hi);simp only[A0y,Z2x]at hj;simp only[A5y,A4Q.2 hj,B5w,Z0g,Z1U]at hn;intro e;have e1:(A0y (f::fs) 0).slot=f.slot:=rfl;(have e2:(A0y (f::fs) (i+1)).slot=(A0y fs i).slot:=by simp[A0y]);rw[e1,e2]at e;rw[<-e]at hm;rw[B3H.2 hm]at hn;simp at hn
end Go.Abs
