/- The texts AbsT, AbsU2, AbsU3, AbsU, AbsV, AbsV2, AbsVo, AbsV3, AbsV4. -/
import Derived.Test.YtmpdkagfplajjaaGreatDoorGG14
set_option linter.all false
namespace Go.Abs
mutual
def bdd(n:Nat):AV->Prop
 |.poison|.val _=>True
 |.ptr b _=>b<n
 |.cptr cs=>A1Y n cs
 |.list _ rows own=>A8U n rows/\(match own with|.fam f=>f<n|_=>True)
 |.vref f _ _ _ _=>f<n
 |.vptr f _ _=>f<n
 |.mapr b=>b<n
 |.func _ f c=>A1Y n f/\A1Y n c
 |.iface _ v=>bdd n v
 |.agg cs=>A1Y n cs
 |.tuple cs=>A1Y n cs
def A1Y(n:Nat):List AV->Prop
 |[]=>True
 |c::cs=>bdd n c/\A1Y n cs
def A8U(n:Nat):List (List AV)->Prop
 |[]=>True
 |r::rs=>A1Y n r/\A8U n rs
end
mutual
def B3C{G}:∀(a:AV) (x:Value),Rep G a x->bdd G.n a
 |.poison,_,_=>by simp[bdd]
 |.val v,x,k=>by simp[bdd]
 |.ptr b off,x,k=>by simp only[Rep]at k;simp only[bdd];exact k.1
 |.cptr cs,x,k=>by simp only[Rep]at k;simp only[bdd];obtain⟨b,i,_,hm⟩:=k;exact C4C cs b i hm
 |.list sz rows own,x,k=>by
  simp only[Rep]at k;simp only[bdd];obtain⟨base,cap,_,_,_,hb,ho⟩:=k;refine⟨?_,?_⟩
  .cases base with
   |none=>obtain⟨rfl,_⟩:=hb;simp[A8U]
   |some a=>exact C7l sz rows _ _ hb.2
  .cases own with
   |fam f=>exact ho.1
   |_=>trivial
 |.vref f g sz lo len,x,k=>by simp only[Rep]at k;simp only[bdd];exact k.1
 |.vptr f g off,x,k=>by simp only[Rep]at k;simp only[bdd];exact k.1
 |.mapr b,x,k=>by simp only[Rep]at k;simp only[bdd];exact k.1
 |.func fn f c,x,k=>by simp only[Rep]at k;simp only[bdd];obtain⟨fs,cs,_,h1,h2⟩:=k;exact⟨C0u f _ h1,C0u c _ h2⟩
 |.iface t v,x,k=>by simp only[Rep]at k;simp only[bdd];obtain⟨y,_,h1⟩:=k;exact B3C v y h1
 |.agg cs,x,k=>by simp only[Rep]at k;simp only[bdd];obtain⟨ys,_,h1,_⟩:=k;exact C0u cs _ h1
 |.tuple cs,x,k=>by simp only[Rep]at k;simp only[bdd];obtain⟨ys,_,h1⟩:=k;exact C0u cs _ h1
def C0u{G}:∀(cs:List AV) (ys:List Value),A0u G cs ys->A1Y G.n cs
 |[],ys,k=>by simp[A1Y]
 |c::cs,ys,k=>by simp only[A0u]at k;simp only[A1Y];obtain⟨y,a,_,h1,h2⟩:=k;exact⟨B3C c y h1,C0u cs a h2⟩
def C4C{G}:∀(cs:List AV) (b i:Nat),A0S G cs b i->A1Y G.n cs
 |[],_,_,_=>by simp[A1Y]
 |c::cs,b,i,k=>by simp only[A0S]at k;simp only[A1Y];obtain⟨⟨v,_,_,h1⟩,h2⟩:=k;exact⟨B3C c v h1,C4C cs b (i+1) h2⟩
def C7l{G}(sz:Nat):∀(rs:List (List AV)) (b i:Nat),A0D G sz rs b i->A8U G.n rs
 |[],_,_,_=>by simp[A8U]
 |r::rs,b,i,k=>by simp only[A0D]at k;simp only[A8U];exact⟨C4C r b i k.1.2,C7l sz rs b (i+sz) k.2⟩
end
def A0r.cut(G:A0r)(n:Nat):A0r:={G with n:=n}
mutual
def Rep.cut{G}{n}:∀(a:AV) (x:Value),Rep G a x->bdd n a->Rep (G.cut n) a x
 |.poison,_,_,_=>by simp[Rep]
 |.val v,x,k,_=>by simpa[Rep]using k
 |.ptr b off,x,k,h=>by simp only[Rep,bdd]at k h|-;exact⟨h,k.2⟩
 |.cptr cs,x,k,h=>by simp only[Rep,bdd]at k h|-;obtain⟨b,i,hx,hm⟩:=k;exact⟨b,i,hx,A0S.cut cs b i hm h⟩
 |.list sz rows own,x,k,h=>by
  simp only[Rep,bdd]at k h|-;obtain⟨base,cap,hx,hl,hm,hb,ho⟩:=k;refine⟨base,cap,hx,hl,hm,?_,?_⟩
  .cases base with
   |none=>exact hb
   |some a=>exact⟨hb.1,A0D.cut sz rows _ _ hb.2 h.1⟩
  .cases own with
   |fam f=>exact⟨h.2,ho.2⟩
   |full=>exact ho
   |no=>trivial
 |.vref f g sz lo len,x,k,h=>by simp only[Rep,bdd]at k h|-;exact⟨h,k.2⟩
 |.vptr f g off,x,k,h=>by simp only[Rep,bdd]at k h|-;exact⟨h,k.2⟩
 |.mapr b,x,k,h=>by simp only[Rep,bdd]at k h|-;exact⟨h,k.2⟩
 |.func fn f c,x,k,h=>by simp only[Rep,bdd]at k h|-;obtain⟨fs,cs,hx,h1,h2⟩:=k;exact⟨fs,cs,hx,A0u.cut f _ h1 h.1,A0u.cut c _ h2 h.2⟩
 |.iface t v,x,k,h=>by simp only[Rep,bdd]at k h|-;obtain⟨y,hx,h1⟩:=k;exact⟨y,hx,Rep.cut v y h1 h⟩
 |.agg cs,x,k,h=>by simp only[Rep,bdd]at k h|-;obtain⟨ys,hx,h1,h2⟩:=k;exact⟨ys,hx,A0u.cut cs _ h1 h,h2⟩
 |.tuple cs,x,k,h=>by simp only[Rep,bdd]at k h|-;obtain⟨ys,hx,h1⟩:=k;exact⟨ys,hx,A0u.cut cs _ h1 h⟩
def A0u.cut{G}{n}:∀(cs:List AV) (ys:List Value),A0u G cs ys->A1Y n cs->A0u (G.cut n) cs ys
 |[],ys,k,_=>by simpa[A0u]using k
 |c::cs,ys,k,h=>by simp only[A0u,A1Y]at k h|-;obtain⟨y,a,hy,h1,h2⟩:=k;exact⟨y,a,hy,Rep.cut c y h1 h.1,A0u.cut cs a h2 h.2⟩
def A0S.cut{G}{n}:∀(cs:List AV) (b i:Nat),A0S G cs b i->A1Y n cs->A0S (G.cut n) cs b i
 |[],_,_,_,_=>by simp[A0S]
 |c::cs,b,i,k,h=>by simp only[A0S,A1Y]at k h|-;obtain⟨⟨v,hv,ho,h1⟩,h2⟩:=k;exact⟨⟨v,hv,ho,Rep.cut c v h1 h.1⟩,A0S.cut cs b (i+1) h2 h.2⟩
def A0D.cut{G}{n}(sz:Nat):∀(rs:List (List AV)) (b i:Nat),A0D G sz rs b i->A8U n rs->A0D (G.cut n) sz rs b i
 |[],_,_,_,_=>by simp[A0D]
 |r::rs,b,i,k,h=>by simp only[A0D,A8U]at k h|-;exact⟨⟨k.1.1,A0S.cut r b i k.1.2 h.1⟩,A0D.cut sz rs b (i+sz) k.2 h.2⟩
end
def C5J{G}{es}{xs}(h:A1C G es xs):∀e∈es,bdd G.n e.1/\bdd G.n e.2.1:=by
 induction h with
 |nil=>simp
 |cons h1 _ ih=>
  intro e he;rcases Z0t.1 he with rfl|he
  .exact⟨B3C _ _ h1.1,B3C _ _ h1.2.1⟩
  .exact ih e he
def A1C.cut{G}{n}{es}{xs}(h:A1C G es xs):(∀e∈es,bdd n e.1/\bdd n e.2.1)->A1C (G.cut n) es xs:=by
 induction h with
 |nil=>intro _;exact .nil
 |cons h1 _ ih=>intro hb;exact .cons ⟨Rep.cut _ _ h1.1 (hb _ (by simp)).1,Rep.cut _ _ h1.2.1 (hb _ (by simp)).2,h1.2.2⟩ (ih λe he=>hb e (by simp[he]))
def D6G(n:Nat):A0p->Prop
 |.cells _ cs=>A1Y n cs
 |.vec _ sz cs _ hist=>∀h m,(h,m)∈hist->A1Y n (cs.take (m*sz))
 |.map es _=>∀e∈es,bdd n e.1/\bdd n e.2.1
 |.miter m _ _ _=>∀b∈m,b<n
 |_=>True
def A5J.bdd{G}{w}{k}{o}(h:A5J G w k o):D6G G.n o:=by
 cases o with
 |cells t cs=>obtain⟨vs,_,h2,_⟩:=h;exact C0u _ _ h2
 |vec e sz cs g hist=>intro h' m hm;obtain⟨_,_,b,o,cap,vs,_,_,_,_,_,q,_⟩:=h.2.1 h' m hm;exact C0u _ _ q
 |map es clock=>obtain⟨xs,_,h2,_⟩:=h;exact C5J h2
 |miter m since A1k stepped=>exact h.2.1
 |_=>trivial
def A5J.cut{G}{w}{k n}{o}(h:A5J G w k o)(hb:D6G n o):A5J (G.cut n) w k o:=by
 cases o with
 |gone=>trivial
 |fam m sz=>exact h
 |cells t cs=>obtain⟨vs,h1,h2,h3⟩:=h;exact⟨vs,h1,A0u.cut _ _ h2 hb,h3⟩
 |vec e sz cs g hist=>refine⟨h.1,λh' m hm=>?_,h.2.2⟩;obtain⟨p1,p2,b,o,cap,vs,q1,q2,q3,q4,q5,q6,q7⟩:=h.2.1 h' m hm;exact⟨p1,p2,b,o,cap,vs,q1,q2,q3,q4,q5,A0u.cut _ _ q6 (hb h' m hm),q7⟩
 |map es clock=>obtain⟨xs,h1,h2,h3⟩:=h;exact⟨xs,h1,h2.cut hb,h3⟩
 |siter s pos=>exact h
 |miter m since A1k stepped=>exact⟨h.1,hb,h.2.2⟩
def Inv.cut{C}{G G'}{M X}{w w'}(hi:Inv C G M w)(c:G.le G')(a:Inv C G' (M++X) w'):Inv C (G'.cut M.length) M w'/\G.le (G'.cut M.length):=by
 have hn:=hi.n;refine⟨⟨rfl,a.st,a.keep,λk o hk=>?_,λj k x y b hx hy ox oy=>?_,λg=>?_,a.tab⟩,⟨by simp[A0r.cut,hn],c.blk,c.st,c.keep,c.top,c.hdr⟩⟩
 .have h1:=a.obj k o (by rw[Z0h (A0O hk)];exact hk);have h2:=(hi.obj k o hk).bdd;rw[hn]at h2;exact h1.cut h2
 .refine a.apart j k x y b (by rw[Z0h (A0O hx)];exact hx) (by rw[Z0h (A0O hy)];exact hy) ?_ ?_
  .cases x<;>exact ox
  .cases y<;>exact oy
 .have h2:=B3C _ _ (hi.gl g);rw[hn]at h2;exact Rep.cut _ _ (a.gl g) h2
def A0c.cut{C}{f}{args}{M}{Q:AV->Mem->Prop}(h:A0c C f args M Q){Q':AV->Mem->Prop}(hq:∀r M',Q r M'->∃X,M'=M++X/\bdd M.length r/\Q' r M):A0c C f args M Q':=by intro G w vs hi hr;refine Z2x (h G w vs hi hr) ?_;rintro e w' ⟨r,M',G',v,rfl,h1,h2,h3,h4,h5⟩;obtain⟨X,rfl,hb,a⟩:=hq r M' h1;obtain⟨k1,k2⟩:=hi.cut h2 h3;exact⟨r,M,_,v,rfl,a,k2,k1,Rep.cut _ _ h4 hb,h5⟩
mutual
def flat:AV->Bool
 |.val _=>true
 |.agg cs=>D3Z cs
 |.tuple cs=>D3Z cs
 |.iface _ v=>flat v
 |_=>false
def D3Z:List AV->Bool
 |[]=>true
 |c::cs=>flat c&&D3Z cs
end
structure B1A (f:Mem->Option (AV×Mem)) (M:Mem) (v:AV) (M1:Mem) (ws:List Nat):Prop where
 grow:M.length<=M1.length
 old:∀i,i<M.length->i∉ws->M1[i]?=M[i]?
 keep:A7h M M1
 fill:∀(s:Nat) (X:A0p),M[s]?=some A2d->f (M.set s X)=some (v,M1.set s X)
def B1A.same{f:Mem->Option (AV×Mem)}{M:Mem}{v:AV}{ws:List Nat}(h:∀(s:Nat) (X:A0p),M[s]?=some A2d->f (M.set s X)=some (v,M.set s X)):B1A f M v M ws:=⟨Z0n _,λ_ _ _=>rfl,λ_ h=>h,h⟩
def B1A.put{f:Mem->Option (AV×Mem)}{M:Mem}{v:AV}{b:Nat}{o ob:A0p}{ws:List Nat}(hb:M[b]?=some ob)(a:ob≠A2d)(hw:b∈ws)(h:∀(s:Nat) (X:A0p),M[s]?=some A2d->f (M.set s X)=some (v,(M.set s X).set b o)):B1A f M v (M.set b o) ws:=by
 have ne:∀s:Nat,M[s]?=some A2d->b≠s:=λs hs e=>by subst e;rw[hb]at hs;simp at hs;exact a hs
 refine⟨by simp,λi hi hn=>?_,λs hs=>?_,λs X hs=>?_⟩
 .rw[Z0e (λe:b=i=>hn (by rw[<-e];exact hw))]
 .rw[Z0e (ne s hs)];exact hs
 .rw[h s X hs,List.set_comm _ _ (ne s hs).symm]
def B1A.app{f:Mem->Option (AV×Mem)}{M Y:Mem}{v:AV}{ws:List Nat}(h:∀(s:Nat) (X:A0p),M[s]?=some A2d->f (M.set s X)=some (v,M.set s X++Y)):B1A f M v (M++Y) ws:=by refine⟨by simp,λi hi _=>by rw[Z0h hi],λs hs=>by rw[Z0h (A0O hs)];exact hs,λs X hs=>?_⟩;rw[h s X hs,List.set_append_left _ _ (A0O hs)]
def A2x{M:Mem}{s b:Nat}{X ob:A0p}(hs:M[s]?=some A2d)(hb:M[b]?=some ob)(a:ob≠A2d):(M.set s X)[b]?=some ob:=by rw[Z0e (λe=>by subst e;rw[hb]at hs;simp at hs;exact a hs)];exact hb
def A2n{e sz:Nat}{cs:List AV}{g h n:Nat}{a:List (Nat×Nat)}(hn:a.lookup h=some n):A0p.vec e sz cs g a≠A2d:=by intro e;simp only[A2d,A0p.vec.injEq]at e;rw[e.2.2.2.2]at hn;simp at hn
section
variable {M:Mem} {s:Nat} {X:A0p} (hs:M[s]?=some A2d)
include hs
def D0p{a:AV}{cs:List AV}(h:A2S M a=some cs):A2S (M.set s X) a=some cs:=by
 unfold A2S at h|-;split at h
 .exact h
 .rename_i b off;split at h;case h_2=>simp at h
  rename_i t cs' hb;rw[A2x hs hb (by simp[A2d])];exact h
 .rename_i f g off;split at h;case h_2=>simp at h
  rename_i e sz cs' g' hist hb;split at h;case h_2=>simp at h
  rename_i n hn;rw[A2x hs hb (A2n hn)];simp only[hn];exact h
 .simp at h
def B3r{sz:Nat}{a:AV}{r:List AV×Nat}(h:A0A M sz a=some r):A0A (M.set s X) sz a=some r:=by
 unfold A0A at h|-;split at h
 .exact h
 .exact h
 .exact h
 .rename_i f h' s' lo len;split at h;case h_2=>simp at h
  rename_i e sz' cs' g' hist hb;split at h;case h_2=>simp at h
  rename_i n hn;rw[A2x hs hb (A2n hn)];simp only[hn];exact h
 .simp at h
def B8k{a:AV}{es:List (AV×AV×Nat)}(h:A4F M a=some es):A4F (M.set s X) a=some es:=by
 unfold A4F at h|-;split at h
 .exact h
 .rename_i b;split at h;case h_2=>simp at h
  rename_i es' c hb;rw[A2x hs hb (by simp[A2d])];exact h
 .simp at h
def C5j{P:Program}{t:TypeId}{x:AV}{n:Nat}(h:A3v P t M x=some n):A3v P t (M.set s X) x=some n:=by
 unfold A3v at h|-;split at h
 .rename_i b;split at h;case h_2=>simp at h
  rename_i k e es c hu hb;rw[A2x hs hb (by simp[A2d]),hu];exact h
 .simp at h
end
def A5c(o:Oper)(ρ:Operand->AV):List Nat:=match o.op with
 |.store _ a _=>match ρ a with|.ptr b _=>[b]|.vptr f _ _=>[f]|_=>[]
 |.mapUpdate _ m _ _=>match ρ m with|.mapr b=>[b]|_=>[]
 |.insert _ m _ _=>match ρ m with|.mapr b=>[b]|_=>[]
 |.next x _=>match ρ x with|.ptr b _=>[b]|_=>[]
 |.call {callee:=.builtin _,args,..}=>match args.toList with
  |d::_=>match ρ d with|.vref f _ _ _ _=>[f]|.vptr f _ _=>[f]|_=>[]
  |[]=>[]
 |_=>[]
def C4j{C:Ctx}{h:A2r}{o:Oper}{ρ:Operand->AV}{M M':Mem}{v:AV}(he:A1u C h o ρ M=some (v,M')):B1A (A1u C h o ρ) M v M' (A5c o ρ):=by
 obtain⟨d,op,t,p,af,g⟩:=o;have c:=he;unfold A1u at he;simp only at he;split at he
 .rename_i ty x;split at he;case h_3=>simp at he
  all_goals
   rename_i hx
   simp only[Z0j,Z0f,Z1X]at he
   obtain⟨u,⟨cs,h1,h2⟩,rfl,rfl⟩:=he
   refine .same λs X hs=>?_
   simp only[A1u,hx,D0p hs h1,Z2U,h2,Z1f]
 .rename_i ty a x;split at he;case h_3=>simp at he
  .rename_i b off hb;split at he;(case h_2=>simp at he);rename_i bt cs hM;split at he;(case isFalse=>simp at he);rename_i hc;simp only[Z0b,Z0f]at he;obtain⟨rfl,rfl⟩:=he;refine .put hM (by simp[A2d]) (by simp[A5c,hb]) λs X hs=>?_;simp only[A1u,hb,A2x hs hM (by simp[A2d]),hc,Z0M]
  .rename_i f g' off hb;split at he;(case h_2=>simp at he);rename_i vt sz cs g2 hist hM;split at he;(case h_2=>simp at he);rename_i n hn;split at he;(case isFalse=>simp at he);rename_i hc;simp only[Z0b,Z0f]at he;obtain⟨rfl,rfl⟩:=he;refine .put hM (A2n hn) (by simp[A5c,hb]) λs X hs=>?_;simp only[A1u,hb,A2x hs hM (A2n hn),hn,hc,Z0M]
 .rename_i e;split at he;case h_2=>simp at he
  rename_i z hz;split at he;case isFalse=>simp at he
  rename_i hc;simp only[Z0b,Z0f]at he;obtain⟨rfl,rfl⟩:=he;refine .app λs X hs=>?_;simp only[A1u,hz,hc,Z0M,Z1W]
 .rename_i e x;split at he;case isFalse=>simp at he
  rename_i hc;simp only[Z0b,Z0f]at he;obtain⟨rfl,rfl⟩:=he;refine .app λs X hs=>?_;simp only[A1u,hc,Z0M,Z1W]
 .simp at he
def C1m{P:Program}{t:TypeId}{m k:AV}{ok:Bool}{M:Mem}{s:Nat}{X:A0p}(hs:M[s]?=some A2d){v:AV}(h:A1S P t M m k ok=some v):A1S P t (M.set s X) m k ok=some v:=by
 unfold A1S at h|-;cases he:A4F M m with
 |none=>rw[he]at h;cases hk:A9B P t<;>rw[hk]at h<;>simp at h
 |some es=>rw[B8k hs he];rw[he]at h;exact h
def B6C{P:Program}{t:TypeId}{m k x v0:AV}{M M':Mem}{ws:List Nat}(h:A1N P t M m k x=some M')(hw:∀b,m=.mapr b->b∈ws):B1A (λM=>(A1N P t M m k x).map λM'=>(v0,M')) M v0 M' ws:=by
 have key:∃b es c o,m=.mapr b/\M[b]?=some (.map es c)/\M'=M.set b o/\∀M2:Mem,M2[b]?=some (.map es c)->A1N P t M2 m k x=some (M2.set b o):=by
  unfold A1N at h;split at h;case h_2=>simp at h
  rename_i kt et b hkv;split at h;case h_2=>simp at h
  rename_i es clock hM;split at h;case isFalse=>simp at h
  rename_i hc;split at h
  .rename_i i e0 hf;split at h;(case h_2=>simp at h);rename_i ok e1 born hes;split at h;(case h_2=>simp at h);rename_i a c ha hc2;split at h;(case isFalse=>simp at h);rename_i hsb;simp only[Z0b]at h;subst h;exact⟨b,es,clock,_,rfl,hM,rfl,λM2 h2=>by simp only[A1N,hkv,h2,hc,Z0M,hf,hes,ha,hc2,hsb]⟩
  .rename_i hf;simp only[Z0b]at h;subst h;exact⟨b,es,clock,_,rfl,hM,rfl,λM2 h2=>by simp only[A1N,hkv,h2,hc,Z0M,hf]⟩
  .simp at h
 obtain⟨b,es,c,o,hm,hM,rfl,hf⟩:=key;refine .put hM (by simp[A2d]) (hw b hm) λs X hs=>?_;simp only[hf _ (A2x hs hM (by simp[A2d])),Z1f]
def D2H{P:Program}{t u:TypeId}{d s0 v:AV}{M M':Mem}{ws:List Nat}(h:A7m P t u M d s0=some (v,M'))(hw:∀f g sz lo len,d=.vref f g sz lo len->f∈ws):B1A (λM=>A7m P t u M d s0) M v M' ws:=by
 unfold A7m at h;split at h;case h_2=>simp at h
 rename_i e he;split at h;case h_2=>simp at h
 rename_i sz hsz;split at h;case h_2=>simp at h
 rename_i news m hsrc;split at h;case h_2=>simp at h
 rename_i f g sz' lo len;split at h;case h_2=>simp at h
 rename_i ety sz2 cs g' hist hM;split at h;case h_2=>simp at h
 rename_i n hn;split at h;case isFalse=>simp at h
 rename_i hc;split at h
 .rename_i h0;simp only[Z0b,Z0f]at h;obtain⟨rfl,rfl⟩:=h;refine .same λs X hs=>?_;simp only[A7m,he,hsz,B3r hs hsrc,A2x hs hM (A2n hn),hn,Z0d hc,Z0d h0]
 .rename_i h0;simp only[Z0b,Z0f]at h;obtain⟨rfl,rfl⟩:=h;refine .put hM (A2n hn) (hw _ _ _ _ _ rfl) λs X hs=>?_;simp only[A7m,he,hsz,B3r hs hsrc,A2x hs hM (A2n hn),hn,Z0d hc,Z0c h0]
def C5t{P}{t:TypeId}{n}{parts}{v}{M M'}{ws}(h:A1J P t n parts M=some (v,M')):B1A (A1J P t n parts) M v M' ws:=by
 unfold A1J at h;split at h;case h_2=>simp at h
 rename_i e he;split at h;case h_2=>simp at h
 rename_i sz z hs hz;split at h;case isFalse=>simp at h
 rename_i hc;simp only[Z0j,Z0f]at h;obtain⟨rows,hr,rfl,rfl⟩:=h;refine .app λs X hs'=>?_;simp only[A1J,he,hs,hz,Z0d hc,hr,Z1f,Z1W]
def C9L{P}{t:TypeId}{l c v}{M M'}{ws}(h:A4V P t l c M=some (v,M')):B1A (A4V P t l c) M v M' ws:=by
 unfold A4V at h;split at h;case h_2=>simp at h
 rename_i e kl l kc c he;split at h;case h_2=>simp at h
 rename_i sz z b hs hz hb;split at h;case isFalse=>simp at h
 rename_i hc;simp only[Z0b,Z0f]at h;obtain⟨rfl,rfl⟩:=h;refine .app λs X hs'=>?_;simp only[A4V,he,hs,hz,hb,Z0d hc,Z1W]
def C1s{C:Ctx}{h:A2r}{o:Oper}{ρ:Operand->AV}{M M':Mem}{v:AV}(he:A1p C h o ρ M=some (v,M')):B1A (A1p C h o ρ) M v M' (A5c o ρ):=by
 obtain⟨d,op,t,p,af,g⟩:=o;unfold A1p at he;simp only at he;split at he
 .rename_i ty n parts;split at he;case isFalse=>simp at he
  rename_i hv;have e:A1p C h ⟨d,.buildSlice ty n parts,t,p,af,g⟩ ρ=A1J C.P ty n (parts.toList.map λp=>(p.1,ρ p.2)):=by funext M2;simp only[A1p,hv,Z0M]
  rw[e];exact C5t he
 .rename_i ty l c;exact C9L he
 .rename_i ty;simp only[Z0b,Z0f]at he;obtain⟨rfl,rfl⟩:=he;refine .app λs X hs=>?_;simp only[A1p,Z1W]
 .rename_i ty m k ok;simp only[Z0j,Z0f]at he;obtain⟨v',hv,rfl,rfl⟩:=he;refine .same λs X hs=>?_;simp only[A1p,C1m hs hv,Z1f]
 .rename_i ty m k x;simp only[Z0j,Z0f]at he;obtain⟨M2,i,rfl,rfl⟩:=he;exact B6C i (λb hb=>by simp[A5c,hb])
 .rename_i ty m k x;simp only[Z0j,Z0f]at he;obtain⟨M2,i,rfl,rfl⟩:=he;exact B6C i (λb hb=>by simp[A5c,hb])
 .rename_i b args ts;have e:A1p C h ⟨d,.call {callee:=.builtin b,args:=args,argTypes:=ts},t,p,af,g⟩ ρ=A3u C.P b ts.toList (args.toList.map ρ):=rfl;rw[e];unfold A3u at he;split at he
  .rename_i t' x hts hargs;simp only[Z0j,Z0f]at he;obtain⟨n,hn,rfl,rfl⟩:=he;cases hl:A3v C.P t' M x with
   |none=>rw[hl]at hn;simp at hn
   |some m=>refine .same λs X hs=>?_;rw[hts,hargs];rw[hl]at hn;simp only[A3u,C5j hs hl];rw[hn];rfl
  .rename_i t' hts hargs;split at he
   .rename_i hu;simp only[Z0b,Z0f]at he;obtain⟨rfl,rfl⟩:=he;refine .same λs X hs=>?_;rw[hts,hargs];simp only[A3u,hu]
   .simp at he
  .rename_i t' u x s0 hts hargs;rw[hts,hargs];refine D2H he (λf g sz lo len hx=>?_);cases hl:args.toList with
   |nil=>rw[hl]at hargs;simp at hargs
   |cons a l=>rw[hl]at hargs;simp only[Z0s,Z1c]at hargs;simp only[A5c,hl];rw[hargs.1,hx];simp
  .simp at he
 .simp at he
def C8H{C:Ctx}{o:Oper}{ρ:Operand->AV}{M M':Mem}{v:AV}(he:A3N C o ρ M=some (v,M')):B1A (A3N C o ρ) M v M' (A5c o ρ):=by
 obtain⟨d,op,t,p,af,g⟩:=o;unfold A3N at he;simp only at he;split at he
 .rename_i ty x;unfold A7X at he;split at he;case h_2=>simp at he
  rename_i str hu hx;simp only[Z0b,Z0f]at he;obtain⟨rfl,rfl⟩:=he;refine .app λs X hs=>?_;simp only[A3N,A7X,hu,hx,Z1W]
 .rename_i x;unfold A7e at he;split at he;case h_2=>simp at he
  rename_i b hx;split at he;case h_2=>simp at he
  rename_i str pos hM;split at he
  .rename_i hlt;simp only[Z0b,Z0f]at he;obtain⟨rfl,rfl⟩:=he;refine .put hM (by simp[A2d]) (by simp[A5c,hx]) λs X hs=>?_;simp only[A3N,hx,A7e,A2x hs hM (by simp[A2d]),Z0d hlt]
  .rename_i hlt;simp only[Z0b,Z0f]at he;obtain⟨rfl,rfl⟩:=he;refine .same λs X hs=>?_;simp only[A3N,hx,A7e,A2x hs hM (by simp[A2d]),Z0c hlt]
 .rename_i ty x lo hi mx;simp only[Z0j,Z0f]at he;obtain⟨v',hv,rfl,rfl⟩:=he;refine .same λs X hs=>?_;have key:A3w C.P ty (M.set s X) (ρ x) (lo.map ρ) (hi.map ρ) (mx.map ρ)=some v':=by unfold A3w at hv|-;split at hv;(case h_2=>simp at hv);rename_i f g' sz lo0 len;split at hv;(case h_2=>simp at hv);rename_i hA e1 s1 cs g1 hist hM hM2;split at hv;(case h_2=>simp at hv);rename_i n hn;simp only[hM,A2x hs hM2 (A2n hn),hn];exact hv
  simp only[A3N,key,Z1f]
 .rename_i a b x;split at he
  .rename_i v' hv;simp only[Z0b,Z0f]at he;obtain⟨rfl,rfl⟩:=he;refine .same λs X hs=>?_;simp only[A3N,hv]
  .rename_i hnone;simp only[Z0j,Z0f]at he;obtain⟨v',hv,rfl,rfl⟩:=he;refine .same λs X hs=>?_;have key:B8X C.P a b (M.set s X) (ρ x)=some v':=by
    unfold B8X at hv|-;split at hv
    .split at hv;(case h_2=>simp at hv);rename_i bt cs n hM hn;rw[A2x hs hM (by simp[A2d])];simp only[hn];exact hv
    .split at hv;(case h_2=>simp at hv);rename_i bt cs n hM hn;rw[A2x hs hM (by simp[A2d])];simp only[hn];exact hv
    .simp at hv
   simp only[A3N,hnone,key,Z1f]
 .rename_i b args ts;have e:A3N C ⟨d,.call {callee:=.builtin b,args:=args,argTypes:=ts},t,p,af,g⟩ ρ=A4o C.P b ts.toList (args.toList.map ρ):=rfl;rw[e];have hd:∀x l,args.toList.map ρ=x::l->∀f,(∃g' sz lo len,x=.vref f g' sz lo len)\/(∃g' off,x=.vptr f g' off)->f∈A5c ⟨d,.call {callee:=.builtin b,args:=args,argTypes:=ts},t,p,af,g⟩ ρ:=by
   intro x l hl f hf;cases ha:args.toList with
   |nil=>rw[ha]at hl;simp at hl
   |cons a l2=>rw[ha]at hl;simp only[Z0s,Z1c]at hl;simp only[A5c,ha];rw[hl.1];rcases hf with⟨_,_,_,_,rfl⟩|⟨_,_,rfl⟩<;>simp
  unfold A4o at he;split at he
  .rename_i ty x hts hargs;rw[hts,hargs];unfold A7v at he;split at he;(case h_2=>simp at he);rename_i f g' sz lo len;split at he;(case h_2=>simp at he);rename_i e0 hel;split at he;(case h_2=>simp at he);rename_i z ety sz2 cs g2 hist hz hM;split at he;(case h_2=>simp at he);rename_i n hn;split at he;(case isFalse=>simp at he);rename_i hc;split at he
   .rename_i h0;simp only[Z0b,Z0f]at he;obtain⟨rfl,rfl⟩:=he;refine .same λs X hs=>?_;simp only[A4o,A7v,hel,hz,A2x hs hM (A2n hn),hn,Z0d hc,Z0d h0]
   .rename_i h0;simp only[Z0b,Z0f]at he;obtain⟨rfl,rfl⟩:=he;refine .put hM (A2n hn) (hd _ _ hargs f (.inl ⟨_,_,_,_,rfl⟩)) λs X hs=>?_;simp only[A4o,A7v,hel,hz,A2x hs hM (A2n hn),hn,Z0d hc,Z0c h0]
  .rename_i x hargs;simp only[Z0j,Z0f]at he;obtain⟨v',hv,rfl,rfl⟩:=he;refine .same λs X hs=>?_;rw[hargs];have key:A4r (M.set s X) x=some v':=by
    unfold A4r at hv|-;split at hv
    .exact hv
    .split at hv;(case h_2=>simp at hv);rename_i ety sz2 cs g2 hist hM;split at hv;(case h_2=>simp at hv);rename_i n hn;simp only[A2x hs hM (A2n hn),hn];exact hv
    .simp at hv
   simp only[A4o,key,Z1f]
  .rename_i pt it pp nn hts hargs;rw[hts,hargs];unfold A3q at he;split at he;(case h_2=>simp at he);rename_i n;split at he
   .rename_i h0;subst h0;refine ?_;split at he
    .simp only[Z0b,Z0f]at he;obtain⟨rfl,rfl⟩:=he;exact .same λs X hs=>by simp only[A4o,A3q,Z0M]
    .simp only[Z0b,Z0f]at he;obtain⟨rfl,rfl⟩:=he;exact .same λs X hs=>by simp only[A4o,A3q,Z0M]
    .simp at he
   .rename_i h0;split at he;(case h_2=>simp at he);rename_i f g' off;split at he;(case h_2=>simp at he);rename_i e0 ety cs g2 hist hu hM;split at he;(case h_2=>simp at he);rename_i m hm;split at he;(case isFalse=>simp at he);rename_i hc;split at he;(case h_2=>simp at he);rename_i l hl;simp only[Z0b,Z0f]at he;obtain⟨rfl,rfl⟩:=he;refine .put hM (A2n hm) (hd _ _ hargs f (.inr ⟨_,_,rfl⟩)) λs X hs=>?_;simp only[A4o,A3q,Z0c h0,hu,A2x hs hM (A2n hm),hm,Z0d hc,hl]
  .simp at he
 .simp at he
def B1A.of{f g:Mem->Option (AV×Mem)}{M M1}{v}{ws}(h:B1A f M v M1 ws)(a:∀M2 v M',f M2=some (v,M')->g M2=some (v,M')):B1A g M v M1 ws:=⟨h.grow,h.old,h.keep,λs X hs=>a _ _ _ (h.fill s X hs)⟩
def C4s{C}{h}{o}{ρ:Operand->AV}{M}{r}(he:A1p C h o ρ M=some r):∀M2,A1u C h o ρ M2=none:=by obtain⟨d,op,t,p,af,g⟩:=o;intro M2;cases op<;>first|rfl|(simp[A1p]at he;done)
def C9J{C}{h}{o}{ρ:Operand->AV}{M}{r}(he:A3N C o ρ M=some r):∀M2,A1u C h o ρ M2=none/\A1p C h o ρ M2=none:=by
 obtain⟨d,op,t,p,af,g⟩:=o;intro M2;cases op<;>first|exact⟨rfl,rfl⟩|(simp[A3N]at he;done)|skip
 case call c=>
  obtain⟨callee,args,ts⟩:=c;cases callee with
  |builtin b=>refine⟨rfl,?_⟩;cases b<;>first|rfl|(simp[A3N,A4o]at he;done)
  |_=>simp[A3N]at he
def B8A{C}{h}{o}{ρ:Operand->AV}{v}(he:A0Y C o ρ=some v):∀M2,A1u C h o ρ M2=none/\A1p C h o ρ M2=none:=by obtain⟨d,op,t,p,af,g⟩:=o;intro M2;cases op<;>first|exact⟨rfl,rfl⟩|(simp[A0Y]at he;done)
def C7Y{C}{h}{o}{ρ:Operand->AV}{M M'}{v}(he:A0Q C h o ρ M=some (v,M')):B1A (A0Q C h o ρ) M v M' (A5c o ρ):=by
 unfold A0Q at he;split at he
 .rename_i u hu;simp only[Z0b,Z0f]at he;obtain⟨rfl,rfl⟩:=he;exact .same λs X hs=>by simp only[A0Q,hu]
 rename_i hp;split at he
 .rename_i r hr;simp only[Z0b]at he;subst he;exact(C4j hr).of λM2 v2 M3 h2=>by simp only[A0Q,hp,h2]
 split at he
 .rename_i r hr;simp only[Z0b]at he;subst he;exact(C1s hr).of λM2 v2 M3 h2=>by simp only[A0Q,hp,C4s hr,h2]
 split at he
 .rename_i u hu;simp only[Z0b,Z0f]at he;obtain⟨rfl,rfl⟩:=he;have h1:=B8A (h:=h) hu;exact .same λs X hs=>by simp only[A0Q,hp,(h1 _).1,(h1 _).2,hu]
 .rename_i hp1;have h1:=C9J (h:=h) he;exact(C8H he).of λM2 v2 M3 h2=>by simp only[A0Q,hp,(h1 _).1,(h1 _).2,hp1,h2]

inductive BT where
 |leaf (v:AV)
 |node (l r:BT)
abbrev XR:=AV×Mem×List Nat
structure D0y (f:Mem->Option XR) (M:Mem) (v:AV) (M1:Mem) (ws:List Nat):Prop where
 grow:M.length<=M1.length
 old:∀i,i<M.length->i∉ws->M1[i]?=M[i]?
 keep:A7h M M1
 fill:∀(s:Nat) (X:A0p),M[s]?=some A2d->f (M.set s X)=some (v,M1.set s X,ws)
def D0y.same{f:Mem->Option XR}{M:Mem}{v:AV}{ws:List Nat}(h:∀(s:Nat) (X:A0p),M[s]?=some A2d->f (M.set s X)=some (v,M.set s X,ws)):D0y f M v M ws:=⟨Z0n _,λ_ _ _=>rfl,λ_ h=>h,h⟩
def C7x{M}{p}{l}(hb:B6s M (p::l)):M[p.1]?=some A2d/\B6s (M.set p.1 p.2) l:=by obtain⟨h1,h2⟩:=hb;simp only[Z0s,Z1A]at h2;refine⟨h1 p (by simp),λq hq=>?_,h2.2⟩;rw[Z0e (λe=>h2.1 (by rw[e];exact Z2G hq))];exact h1 q (by simp[hq])


def A5y{ops}{o}{T}{r r' s s':Prop}(hr:r->r')(hs:s->s')(h:A2B ops o T r s):A2B ops o T r' s':=by
 unfold A2B at h|-;split at h
 .exact hr h
 .split at h
  .split at h
   .split at h
    .rename_i e;rw[Z0d e];exact hr h
    .rename_i e;rw[Z0c e];exact hs h
   .exact hs h
   .exact h.elim
  .exact h.elim
def D3B{C}{h}{o}{K K':AV->Mem->Prop}{ρ:Operand->AV}{M}(hk:∀v m,K v m->K' v m)(hv:A4D C h o K ρ M):A4D C h o K' ρ M:=by
 unfold A4D at hv|-;split at hv
 .split at hv
  .exact hv.mono hk
  .exact hv.elim
 .split at hv
  .obtain⟨e,sz,bytes,h1,h2⟩:=hv;refine⟨e,sz,bytes,h1,?_⟩;split at h2
   .exact hk _ _ h2
   .exact h2.elim
  .exact hv.elim
 .split at hv
  .exact hk _ _ hv
  .exact⟨hv.1,λb=>hk _ _ (hv.2 b)⟩
def B2P{P}{f}{fn}{c}(hf:P.funcs[f]?=some fn)(hb:fn.body=some c)(hn:(fn.name== "runtime.NumGoroutine")=false):D5H P f:=by
 intro args w;have a:¬fn.name= "runtime.NumGoroutine":=by simpa using hn
 simp[callFunc,hf,hb,a]
end Go.Abs
