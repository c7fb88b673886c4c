/- The texts SoM, WkS, WkM, WkQ, WkF, WkJ, WkK, WkA, WkD, WkG, WkU. -/
import Derived.Test.YtjmjekcaifkboaaGreatDoorQG14
import Derived.Test.YtjmjekcaifkboaaGreatDoorQG15
import Derived.Test.YtjmjekcaifkboaaGreatDoorQG02
set_option linter.all false
namespace Go.Abs
section
variable {α:Type}
def A2C{g n:Nat}(q:Nat×Nat->Bool):∀{b:List (Nat×Nat)},b.lookup g=some n->(b.filter λx=>x.1==g||q x).lookup g=some n
 |[],h=>by simp at h
 |a::l,h=>by
  by_cases c:a.1=g
  ·(have e:(a.1==g||q a)=true:=by simp[c]);rw[Z2s,Z0c e]
   obtain⟨a1,a2⟩:=a;simp only at c;subst c;simpa[List.lookup]using h
  ·(have hl:l.lookup g=some n:=by obtain⟨a1,a2⟩:=a;(have:(g==a1)=false:=by simpa usingλe=>c e.symm);simpa[List.lookup,this]using h);have ih:=A2C q hl;by_cases e:(a.1==g||q a)=true
   .rw[Z2s,Z0c e];obtain⟨a1,a2⟩:=a;(have:(g==a1)=false:=by simpa usingλe=>c e.symm);simpa[List.lookup,this]using ih
   .rw[Z2s,Z0d e];exact ih
def A2d{enc:α->List AV}{sz}(he:∀x,(enc x).length=sz):∀l:List α,(l.flatMap enc).length=l.length*sz
 |[]=>by simp
 |x::l=>by rw[Z0y,Z0k,he,A2d he l,Z0r,Z3r];omega
def A3q{enc:α->List AV}{sz}(he:∀x,(enc x).length=sz):∀(i:Nat) (l:List α),(l.flatMap enc).drop (i*sz)=(l.drop i).flatMap enc
 |0,l=>by simp
 |i+1,[]=>by simp
 |i+1,x::l=>by rw[Z0y,Z4a,Z3r,Z4z,Z4v,he];rw[Z0v (by rw[he];omega),Z1y,show sz+i*sz-sz=i*sz by omega];exact A3q he i l
def A7b{enc:α->List AV}{sz:Nat}(he:∀x,(enc x).length=sz):∀(i:Nat) (l:List α),(l.flatMap enc).take (i*sz)=(l.take i).flatMap enc
 |0,l=>by simp
 |i+1,[]=>by simp
 |i+1,x::l=>by rw[Z0y,Z1h,Z3r,Z4z,Z3O,he];rw[Z0e (by rw[he];omega),show sz+i*sz-sz=i*sz by omega,Z0y];rw[A7b he i l]
def B0X{enc:α->List AV}{sz:Nat}(he:∀x,(enc x).length=sz)(l:List α)(i:Nat)(x:α)(hi:i<l.length):A0e (l.flatMap enc) (i*sz) (enc x)=(l.set i x).flatMap enc:=by rw[A0e,he,show i*sz+sz=(i+1)*sz by rw[Z3r],A3q he,A7b he,Z2r,Z0c hi];simp
def AtA(e sz f g n:Nat)(enc:α->List AV)(M0:Mem)(D:Nat->α)(M:Mem):Prop:=∃hist,M=M0.set f (.vec e sz ((ofD D n).flatMap enc) g hist)/\hist.lookup g=some n
section
variable {e sz f g n:Nat} {enc:α->List AV} {M0 M:Mem} {D:Nat->α}
def AtA.get(h:AtA e sz f g n enc M0 D M)(hf:f<M0.length):∃a,M[f]?=some (.vec e sz ((ofD D n).flatMap enc) g a)/\a.lookup g=some n:=by obtain⟨a,rfl,hl⟩:=h;exact⟨a,by simp[hf],hl⟩
def AtA.load{P:Program}{t:TypeId}(h:AtA e sz f g n enc M0 D M)(hf:f<M0.length)(he:∀x,(enc x).length=sz)(ha:A2z P t=some true)(hs:A1n P t=some sz){i:Nat}(hi:i<n):A0E P t M (.vptr f g (i*sz))=some (.agg (enc (D i))):=by obtain⟨b,hm,hl⟩:=h.get hf;have a:=A2d he (ofD D n);rw[C6Q]at a;simp only[A0E,A2g,hm,hl,Z2g,A0h,ha,hs];rw[Z0e Q0,A3q he,Z0m ZAS,Z0y,A8S,A7o];rw[Z0c (by rw[Z0k,he];omega),Z3O,he,Z4w,Z0e (by rw[he];omega),Z2c,Z1b]
def AtA.store(h:AtA e sz f g n enc M0 D M)(hf:f<M0.length)(he:∀x,(enc x).length=sz){i:Nat}(hi:i<n)(x:α):∃M',A0k (some sz) M (.vptr f g (i*sz)) (.agg (enc x))=some M'/\AtA e sz f g n enc M0 (upd D i x) M':=by
 obtain⟨a,hm,hl⟩:=h.get hf;have b:i*sz+sz<=n*sz:=by rw[<-Z3r];exact Z0V _ hi
 refine⟨M.set f (.vec e sz (A0e ((ofD D n).flatMap enc) (i*sz) (enc x)) g (A0Q sz g (i*sz) a)),?_,?_⟩
 .simp only[A0k,hm,hl,AV.storable,AV.cells,he,Z0A b,Z3I,Z2H,Z1e]
 .obtain⟨c,rfl,_⟩:=h;refine⟨A0Q sz g (i*sz) a,?_,A2C _ hl⟩;rw[Z2q,B0X he _ _ _ ZAS,C2X]
def AtA.start{a:List (Nat×Nat)}(hM:M[f]?=some (.vec e sz ((ofD D n).flatMap enc) g a))(hl:a.lookup g=some n):AtA e sz f g n enc M D M:=by refine⟨a,?_,hl⟩;obtain⟨h1,h2⟩:=Z0a.1 hM;rw[<-h2,Z3P]
end
end
set_option maxRecDepth 100000
def obj(v:AV):Option Nat:=match v with
 |.vref f _ _ _ _=>some f
 |_=>none
@[simp] def E2Z:obj (.val (.slice none 0 0))=none:=(rfl)
@[simp] def E2Q{f g s lo n}:obj (.vref f g s lo n)=some f:=(rfl)
def A0d(o:Option Nat)(M M':Mem):Prop:=M.length<=M'.length/\∀i,i<M.length->o≠some i->M'[i]?=M[i]?
def A0d.refl(o:Option Nat)(M:Mem):A0d o M M:=⟨Z0j _,λ_ _ _=>rfl⟩
def A0d.trans{o}{A B C}(h1:A0d o A B)(h2:A0d o B C):A0d o A C:=⟨Z0J h1.1 h2.1,λi hi ho=>(h2.2 i (Z0S hi h1.1) ho).trans (h1.2 i hi ho)⟩
def A0d.of_none{o}{A B}(h:A0d none A B):A0d o A B:=⟨h.1,λi hi _=>h.2 i hi Q1⟩
def A0d.app(o:Option Nat)(M X:Mem):A0d o M (M++X):=⟨Q1,λi hi _=>by rw[Z0o hi]⟩
def A0d.set(M:Mem)(f:Nat)(X:A0m):A0d (some f) M (M.set f X):=⟨Q1,λi hi ho=>by rw[Z0f (by intro e;exact ho (by rw[e]))]⟩
def A0d.get{o}{A B}(h:A0d o A B){i}{X}(hx:A[i]?=some X)(ho:o≠some i):B[i]?=some X:=by rw[h.2 i (by have:=(Z0a.1 hx).1;exact this) ho,hx]
def A1L(n:Nat)(v:AV):Prop:=∀f,obj v=some f->n<=f
abbrev Grow(M M':Mem):Prop:=A0d none M M'
def A1r{α:Type}(e sz:Nat)(enc:α->List AV)(M:Mem)(v:AV)(l:List α):Prop:=(v=.val (.slice none 0 0)/\l=[])\/∃f g hist,v=.vref f g sz 0 l.length/\M[f]?=some (.vec e sz (l.flatMap enc) g hist)/\hist.lookup g=some l.length
section
variable {α:Type} {e sz:Nat} {enc:α->List AV} {M M':Mem} {v:AV} {l:List α}
def A1r.nil:A1r e sz enc M (.val (.slice none 0 0)) []:=.inl ⟨rfl,rfl⟩
def A1r.lt(h:A1r e sz enc M v l){f}(hf:obj v=some f):f<M.length:=by
 rcases h with⟨rfl,_⟩|⟨f',g,a,rfl,hm,_⟩
 .simp at hf
 .simp at hf;subst hf;exact(Z0a.1 hm).1
def A1r.keep(h:A1r e sz enc M v l){o}(hk:A0d o M M')(ho:∀f,obj v=some f->o≠some f):A1r e sz enc M' v l:=by
 rcases h with⟨rfl,h⟩|⟨f',g,a,rfl,hm,hl⟩
 .exact .inl ⟨rfl,h⟩
 .exact .inr ⟨f',g,a,rfl,hk.get hm (ho _ rfl),hl⟩
def A1r.src(he:∀x,(enc x).length=sz)(h:A1r e sz enc M v l):A0D M sz v=some (l.flatMap enc,l.length):=by
 rcases h with⟨rfl,rfl⟩|⟨f',g,a,rfl,hm,hl⟩
 .rfl
 .simp only[A0D,hm,hl];rw[Z0c ⟨trivial,trivial,Q0⟩,Z1S,Z1z,Z0e ZBD]
def A1r.store(h:A1r e sz enc M v l):v.storable=true:=by rcases h with⟨rfl,rfl⟩|⟨f',g,a,rfl,hm,hl⟩<;>rfl
def A1r.cells(h:A1r e sz enc M v l):v.cells=[v]:=by rcases h with⟨rfl,rfl⟩|⟨f',g,a,rfl,hm,hl⟩<;>rfl
def A1r.len(h:A1r e sz enc M v l){P}{t e':TypeId}(ht:P.underlying t=some (.slice e')):A3k P t v=some l.length:=by rcases h with⟨rfl,rfl⟩|⟨f',g,a,rfl,hm,hl⟩<;>simp[A3k,ht]
def A1r.at_{P}{t:TypeId}(h:A1r e sz enc M v l)(he:∀x,(enc x).length=sz)(ha:A2z P t=some true)(hs:A1n P t=some sz){i}(hi:i<l.length):∃p,A6j (some (some sz)) v (.val (.int .i64 i))=some p/\A2g M p=some ((l.drop i).flatMap enc)/\A0E P t M p=some (.agg (enc l[i]))/\A5t p=obj v:=by
 rcases h with⟨rfl,rfl⟩|⟨f,g,a,rfl,hm,hl⟩
 .simp at hi
 .refine⟨.vptr f g (i*sz),by simp[hi],?_,?_,rfl⟩
  .simp only[A2g,hm,hl];rw[Z0e ZBD,A3q he]
  .simp only[A0E,A2g,hm,hl,Z2g,A0h,ha,hs];rw[Z0e ZBD,A3q he,Z0m hi,Z0y,A7o];rw[Z0c (by rw[Z0k,he];omega),Z3O,he,Z4w,Z0e (by rw[he];omega),Z2c,Z1b]
end
section
variable {C:Ctx} {M:Mem} {K:AV->Mem->Prop} {α:Type} {enc:α->List AV}
def A3B{own vec}{st xt e:TypeId}{sz bytes}{s x}{l news}{tg}(h1:A1b C.P st=some e)(h2:A4j C.P xt)(h3:A4g C.P e sz bytes)(he:∀x,(enc x).length=sz)(ho:A1r e sz enc M s l)
 (hx:A0D M sz x=some (news.flatMap enc,news.length))(hb:(l.length+news.length)*bytes<=140737488355328)(b:vec=true)
 (hk:∀v' M',A1r e sz enc M' v' (l++news)->A0d (obj s) M M'->(obj v'=obj s\/A1L M.length v')->(news=[]->v'=s/\M'=M)->K v' M'):A3s C own vec st xt s x M K tg:=by
 subst b
 rcases ho with⟨rfl,rfl⟩|⟨f,g,a,rfl,hf,hl⟩
 .refine A5n h1 h2 h3 (by rfl) hx hb (by simp only[A5q,hx]) ?_ rfl;simp only[A6u,hx];by_cases h0:news.length=0
  .rw[Z0c h0];have hn:news=[]:=Z0w h0;subst hn;exact hk _ _ (.inl ⟨rfl,rfl⟩) (A0d.refl _ _) (.inl rfl) λ_=>⟨rfl,rfl⟩
  .rw[Z0d h0];(refine hk _ _ (.inr ⟨M.length,0,[(0,news.length)],Q1,Q1,ZAQ⟩) (.app _ _ _) (.inr ?_) λhn=>by subst hn;simp at h0);intro f hf;simp at hf;omega
 .have d:A0D M sz (.vref f g sz 0 l.length)=some (l.flatMap enc,l.length):=A1r.src he (.inr ⟨f,g,a,rfl,hf,hl⟩);refine A5n h1 h2 h3 d hx hb ?_ ?_ rfl
  .simp only[A5q,hx,hf,hl];rw[Z0d Q0]
  .simp only[A6u,hx,hf,hl];rw[Z0c ⟨trivial,trivial,trivial,Q0⟩];by_cases h0:news.length=0
   .rw[Z0c h0];have hn:news=[]:=Z0w h0;subst hn;simp only[Z1b]at hk;exact hk _ _ (.inr ⟨f,g,a,rfl,hf,hl⟩) (A0d.refl _ _) (.inl rfl) λ_=>⟨rfl,rfl⟩
   .rw[Z0d h0];have c:f<M.length:=(Z0a.1 hf).1;(refine hk _ _ (.inr ⟨f,g+1,(g+1,l.length+news.length)::a.filter (λp=>decide (p.2<=l.length)),Q1,?_,ZAQ⟩) (.set _ _ _) (.inl rfl) λhn=>by subst hn;simp at h0);simp only[Z2T,c,Z1e,Z1S,Z1z];rw[Z0e ZBD,Z1n]
def B1u{f}{args}{Q:Value->Prop}(h:A0c C f args M (λv M'=>(∃x,v=.val x/\Q x)/\Grow M M')):A0c C f args M (λv M'=>(∃x,v=.val x/\Q x)/\M'=M):=by
 refine h.cut ?_;rintro r M' ⟨⟨x,rfl,hq⟩,hg⟩;refine⟨M'.drop M.length,?_,trivial,⟨x,rfl,hq⟩,rfl⟩;have ht:M'.take M.length=M:=by
  apply Z1W;intro i;rw[Z0B];split
  .rename_i hi;exact hg.2 i hi Q1
  .rename_i hi;exact(Z1J Q0).symm
 have:=Z1j M.length M';rw[ht]at this;exact this.symm
def C3e(C:Ctx)(h:A2r)(ops:Array Oper)(cls:Nat->Nat)(r0:Nat):Nat->List Oper->Env->Mem->(Env->Mem->Prop)->Prop
 |_,[],T,M,K=>K T M
 |k,o::rest,T,M,K=>A2A ops o T (wsD C h (cls k) r0 o (T.ev C) M (λv M'=>M'[r0]?=M[r0]?/\C3e C h ops cls r0 (k+1) rest (T.put o.dst v) M' K)) (C3e C h ops cls r0 (k+1) rest (T.put o.dst (.val undef)) M K)
def C1Q(C:Ctx)(h:A2r)(ops:Array Oper)(cls:Nat->Nat)(r0:Nat)(k:Nat)(l:List Oper)(T:Env)(M:Mem)(K:Env->Mem->Prop)(_:Tag (ops,l,K)):Prop:=C3e C h ops cls r0 k l T M K
variable {cls:Nat->Nat} {r0 N:Nat} {Q:Post} {T:Env} {h:A2r}
@[simp] def D9C{ops}{k}{K:Env->Mem->Prop}{tg}:C1Q C h ops cls r0 k [] T M K tg=K T M:=(rfl)
@[simp] def D8n{ops}{k}{o}{rest}{K:Env->Mem->Prop}{tg}:C1Q C h ops cls r0 k (o::rest) T M K tg=B3o ops o T (wD C h (cls k) r0 o (T.ev C) M (λv M'=>M'[r0]?=M[r0]?/\C1Q C h ops cls r0 (k+1) rest (T.put o.dst v) M' K ⟨⟩) ⟨⟩) (C1Q C h ops cls r0 (k+1) rest (T.put o.dst (.val undef)) M K ⟨⟩) ⟨⟩:=rfl
end
section
variable {K V:Type} [DecidableEq K]
def A5i:List (K×V)->K->Option V
 |[],_=>none
 |(k,v)::l,x=>if x=k then some v else A5i l x
def B2q:List (K×V)->K->V->List (K×V)
 |[],x,y=>[(x,y)]
 |(k,v)::l,x,y=>if x=k then(x,y)::l else(k,v)::B2q l x y
def C9I{l:List (K×V)}{x:K}:A5i l x=none<->x∉l.map (·.1):=by
 induction l with
 |nil=>simp[A5i]
 |cons p l ih=>
  obtain⟨k,v⟩:=p;simp only[A5i,Z0x,Z0p,Z4F];by_cases h:x=k
  .simp[h]
  .simp[h,ih]
def D3s{l:List (K×V)}{x:K}{y:V}(h:x∉l.map (·.1)):B2q l x y=l++[(x,y)]:=by
 induction l with
 |nil=>rfl
 |cons p l ih=>obtain⟨k,v⟩:=p;simp only[Z0x,Z0p,Z4F]at h;simp only[B2q,Z0d h.1,ih h.2,Z0Q]
def B5k{l:List (K×V)}{x z:K}{y:V}:A5i (B2q l x y) z=if z=x then some y else A5i l z:=by
 induction l with
 |nil=>simp[B2q,A5i]
 |cons p l ih=>
  obtain⟨k,v⟩:=p;by_cases h:x=k
  .subst h;simp only[B2q,Z1e,A5i];split<;>simp_all
  .simp only[B2q,Z0d h,A5i];by_cases h2:z=k
   .subst h2;rw[Z0c rfl,Z0c rfl,Z0d (λe=>h e.symm)]
   .rw[Z0d h2,Z0d h2,ih]
structure B2z (P:Program) (t kt et:TypeId) (kenc:K->AV):Prop where
 kv:A8r P t=some (kt,et)
 ty:(A6E P kt||B6j P kt)=true
 chk:∀k,A4P P 30 kt (kenc k)=true
 eq:∀a b,B0m P 30 kt (kenc a) (kenc b)=some (decide (a=b))
 bits:∀a,∃c,A7Z (kenc a)=some c/\Instr.sameBits 10000 c c=true
def A3n(kenc:K->AV)(venc:V->AV)(M:Mem)(b:Nat)(l:List (K×V)):Prop:=∃es clock,M[b]?=some (.map es clock)/\es.map (λe=>(e.1,e.2.1))=l.map λp=>(kenc p.1,venc p.2)
section
variable {P:Program} {t kt et:TypeId} {kenc:K->AV} {venc:V->AV} {M M':Mem} {b:Nat} {l:List (K×V)}
omit [DecidableEq K]in
def A3n.keep(h:A3n kenc venc M b l){o}(hk:A0d o M M')(ho:o≠some b):A3n kenc venc M' b l:=by obtain⟨es,c,h1,h2⟩:=h;exact⟨es,c,hk.get h1 ho,h2⟩
omit [DecidableEq K]in
def A3n.lt(h:A3n kenc venc M b l):b<M.length:=by obtain⟨es,c,h1,_⟩:=h;exact(Z0a.1 h1).1
omit [DecidableEq K]in
def A3n.new(M:Mem):A3n kenc venc (M++[.map [] 0]) M.length []:=⟨[],0,Q1,rfl⟩
def B2Z(hk:B2z P t kt et kenc)(x:K):∀(l:List (K×V)) (es:List (AV×AV×Nat)),es.map (λe=>(e.1,e.2.1))=l.map (λp=>(kenc p.1,venc p.2))->
 (A5i l x=none/\A2Q P kt (kenc x) es=some none)\/(∃v i,A5i l x=some v/\A2Q P kt (kenc x) es=some (some (i,venc v))/\(∃born,es[i]?=some (kenc x,venc v,born))/\∀y born,(es.set i (kenc x,venc y,born)).map (λe=>(e.1,e.2.1))=(B2q l x y).map (λp=>(kenc p.1,venc p.2)))
 |[],[],_=>.inl ⟨rfl,rfl⟩
 |[],_::_,h=>by simp at h
 |_::_,[],h=>by simp at h
 |(k,v)::l,(ek,ev,bn)::es,h=>by
  simp only[Z0x,Z2e,Z0i]at h;obtain⟨⟨rfl,rfl⟩,h2⟩:=h;by_cases e:x=k
  .subst e;refine .inr ⟨v,0,by simp[A5i],by simp[A2Q,hk.eq],⟨bn,rfl⟩,λy born=>?_⟩;simp[B2q,h2]
  .rcases B2Z hk x l es h2 with⟨q1,q2⟩|⟨v',i,q1,q2,⟨born,q3⟩,q4⟩
   .exact .inl ⟨by simp[A5i,e,q1],by simp[A2Q,hk.eq,e,q2]⟩
   .refine .inr ⟨v',i+1,by simp[A5i,e,q1],by simp[A2Q,hk.eq,e,q2],⟨born,by simpa using q3⟩,λy born=>?_⟩;simp only[Z4g,Z0x,q4 y born,B2q,Z0d e]
def A3n.get(hk:B2z P t kt et kenc)(h:A3n kenc venc M b l)(x:K){z}(hz:A9n P et=some z)(ok:Bool):A1Y P t M (.mapr b) (kenc x) ok=some (match A5i l x with|some v=>if ok then .tuple [venc v,.val (.bool true)]else venc v|none=>if ok then .tuple [z,.val (.bool false)]else z):=by
 obtain⟨es,c,h1,h2⟩:=h
 simp only[A1Y,hk.kv,A4I,h1,hk.ty,hk.chk,Z2H,Z1e]
 rcases B2Z hk x l es h2 with⟨q1,q2⟩|⟨v',i,q1,q2,_⟩
 .rw[q1,q2];simp[hz]
 .rw[q1,q2]
def A3n.put(hk:B2z P t kt et kenc)(h:A3n kenc venc M b l)(x:K)(y:V):∃M',A2b P t M (.mapr b) (kenc x) (venc y)=some M'/\A3n kenc venc M' b (B2q l x y)/\A0d (some b) M M':=by
 have hlt:=h.lt;obtain⟨es,c,h1,h2⟩:=h;rcases B2Z hk x l es h2 with⟨q1,q2⟩|⟨v',i,q1,q2,⟨born,q3⟩,q4⟩
 .refine⟨M.set b (.map (es++[(kenc x,venc y,c)]) (c+1)),?_,⟨es++[(kenc x,venc y,c)],c+1,ZDE,?_⟩,.set _ _ _⟩
  .simp only[A2b,hk.kv,h1,hk.ty,hk.chk,Z2H,Z1e,q2]
  .rw[Z1f,h2,D3s (C9I.1 q1)];simp
 .obtain⟨cv,hc,hb⟩:=hk.bits x;refine⟨M.set b (.map (es.set i (kenc x,venc y,born)) c),?_,⟨es.set i (kenc x,venc y,born),c,ZDE,q4 y born⟩,.set _ _ _⟩;simp only[A2b,hk.kv,h1,hk.ty,hk.chk,Z2H,Z1e,q2,q3,hc,hb]
end
end
section
variable {C:Ctx} {M:Mem}
def B0t(C:Ctx)(h:A2r)(ops:Array Oper)(cls rob:Nat->Nat)(qs:List Nat):Nat->List Oper->Env->Mem->(Env->Mem->Prop)->Prop
 |_,[],T,M,K=>K T M
 |k,o::rest,T,M,K=>A2A ops o T (wsD C h (cls k) (rob k) o (T.ev C) M (λv M'=>(∀r∈qs,M'[r]?=M[r]?)/\B0t C h ops cls rob qs (k+1) rest (T.put o.dst v) M' K)) (B0t C h ops cls rob qs (k+1) rest (T.put o.dst (.val undef)) M K)
def A6q(cls rob:Nat->Nat)(hot:Nat->Bool):B2o:={cls:=λk=>if cls k=5 then 3 else cls k,rob:=rob,aff:=λi _=>hot i}
def A9i{h}{ops}{cls rob:Nat->Nat}{a:Nat->Bool}{qs}{K:Env->Mem->Prop}(hq:∀i,cls i=1->a i=false->rob i∈qs):∀(l:List Oper) (k:Nat) (T:Env) (M:Mem),B0t C h ops cls rob qs k l T M K->A1x C h ops (A6q cls rob a) k l T M K
 |[],k,T,M,hw=>hw
 |o::rest,k,T,M,hw=>by
  simp only[B0t]at hw;simp only[A1x];refine A6A (λh1=>B4Y (λv m (h2:(∀r∈qs,m[r]?=M[r]?)/\B0t C h ops cls rob qs (k+1) rest (T.put o.dst v) m K)=>⟨λi hi ha=>?_,A9i hq rest _ _ _ h2.2⟩) (by
   have hd:=B4E h1;by_cases e:cls k=5
   .rw[e]at h1;exact h1.elim
   .simpa only[A6q,Z0d e]using hd)) (λh1=>A9i hq rest _ _ _ h1) hw
  refine h2.1 _ (hq i ?_ ha);simp only[A6q]at hi;split at hi
  .omega
  .exact hi
def C5W{N}{h}{id}{ops}{Q:Exit->Env->Mem->Prop}{T}(b:C.P.follows .mixedOrders=true)(cls rob:Nat->Nat)(a:Nat->Bool)(qs:List Nat)(hq:∀i,cls i=1->a i=false->rob i∈qs)(f:A2F N ops ops.toList=true)(c:A4K ops (A6q cls (λ_=>0) a)=true)
 (hr:B0t C h ops cls rob qs 0 ops.toList T M (λT M=>Q .normal T M)):AWp C N (.region id ops true) Q T M:=by
 have h4:∀i o,ops[i]?=some o->(A6q cls rob a).cls i≠4:=by intro i o ho e;have:=(A5k c ho).2.1 e;simp[A6q]at this
 have h5:∀k,(A6q cls rob a).cls k≠5:=by intro k;simp only[A6q];split<;>omega
 have d:A4K ops (A6q cls rob a)=true:=by
  have hp:∀i,i<ops.size->A6Q ((A6q cls rob a).cls i)=false:=λi hi=>by
   cases e:A6Q ((A6q cls rob a).cls i)with
   |false=>rfl
   |true=>
    rcases A9I.1 e with h|h
    .exact absurd h (h4 i _ (Z1g hi))
    .exact absurd h (h5 i)
  have:∀i j,i<ops.size->j<ops.size->A2h (A6q cls rob a) j i=A2h (A6q cls (λ_=>0) a) j i:=by intro i j hi hj;have b1:=hp i hi;have b2:=hp j hj;have c1:(A6q cls (λ_=>0) a).cls=(A6q cls rob a).cls:=rfl;have c2:(A6q cls (λ_=>0) a).aff=(A6q cls rob a).aff:=rfl;simp only[A2h,c1,c2,b1,b2,Z2V,Z0K,Z3k]
  refine Z0D.2 λi hi=>?_;have h0:=Z0D.1 c i hi;have g:=Z2d.1 hi;cases ho:ops[i]? with
  |none=>rfl
  |some o=>
   rw[ho]at h0;simp only[Z0h]at h0|-;refine⟨h0.1,Z0D.2 λj hj=>?_⟩;have h1:=Z0D.1 h0.2 j hj;have l:=Z2d.1 hj;cases hx:ops[j]? with
   |none=>rfl
   |some x=>rw[hx]at h1;simp only at h1|-;rw[this i j g Q0];exact h1
 refine B0W (h:=h) b (A6q cls rob a) f d (λk hk hc=>?_) (A9i hq _ _ _ _ hr)
 exact absurd hc (h4 k _ (Z1g hk))
def B8J(C:Ctx)(h:A2r)(ops:Array Oper)(cls rob:Nat->Nat)(qs:List Nat)(k:Nat)(l:List Oper)(T:Env)(M:Mem)(K:Env->Mem->Prop)(_:Tag (ops,l,K)):Prop:=B0t C h ops cls rob qs k l T M K
variable {cls rob:Nat->Nat} {qs:List Nat} {N:Nat} {Q:Post} {T:Env} {h:A2r}
@[simp] def D8O{ops}{k}{K:Env->Mem->Prop}{tg}:B8J C h ops cls rob qs k [] T M K tg=K T M:=(rfl)
@[simp] def D7T{ops}{k}{o}{rest}{K:Env->Mem->Prop}{tg}:B8J C h ops cls rob qs k (o::rest) T M K tg=B3o ops o T (wD C h (cls k) (rob k) o (T.ev C) M (λv M'=>(∀r∈qs,M'[r]?=M[r]?)/\B8J C h ops cls rob qs (k+1) rest (T.put o.dst v) M' K ⟨⟩) ⟨⟩) (B8J C h ops cls rob qs (k+1) rest (T.put o.dst (.val undef)) M K ⟨⟩) ⟨⟩:=rfl
def A9V{id}{l}{tg}(h:A2r)(b:C.P.follows .mixedOrders=true)(cls rob:Nat->Nat)(a:Nat->Bool)(qs:List Nat)(hq:∀i,cls i=1->a i=false->rob i∈qs)(d:A2F N l.toArray l=true)(c:A4K l.toArray (A6q cls (λ_=>0) a)=true) (hr:B8J C h l.toArray cls rob qs 0 l T M (λT M=>Q .normal T M) ⟨⟩):wWp C N (.region id l.toArray true) Q T M tg:=C5W b cls rob a qs hq d c hr
end
def C5P{n}:∀(a c:List AV),A1i n a->A1i n c->A1i n (a++c)
 |[],c,_,h=>h
 |z::a,c,h1,h2=>by simp only[Z0Q,A1i]at h1|-;exact⟨h1.1,C5P a c h1.2 h2⟩
def C1l{α:Type}{enc:α->List AV}{n}(hb:∀n x,A1i n (enc x)):∀l:List α,A1i n (l.flatMap enc)
 |[]=>by simp[A1i]
 |y::l=>by rw[Z0y];exact C5P _ _ (hb n y) (C1l hb l)
inductive Still (M:Mem) (n:Nat) (ok:AV->Prop):List AV->List AV->Prop
 |nil:Still M n ok [] []
 |same {v:AV} {cs ds:List AV}:ok v->Still M n ok cs ds->Still M n ok (v::cs) (v::ds)
 |nilS {sz:Nat} {cs ds:List AV}:Still M n ok cs ds->Still M n ok (.val (.slice none 0 0)::cs) (.list sz [] .no::ds)
 |vec {f g sz len m e g':Nat} {as:List AV} {hist:List (Nat×Nat)} {rows:List (List AV)} {cs ds:List AV}:n<=f->M[f]?=some (.vec e sz as g' hist)->hist.lookup g=some m->len<=m->rows.length=len->(∀r∈rows,r.length=sz)->Still M n ok (as.take (len*sz)) rows.flatten->Still M n ok cs ds->Still M n ok (.vref f g sz 0 len::cs) (.list sz rows .no::ds)
 |dis {sz:Nat} {rows:List (List AV)} {o:Own} {cs ds:List AV}:ok (.list sz rows .no)->Still M n ok cs ds->Still M n ok (.list sz rows o::cs) (.list sz rows .no::ds)
 |agg {as bs cs ds:List AV}:Still M n ok as bs->Still M n ok cs ds->Still M n ok (.agg as::cs) (.agg bs::ds)
 |tuple {as bs cs ds:List AV}:Still M n ok as bs->Still M n ok cs ds->Still M n ok (.tuple as::cs) (.tuple bs::ds)
def Rep.disown{G}{sz}{rows}{o}{x}(h:Rep G (.list sz rows o) x):Rep G (.list sz rows .no) x:=by simp only[Rep]at h|-;obtain⟨a,b,c,d,e,f,_⟩:=h;exact⟨a,b,c,d,e,f,trivial⟩
def A0v.split{G}:∀(a b:List AV) (ws:List Value),A0v G (a++b) ws->A0v G a (ws.take a.length)/\A0v G b (ws.drop a.length):=by
 intro a;induction a with
 |nil=>intro b ws h;simpa[A0v]using h
 |cons c a ih=>intro b ws h;simp only[Z0Q,A0v]at h;obtain⟨y,ys,rfl,k1,k2⟩:=h;obtain⟨q1,q2⟩:=ih b ys k2;exact⟨by simp only[Z0r,Z1h,A0v];exact⟨y,_,rfl,k1,q1⟩,by simpa using q2⟩
def D0Y{G}{b}:∀(cs:List AV) (o:Nat) (ws:List Value),A0v G cs ws->(∀v∈ws,v.oneCell'=true)->(∀i v,ws[i]?=some v->G.st b (o+i)=some v)->A0S G cs b o:=by
 intro cs;induction cs with
 |nil=>intros;simp[A0S]
 |cons c cs ih=>intro o ws h1 h2 h3;simp only[A0v]at h1;obtain⟨y,ys,rfl,k1,k2⟩:=h1;simp only[A0S];refine⟨⟨y,by simpa using h3 0 y rfl,h2 y Q1,k1⟩,ih (o+1) ys k2 (λv hv=>h2 v (by simp[hv])) λi v hv=>?_⟩;have:=h3 (i+1) v ZBQ;rw[show o+1+i=o+(i+1)by omega];exact this
def C1Z{G}{b sz}:∀(rows:List (List AV)) (o:Nat) (ws:List Value),(∀r∈rows,r.length=sz)->A0v G rows.flatten ws->(∀v∈ws,v.oneCell'=true)->(∀i v,ws[i]?=some v->G.st b (o+i)=some v)->A0F G sz rows b o:=by
 intro rows;induction rows with
 |nil=>intros;simp[A0F]
 |cons r rows ih=>
  intro o ws hl h1 h2 h3;rw[Z1d]at h1;obtain⟨q1,q2⟩:=A0v.split _ _ _ h1;have hr:=hl r Q1;rw[hr]at q1 q2;simp only[A0F];refine⟨⟨hr,D0Y _ o _ q1 (λv hv=>h2 v (Z1x hv)) λi v hv=>?_⟩,ih (o+sz) _ (λx hx=>hl x (by simp[hx])) q2 (λv hv=>h2 v (Z1w hv)) λi v hv=>?_⟩
  .refine h3 i v ?_;rw[Z0B]at hv;split at hv
   .exact hv
   .simp at hv
  .rw[Z0H]at hv;rw[show o+sz+i=o+(sz+i)by omega];exact h3 _ v hv
def Frz(G:A0q)(M:Mem)(n b:Nat):Prop:=∃f e sz cs g hist,n<=f/\M[f]?=some (.vec e sz cs g hist)/\A3p G f (.vec e sz cs g hist) b
open Classical in
noncomputable def B6H(k:Nat)(G:A0q)(M:Mem)(n:Nat)(w:World):A0q:={G.cut k with st:=λb i=>if Frz G M n b then w.cell? ⟨b,i,none⟩else G.st b i}
section
variable {C:Ctx} {G:A0q} {M:Mem} {w:World} {k n:Nat} {ok:AV->Prop}
def Frz.st(hi:Inv C G M w){b}(h:Frz G M n b)(i:Nat):G.st b i=none:=by obtain⟨f,e,sz,cs,g,d,_,hm,h',m,a,c,ha,rfl⟩:=h;obtain⟨_,_,b,o,cap,vs,q1,_,_,_,_,_,_,q8,_⟩:=(hi.obj f _ hm).2.1 h' m c;rw[q1]at ha;simp only[Z0b]at ha;subst ha;exact q8 i
def C1X(hi:Inv C G M w):(G.cut k).le (B6H k G M n w):=by
 refine⟨Z0j _,λ_ _=>rfl,λb i v hv=>?_,λ_ _ h=>h,λ_ _=>Z0j _,λ_ _ _ _=>rfl⟩;have hv:G.st b i=some v:=hv;have a:¬Frz G M n b:=λe=>by rw[e.st hi i]at hv;simp at hv
 simp only[B6H,Z0d a];exact hv
def Still.rep(hi:Inv C G M w)(p:∀v x,ok v->Rep G v x->Rep (G.cut k) v x){vs ds:List AV}(h:Still M n ok vs ds):∀xs,A0v G vs xs->A0v (B6H k G M n w) ds xs:=by
 have q:=C1X (n:=n) (k:=k) hi;induction h with
 |nil=>intro xs h;simpa[A0v]using h
 |same hb _ ih=>intro xs h;simp only[A0v]at h|-;obtain⟨y,ys,rfl,h1,h2⟩:=h;exact⟨y,ys,rfl,Rep.mono q _ _ (p _ _ hb h1),ih ys h2⟩
 |nilS _ ih=>intro xs h;simp only[A0v]at h|-;obtain⟨y,ys,rfl,h1,h2⟩:=h;refine⟨y,ys,rfl,?_,ih ys h2⟩;simp only[Rep]at h1|-;subst h1;exact⟨none,0,rfl,Q1,by simp[maxLen],Q1,trivial⟩
 |@vec f g sz len m e g' as hist rows cs ds hf hm hl hlm hlen hrow h1 h2 ih1 ih2=>
  intro xs h;simp only[A0v]at h|-;obtain⟨x,ys,rfl,h4,h5⟩:=h;refine⟨x,ys,rfl,?_,ih2 ys h5⟩;have c:(g,m)∈hist:=A2S hl;obtain⟨p1,p2,b,o,cap,bs,q1,q2,q3,q4,q5,q6,q7,q8,q9⟩:=(hi.obj f _ hm).2.1 g m c;have j:Frz G M n b:=⟨f,e,sz,as,g',hist,hf,hm,g,m,_,c,congrArg Prod.fst q1,rfl⟩;obtain⟨ws,d⟩:=ex ((bs.toList.drop o).take (len*sz));have r:len*sz<=m*sz:=Z0V _ hlm;have l:((bs.toList.drop o).take (m*sz)).take (len*sz)=ws:=by rw[d,Z1Y,Z1F r]
  have t:(as.take (m*sz)).take (len*sz)=as.take (len*sz):=by rw[Z1Y,Z1F r]
  have q7:∀v∈ws,v.oneCell'=true:=λv hv=>q7 v (by rw[<-l]at hv;exact Z1x hv);have q6:A0v G (as.take (len*sz)) ws:=by have:=q6.take (len*sz);rwa[l,t]at this
  have s:∀i v,ws[i]?=some v->(B6H k G M n w).st b (o+i)=some v:=λi v hv=>by
   simp only[B6H,Z0c j];rw[d,Z0B]at hv;split at hv
   .rw[Z0H]at hv;simp only[World.cell?,q4];simpa using hv
   .simp at hv
  simp only[Rep]at h4;obtain⟨_,_,a,a',u,r1,r2,r3,rfl,r5,r6,r7⟩:=h4;rw[q1]at r1;simp only[Z0i,Z0b]at r1;obtain⟨rfl,rfl⟩:=r1;simp only[Rep,hlen];refine⟨some a',cap,Q1,Z0J hlm q2,q3,⟨λ_=>r3,?_⟩,trivial⟩;by_cases hc:0<cap
  .have:=r7 hc;rw[this];simp only[Z1S,Z0Y];exact C1Z rows o ws hrow (ih1 ws q6) q7 s
  .have:rows=[]:=Z0w Q0;subst this;simp[A0F]
 |dis hb _ ih=>intro xs h;simp only[A0v]at h|-;obtain⟨y,ys,rfl,h1,h2⟩:=h;exact⟨y,ys,rfl,Rep.mono q _ _ (p _ _ hb h1.disown),ih ys h2⟩
 |agg _ _ ih1 ih2=>intro xs h;simp only[A0v]at h|-;obtain⟨y,ys,rfl,h1,h2⟩:=h;refine⟨y,ys,rfl,?_,ih2 ys h2⟩;simp only[Rep]at h1|-;obtain⟨zs,rfl,k1,k2⟩:=h1;exact⟨zs,rfl,ih1 _ k1,k2⟩
 |tuple _ _ ih1 ih2=>intro xs h;simp only[A0v]at h|-;obtain⟨y,ys,rfl,h1,h2⟩:=h;refine⟨y,ys,rfl,?_,ih2 ys h2⟩;simp only[Rep]at h1|-;obtain⟨zs,rfl,k1⟩:=h1;exact⟨zs,rfl,ih1 _ k1⟩
end
section
variable {C:Ctx} {G:A0q} {w:World} {n:Nat}
def C9m{M M'}{k0}(hi:Inv C G M' w)(k1:Inv C (G.cut k0) M w)(o:∀k y,M[k]?=some y->∀b',A3p (G.cut k0) k y b'->¬Frz G M' n b'):Inv C (B6H k0 G M' n w) M w:=by
 have e:=C1X (n:=n) (k:=k0) hi;have hs:∀b' i,¬Frz G M' n b'->(B6H k0 G M' n w).st b' i=(G.cut k0).st b' i:=λb' i h=>by simp only[B6H,Z0d h];rfl
 have l:(B6H k0 G M' n w).n=k0:=rfl;generalize d:B6H k0 G M' n w=G2 at e hs l;have b:G2.blk=(G.cut k0).blk:=by rw[<-d];rfl
 have a:G2.keep=(G.cut k0).keep:=by rw[<-d];rfl
 have c:G2.hdr=(G.cut k0).hdr:=by rw[<-d];rfl
 have f:G2.top=(G.cut k0).top:=by rw[<-d];rfl
 refine⟨by rw[l];exact k1.n,λb' i v hv=>?_,λb' ob hv=>?_,λk ob hk=>?_,λj k x y b' hx hy ox oy=>?_,λgg=>Rep.mono e _ _ (k1.gl gg),λgg cs hc=>?_⟩
 .by_cases hc:Frz G M' n b'
  .rw[<-d]at hv;simpa only[B6H,Z0c hc]using hv
  .rw[hs b' i hc]at hv;exact k1.st b' i v hv
 .rw[a]at hv;exact k1.keep b' ob hv
 .have h0:=k1.obj k ob hk;have hn:=o k ob hk;cases ob with
  |gone=>trivial
  |cells t cs=>obtain⟨vs',a1,a2,a3,a4,a5⟩:=h0;refine⟨vs',by rw[b];exact a1,A0v.mono e _ _ a2,a3,λi=>?_,by rw[b,a];exact a5⟩;rw[b,hs _ _ (hn _ rfl)];exact a4 i
  |fam m sz'=>obtain⟨a1,a2,a3,a4⟩:=h0;refine⟨by rw[f];exact a1,by rw[c];exact a2,by rw[c];exact a3,λhlt=>?_⟩;rw[c]at hlt|-;obtain⟨gb,vs',t,c1,c2,c3,c4,c5⟩:=a4 hlt;refine⟨gb,vs',t,c1,c2,c3,λi hi=>?_,by rw[a];exact c5⟩;rw[hs _ _ (hn gb ⟨hlt,_,c1,rfl⟩)];exact c4 i hi
  |vec e' sz' cs g' hist'=>obtain⟨a1,a2,a3⟩:=h0;refine⟨by rw[f];exact a1,λhh n hmm=>?_,by rw[c];exact a3⟩;obtain⟨c1,c2,b',o',g,vs',d1,d2,d3,d4,d5,d6,d7,d8,d9⟩:=a2 hh n hmm;refine⟨by rw[f];exact c1,c2,b',o',g,vs',by rw[c];exact d1,d2,d3,d4,d5,A0v.mono e _ _ d6,d7,λi=>?_,by rw[a];exact d9⟩;rw[hs _ _ (hn b' ⟨hh,n,_,hmm,congrArg Prod.fst d1,rfl⟩)];exact d8 i
  |map es clock=>obtain⟨xs,a1,a2,a3⟩:=h0;exact⟨xs,by rw[b];exact a1,a2.mono e,by rw[b,a];exact a3⟩
  |siter s pos=>obtain⟨a1,a2⟩:=h0;exact⟨by rw[b];exact a1,by rw[b,a];exact a2⟩
  |miter m since A2B stepped=>obtain⟨a1,a2,a3⟩:=h0;exact⟨by rw[b];exact a1,by rw[<-d];exact a2,by rw[b,a];exact a3⟩
 .refine k1.apart j k x y b' hx hy ?_ ?_
  .cases x<;>simp only[A3p]at ox|-<;>first|exact ox|(rw[b]at ox;exact ox)|(rw[c]at ox;exact ox)
  .cases y<;>simp only[A3p]at oy|-<;>first|exact oy|(rw[b]at oy;exact oy)|(rw[c]at oy;exact oy)
 .rw[a];exact k1.tab gg cs hc
end
def Grow.tail{M M'}(h:Grow M M'):∃X,M'=M++X:=by
 refine⟨M'.drop M.length,?_⟩;have ht:M'.take M.length=M:=by
  apply Z1W;intro i;rw[Z0B];split
  .rename_i hi;exact h.2 i hi Q1
  .rename_i hi;exact(Z1J Q0).symm
 have:=Z1j M.length M';rw[ht]at this;exact this.symm
def A0c.data{C}{f}{args}{M}{Q:AV->Prop}(h:A0c C f args M (λv M'=>Grow M M'/\∃d,Still M' M.length (bdd M.length) [v] [d]/\Q d)):A0c C f args M (λd M'=>Q d/\M'=M):=by intro G w vs hi hr;refine Z1E (h G w vs hi hr) ?_;rintro ex w' ⟨r,M',G',x,rfl,⟨hg,d,hs,hq⟩,h2,h3,h4,h5⟩;obtain⟨X,rfl⟩:=hg.tail;obtain⟨k1,k2⟩:=hi.cut h2 h3;have a:=hs.rep (k:=M.length) h3 (λv x hb hx=>Rep.cut v x hx hb) [x] (by simp only[A0v];exact⟨x,[],rfl,h4,rfl⟩);simp only[A0v]at a;obtain⟨y,ys,e,hd,-⟩:=a;simp only[Z2e]at e;obtain⟨rfl,rfl⟩:=e;refine⟨d,M,_,x,rfl,⟨hq,rfl⟩,k2.trans (C1X h3),C9m h3 k1 (λk y hy b' hb' hf=>?_),hd,h5⟩;obtain⟨f,e,sz,cs,g,b,hn,hm,ho⟩:=hf;have:=h3.apart k f y _ b' (by rw[Z0o (A0P hy)];exact hy) hm (by cases y<;>exact hb') ho;have:=A0P hy;omega
def A3y(M:Mem)(n:Nat):Mem:=M.mapIdx λi o=>match o with
 |.vec e sz cs g hist=>if n<=i then .gone else .vec e sz cs g hist
 |o=>o
@[simp] def C7J(M:Mem)(n:Nat):(A3y M n).length=M.length:=by simp[A3y]
def B3u{M}{n i}{o}(h:M[i]?=some o)(ho:∀e sz cs g hist,o=.vec e sz cs g hist->i<n):(A3y M n)[i]?=some o:=by
 simp only[A3y,List.getElem?_mapIdx,h,Z1T,Z0b];cases o<;>try rfl
 rename_i e sz cs g hist;have:=ho e sz cs g hist rfl;simp only;rw[Z0d Q0]
def B0H{M}{n i}{o}(h:(A3y M n)[i]?=some o):o=.gone\/(M[i]?=some o/\∀e sz cs g hist,o=.vec e sz cs g hist->i<n):=by
 simp only[A3y,List.getElem?_mapIdx]at h;cases hm:M[i]? with
 |none=>rw[hm]at h;exact absurd h Q1
 |some o'=>
  rw[hm]at h;simp only[Z1T,Z0b]at h;cases o' with
  |vec e sz cs g hist=>
   simp only at h;by_cases c:n<=i
   .rw[Z0c c]at h;exact .inl h.symm
   .rw[Z0d c]at h;subst h;exact .inr ⟨rfl,λ_ _ _ _ _ _=>by omega⟩
  |_=>simp only at h;subst h;exact .inr ⟨rfl,by rintro _ _ _ _ _ e;exact absurd e Q1⟩
def A5c{M0 M}(h:Grow M0 M):Grow M0 (A3y M M0.length):=by refine⟨by simpa using h.1,λi hi _=>?_⟩;have h2:=h.2 i hi Q1;rw[<-h2];have:i<M.length:=Z0S hi h.1;rw[Z0g this];exact B3u (Z0g this) λ_ _ _ _ _ _=>hi
def B3m{C}{G1}{M1}{w'}(h4:Inv C G1 M1 w')(n:Nat):∃G2,G1.le G2/\Inv C G2 (A3y M1 n) w'/\∀vs ds xs,Still M1 n (λ_=>True) vs ds->A0v G1 vs xs->A0v G2 ds xs:=by
 have hn:=h4.n
 have a:G1.cut M1.length=G1:=by rw[<-hn];rfl
 have d:=C1X (n:=n) (k:=M1.length) h4
 rw[a]at d
 refine⟨B6H M1.length G1 M1 n w',d,?_,λvs ds xs h hr=>h.rep (k:=M1.length) h4 (λv x _ hx=>by rw[a];exact hx) xs hr⟩
 refine C9m h4 ?_ ?_
 .rw[a];refine⟨by rw[C7J];exact hn,h4.st,h4.keep,λk o hk=>?_,λj k x y b hx hy ox oy=>?_,h4.gl,h4.tab⟩
  .rcases B0H hk with rfl|⟨hk,-⟩
   .trivial
   .exact h4.obj k o hk
  .rcases B0H hx with rfl|⟨hx,-⟩
   .exact ox.elim
   rcases B0H hy with rfl|⟨hy,-⟩
   .exact oy.elim
   exact h4.apart j k x y b hx hy ox oy
 .rintro k y hy b' c ⟨f,e,sz,cs,g,i,hf,hm,ho⟩;rw[a]at c;rcases B0H hy with rfl|⟨hy,hlt⟩
  .exact c.elim
  .have:=h4.apart k f y _ b' hy hm c ho;subst this;rw[hm]at hy;simp only[Z0b]at hy;have:=hlt _ _ _ _ _ hy.symm;omega
def AWp.still{C}{N}{c}{Q:Exit->Env->Mem->Prop}{T}{M}(h:AWp C N c (λe T1 M1=>∃n T2,(∀k,Still M1 n (λ_=>True) [T1 k] [T2 k])/\Q e T2 (A3y M1 n)) T M):AWp C N c Q T M:=by intro G w a hi he;refine Code.wp_mono ?_ (h G w a hi he);rintro e a' w' ⟨T1,M1,G1,⟨n,T2,h1,h2⟩,h3,h4,h5,h6⟩;obtain⟨G2,g1,g2,g3⟩:=B3m h4 n;refine⟨T2,A3y M1 n,G2,h2,h3.trans g1,g2,⟨h5.defers,h5.size,λi hi=>?_⟩,h6⟩;have hr:=g3 _ _ [a'.tmps.getD i undef] (h1 i) (by simp only[A0v];exact⟨_,[],rfl,h5.at_ i hi,rfl⟩);simp only[A0v]at hr;obtain⟨y,ys,e,hd,-⟩:=hr;simp only[Z2e]at e;obtain⟨rfl,rfl⟩:=e;exact hd
def A0c.stillN{C}{f}{args}{M}{Q:AV->Mem->Prop}(h:A0c C f args M (λv M'=>∃n d,Still M' n (λ_=>True) [v] [d]/\Q d (A3y M' n))):A0c C f args M Q:=by intro G w vs hi hr;refine Z1E (h G w vs hi hr) ?_;rintro ex w' ⟨r,M1,G1,x,rfl,⟨n,d,h1,h2⟩,h3,h4,h5,h6⟩;obtain⟨G2,g1,g2,g3⟩:=B3m h4 n;have hr:=g3 _ _ [x] h1 (by simp only[A0v];exact⟨_,[],rfl,h5,rfl⟩);simp only[A0v]at hr;obtain⟨y,ys,e,hd,-⟩:=hr;simp only[Z2e]at e;obtain⟨rfl,rfl⟩:=e;exact⟨d,A3y M1 n,G2,x,rfl,h2,h3.trans g1,g2,hd,h6⟩
def B2Y{C}{N}{c}{Q}{T}{M}{tg}(x:Exit)(I:Env->Mem->Prop)(h1:wWp C N c (λe T' M'=>D2B x I e T' M' ⟨⟩) T M ⟨⟩)
 (h2:∀T M,I T M->∃n T2,(∀k,Still M n (λ_=>True) [T k] [T2 k])/\Q x T2 (A3y M n)):wWp C N c Q T M tg:=
 AWp.still (AWp.mono h1 λe T M h=>by obtain⟨rfl,h⟩:=h;exact h2 T M h)
section
variable {M:Mem} {n:Nat} {ok:AV->Prop}
def Still.refl:∀{cs:List AV},(∀c∈cs,ok c)->Still M n ok cs cs
 |[],_=>.nil
 |c::cs,h=>.same (h c Q1) (Still.refl λx hx=>h x (by simp[hx]))
def Still.append{a b c d:List AV}(h1:Still M n ok a b)(h2:Still M n ok c d):Still M n ok (a++c) (b++d):=by
 induction h1 with
 |nil=>exact h2
 |same hb _ ih=>exact .same hb ih
 |nilS _ ih=>exact .nilS ih
 |vec a b c l d e f _ _ ih=>exact .vec a b c l d e f ih
 |dis h _ ih=>exact .dis h ih
 |agg h _ _ ih=>exact .agg h ih
 |tuple h _ _ ih=>exact .tuple h ih
def Still.flat{α:Type}{enc a:α->List AV}:∀{l:List α},(∀x∈l,Still M n ok (enc x) (a x))->Still M n ok (l.flatMap enc) (l.map a).flatten
 |[],_=>.nil
 |x::l,h=>by rw[Z0y,Z0x,Z1d];exact(h x Q1).append (Still.flat λy hy=>h y (by simp[hy]))
def Still.own{α:Type}{e sz:Nat}{enc a:α->List AV}{v:AV}{l:List α}{cs ds:List AV}(he:∀x,(enc x).length=sz)(hd:∀x,(a x).length=sz)(h:A1r e sz enc M v l)(hn:A1L n v) (hx:∀x∈l,Still M n ok (enc x) (a x))(hr:Still M n ok cs ds):Still M n ok (v::cs) (.list sz (l.map a) .no::ds):=by
 rcases h with⟨rfl,rfl⟩|⟨f,g,b,rfl,hm,hl⟩
 .exact .nilS hr
 .refine .vec (hn f rfl) hm hl (Z0j _) Q1 (λr hr=>?_) ?_ hr
  .obtain⟨x,_,rfl⟩:=Z0C.1 hr;exact hd x
  .rw[Z0e ZBD];exact Still.flat hx
def Still.rows{α:Type}{e sz}{enc:α->List AV}{v}{l}{cs ds}(he:∀x,(enc x).length=sz)(hb:∀x,∀c∈enc x,ok c)(h:A1r e sz enc M v l)(hn:A1L n v)(hr:Still M n ok cs ds):Still M n ok (v::cs) (.list sz (l.map enc) .no::ds):=Still.own he he h hn (λx _=>Still.refl (hb x)) hr
def A7k(T:Env):∀k,Still M n (λ_=>True) [T k] [T k]:=λk=>.same trivial .nil
def A6W{T1 T2:Env}(h:∀k,Still M n ok [T1 k] [T2 k]){d:Nat}{v:AV}(hv:Still M n ok [T1 d] [v]):∀k,Still M n ok [T1 k] [(T2.put (some d) v) k]:=by
 intro k;unfold Env.put;by_cases c:k=d
 .subst c;simpa using hv
 .simpa[c]using h k
end
def A8A{n:Nat}:∀{l:List AV},A1i n l->∀c∈l,bdd n c
 |_::_,h,c,hc=>by
  rcases Z0p.1 hc with rfl|hc
  .exact h.1
  .exact A8A h.2 c hc
def A0c.stillE{C:Ctx}{f:FuncId}{args:List AV}{M:Mem}{α:Type}{e sz:Nat}{enc:α->List AV}{P:List α->Prop}(he:∀x,(enc x).length=sz)(hb:∀n x,A1i n (enc x)) (h:A0c C f args M (λv M'=>∃l,A1r e sz enc M' v l/\Grow M M'/\A1L M.length v/\P l)):A0c C f args M (λv M'=>∃l,v=.list sz (l.map enc) .no/\M'=M/\P l):=(A0c.data (Q:=λd=>∃l,d=.list sz (l.map enc) .no/\P l) (h.mono λv M' ⟨l,h1,h2,h3,h4⟩=>⟨h2,_,Still.rows he (λx=>A8A (hb _ x)) h1 h3 .nil,l,rfl,h4⟩)).mono λ_ _ ⟨⟨l,h1,h2⟩,h3⟩=>⟨l,h1,h3,h2⟩
def A0c.still{C:Ctx}{f:FuncId}{args:List AV}{M:Mem}{α:Type}{e sz:Nat}{enc:α->List AV}{l:List α}(he:∀x,(enc x).length=sz)(hb:∀n x,A1i n (enc x)) (h:A0c C f args M (λv M'=>A1r e sz enc M' v l/\Grow M M'/\A1L M.length v)):A0c C f args M (λv M'=>v=.list sz (l.map enc) .no/\M'=M):=A0c.data (h.mono λv M' ⟨h1,h2,h3⟩=>⟨h2,_,Still.rows he (λx=>A8A (hb _ x)) h1 h3 .nil,rfl⟩)
def A0c.repack{C}{f}{args}{M}{α:Type}{e sz}{enc:α->List AV}{l}(he:∀x,(enc x).length=sz)(hb:∀n x,A1i n (enc x))(an:l≠[]) (h:A0c C f args M (λv M'=>A1r e sz enc M' v l/\Grow M M'/\A1L M.length v)):A0c C f args M (λv M'=>v=.vref M.length 0 sz 0 l.length/\M'=M++[.vec e sz (l.flatMap enc) 0 [(0,l.length)]]):=by
 intro G w vs hi hr
 refine Z1E (h G w vs hi hr) ?_
 rintro ex w' ⟨r,M',G',x,rfl,⟨ho,hg,al⟩,h2,h3,h4,h5⟩
 obtain⟨X,rfl⟩:=hg.tail
 obtain⟨k1,k2⟩:=hi.cut h2 h3
 rcases ho with⟨rfl,rfl⟩|⟨fo,g,ac,rfl,hm,hl⟩
 .exact absurd rfl an
 have ap:M.length<=fo:=al fo rfl
 have af:(g,l.length)∈ac:=A2S hl
 obtain⟨p1,p2,b,o,cap,bs,q1,q2,q3,q4,q5,q6,q7,q8,q9⟩:=(h3.obj fo _ hm).2.1 g l.length af
 have ad:A3p G' fo (.vec e sz (l.flatMap enc) g ac) b:=⟨g,l.length,_,af,congrArg Prod.fst q1,rfl⟩
 obtain⟨n,hn⟩:=ex (M.length)
 obtain⟨G2,a0⟩:=ex ({G'.cut (n+1)with hdr:=λa k=>if a=n then(some ⟨b,o,none⟩,cap)else G'.hdr a k,top:=λa=>if a=n then 0 else G'.top a}:A0q)
 have ak:G2.n=n+1:=by rw[a0];rfl
 have p:G2.blk=G'.blk:=by rw[a0];rfl
 have a8:G2.st=G'.st:=by rw[a0];rfl
 have d:G2.keep=G'.keep:=by rw[a0];rfl
 have q:∀a k,a≠n->G2.hdr a k=G'.hdr a k:=λa k h=>by rw[a0];simp[h]
 have z:∀k,G2.hdr n k=(some ⟨b,o,none⟩,cap):=λk=>by rw[a0];simp
 have a7:∀a,a≠n->G2.top a=G'.top a:=λa h=>by rw[a0];simp[h]
 have aa:G2.top n=0:=by rw[a0];simp
 have a6:(G'.cut M.length).le G2:=by
  rw[<-hn];refine⟨by rw[ak];show n<=n+1;omega,λc _=>by rw[p];rfl,λc i v hv=>by rw[a8];exact hv,λc ob hv=>by rw[d];exact hv,λa ha=>?_,λa ha k hk=>?_⟩
  .have:a<n:=ha;rw[a7 a Q0];exact Z0j _
  .have:a<n:=ha;exact q a k Q0
 have ao:A0v G2 (l.flatMap enc) ((bs.toList.drop o).take (l.length*sz)):=by rw[Z0e ZBD]at q6;exact A0v.mono a6 _ _ (A0v.cut _ _ q6 (C1l hb l))
 have ai:∀b',A3p G2 n (.vec e sz (l.flatMap enc) 0 [(0,l.length)]) b'->b'=b:=by rintro b' ⟨hh,m,a,ab,ha,rfl⟩;rw[z]at ha;simp only[Z0b]at ha;rw[<-ha]
 have ah:∀k y b',k≠n->A3p G2 k y b'->A3p G' k y b':=λk y b' hk hy=>by cases y<;>simp only[A3p]at hy|-<;>first|exact hy|(rw[p]at hy;exact hy)|(rw[q k _ hk]at hy;exact hy)|(obtain⟨hh,m,a,h1,h2,h3⟩:=hy;rw[q k _ hk]at h2;exact⟨hh,m,a,h1,h2,h3⟩)
 have am:Inv C G2 (M++[.vec e sz (l.flatMap enc) 0 [(0,l.length)]]) w':=by
  refine⟨by rw[ak];simp[hn],λb' i v hv=>h3.st b' i v (by rw[a8]at hv;exact hv),λb' ob hv=>h3.keep b' ob (by rw[d]at hv;exact hv),λk ob hk=>?_,λj k x y b' hx hy ox oy=>?_,λgg=>Rep.mono a6 _ _ (k1.gl gg),λgg cs hc=>by rw[d];exact k1.tab gg cs hc⟩
  .rcases Z4q k M.length with a9|a9
   .rw[Z0o a9]at hk;have h0:=k1.obj k ob hk;have u:k≠n:=Q0;cases ob with
    |gone=>trivial
    |cells t cs=>obtain⟨vs',a1,a2,a3,a4,a5⟩:=h0;exact⟨vs',by rw[p];exact a1,A0v.mono a6 _ _ a2,a3,λi=>by rw[p,a8];exact a4 i,by rw[p,d];exact a5⟩
    |fam m sz'=>obtain⟨a1,a2,a3,a4⟩:=h0;refine⟨by rw[a7 k u];exact a1,by rw[q k _ u];exact a2,by rw[q k _ u];exact a3,λhlt=>?_⟩;rw[q k _ u]at hlt|-;obtain⟨gb,vs',t,c1,c2,c3,c4,c5⟩:=a4 hlt;exact⟨gb,vs',t,c1,c2,c3,λi hi=>by rw[a8];exact c4 i hi,by rw[d];exact c5⟩
    |vec e' sz' cs g' hist'=>obtain⟨a1,a2,a3⟩:=h0;refine⟨by rw[a7 k u];exact a1,λhh m ab=>?_,λh1 n1 h2 n2 x1 x2 y1 y2 m1 m2=>by rw[q k _ u,q k _ u];exact a3 h1 n1 h2 n2 x1 x2 y1 y2 m1 m2⟩;obtain⟨c1,c2,b',o',ae,vs',d1,d2,d3,d4,d5,d6,d7,d8,d9⟩:=a2 hh m ab;exact⟨by rw[a7 k u];exact c1,c2,b',o',ae,vs',by rw[q k _ u];exact d1,d2,d3,d4,d5,A0v.mono a6 _ _ d6,d7,λi=>by rw[a8];exact d8 i,by rw[d];exact d9⟩
    |map es clock=>obtain⟨xs,a1,a2,a3⟩:=h0;exact⟨xs,by rw[p];exact a1,a2.mono a6,by rw[p,d];exact a3⟩
    |siter s pos=>obtain⟨a1,a2⟩:=h0;exact⟨by rw[p];exact a1,by rw[p,d];exact a2⟩
    |miter m since A2B stepped=>obtain⟨a1,a2,a3⟩:=h0;exact⟨by rw[p];exact a1,λb hb=>Z0S (a2 b hb) a6.n,by rw[p,d];exact a3⟩
   ·(have u:k=n:=by have:=A0P hk;simp at this;omega);subst u
    (have aj:ob=.vec e sz (l.flatMap enc) 0 [(0,l.length)]:=by rw[hn]at hk;simpa using hk.symm);subst aj
    refine⟨aa,λhh m ab=>?_,λh1 n1 h2 n2 x1 x2 y1 y2 m1 m2 e1 e2 e3=>?_⟩
    .simp only[Z0L,Z0i]at ab;obtain⟨rfl,rfl⟩:=ab;exact⟨by rw[aa];exact Z0j _,p2,b,o,cap,bs,z _,q2,q3,q4,q5,by rw[Z0e ZBD];exact ao,q7,λi=>by rw[a8];exact q8 i,by rw[d];exact q9⟩
    .rw[z]at e1 e2;simp only[Z0i,Z0b]at e1 e2;rw[<-e1.1,<-e2.1]
  .have ag:∀k y,(M++[A0m.vec e sz (l.flatMap enc) 0 [(0,l.length)]])[k]?=some y->A3p G2 k y b'->(k=n/\b'=b)\/(k<n/\M[k]?=some y/\A3p G' k y b'):=λk y hy ho=>by
    rcases Z4q k M.length with a9|a9
    .rw[Z0o a9]at hy;exact .inr ⟨Q0,hy,ah k y b' Q0 ho⟩
    ·(have u:k=n:=by have:=A0P hy;simp at this;omega);subst u
     (have aj:y=.vec e sz (l.flatMap enc) 0 [(0,l.length)]:=by rw[hn]at hy;simpa using hy.symm);subst aj
     exact .inl ⟨rfl,ai b' ho⟩
   rcases ag j x hx ox with⟨a1,a2⟩|⟨a1,a2,a3⟩<;>rcases ag k y hy oy with⟨c1,c2⟩|⟨c1,c2,c3⟩
   .omega
   .have:=h3.apart k fo y _ b' (by rw[Z0o (A0P c2)];exact c2) hm c3 (by rw[a2];exact ad);omega
   .have:=h3.apart j fo x _ b' (by rw[Z0o (A0P a2)];exact a2) hm a3 (by rw[c2];exact ad);omega
   .exact h3.apart j k x y b' (by rw[Z0o (A0P a2)];exact a2) (by rw[Z0o (A0P c2)];exact c2) a3 c3
 refine⟨_,_,G2,x,rfl,⟨rfl,rfl⟩,k2.trans a6,am,?_,h5⟩
 simp only[Rep]at h4|-
 obtain⟨_,_,a,a',ae,r1,r2,r3,rfl,r5,r6,r7⟩:=h4
 rw[q1]at r1
 simp only[Z0i,Z0b]at r1
 obtain⟨rfl,rfl⟩:=r1
 rw[<-hn]
 exact⟨by rw[ak];omega,Q0,_,a',cap,z 0,r2,r3,rfl,r5,r6,r7⟩
section
variable {C:Ctx} {M:Mem}
def B0p(C:Ctx)(h:A2r)(ops:Array Oper)(cls rob:Nat->Nat)(qs:Nat->List Nat):Nat->List Oper->Env->Mem->(Env->Mem->Prop)->Prop
 |_,[],T,M,K=>K T M
 |k,o::rest,T,M,K=>A2A ops o T (wsD C h (cls k) (rob k) o (T.ev C) M (λv M'=>(∀r∈qs k,M'[r]?=M[r]?)/\B0p C h ops cls rob qs (k+1) rest (T.put o.dst v) M' K)) (B0p C h ops cls rob qs (k+1) rest (T.put o.dst (.val undef)) M K)
def A6M(cls rob:Nat->Nat)(hot:Nat->Nat->Bool):B2o:={cls:=λk=>if cls k=5 then 3 else cls k,rob:=rob,aff:=hot}
def A9h{h}{ops}{cls rob:Nat->Nat}{a:Nat->Nat->Bool}{qs:Nat->List Nat}{K:Env->Mem->Prop}(hq:∀i k,cls i=1->a i k=false->rob i∈qs k):∀(l:List Oper) (k:Nat) (T:Env) (M:Mem),B0p C h ops cls rob qs k l T M K->A1x C h ops (A6M cls rob a) k l T M K
 |[],k,T,M,hw=>hw
 |o::rest,k,T,M,hw=>by
  simp only[B0p]at hw;simp only[A1x];refine A6A (λh1=>B4Y (λv m (h2:(∀r∈qs k,m[r]?=M[r]?)/\B0p C h ops cls rob qs (k+1) rest (T.put o.dst v) m K)=>⟨λi hi ha=>?_,A9h hq rest _ _ _ h2.2⟩) (by
   have hd:=B4E h1;by_cases e:cls k=5
   .rw[e]at h1;exact h1.elim
   .simpa only[A6M,Z0d e]using hd)) (λh1=>A9h hq rest _ _ _ h1) hw
  refine h2.1 _ (hq i k ?_ ha);simp only[A6M]at hi;split at hi
  .omega
  .exact hi
def C3z{N}{h}{id}{ops}{Q:Exit->Env->Mem->Prop}{T}(b:C.P.follows .mixedOrders=true)(cls rob:Nat->Nat)(a:Nat->Nat->Bool)(qs:Nat->List Nat)(hq:∀i k,cls i=1->a i k=false->rob i∈qs k)(f:A2F N ops ops.toList=true)(c:A4K ops (A6M cls (λ_=>0) a)=true)
 (hr:B0p C h ops cls rob qs 0 ops.toList T M (λT M=>Q .normal T M)):AWp C N (.region id ops true) Q T M:=by
 have h4:∀i o,ops[i]?=some o->(A6M cls rob a).cls i≠4:=by intro i o ho e;have:=(A5k c ho).2.1 e;simp[A6M]at this
 have h5:∀k,(A6M cls rob a).cls k≠5:=by intro k;simp only[A6M];split<;>omega
 have d:A4K ops (A6M cls rob a)=true:=by
  have hp:∀i,i<ops.size->A6Q ((A6M cls rob a).cls i)=false:=λi hi=>by
   cases e:A6Q ((A6M cls rob a).cls i)with
   |false=>rfl
   |true=>
    rcases A9I.1 e with h|h
    .exact absurd h (h4 i _ (Z1g hi))
    .exact absurd h (h5 i)
  have:∀i j,i<ops.size->j<ops.size->A2h (A6M cls rob a) j i=A2h (A6M cls (λ_=>0) a) j i:=by intro i j hi hj;have b1:=hp i hi;have b2:=hp j hj;have c1:(A6M cls (λ_=>0) a).cls=(A6M cls rob a).cls:=rfl;have c2:(A6M cls (λ_=>0) a).aff=(A6M cls rob a).aff:=rfl;simp only[A2h,c1,c2,b1,b2,Z2V,Z0K,Z3k]
  refine Z0D.2 λi hi=>?_;have h0:=Z0D.1 c i hi;have g:=Z2d.1 hi;cases ho:ops[i]? with
  |none=>rfl
  |some o=>
   rw[ho]at h0;simp only[Z0h]at h0|-;refine⟨h0.1,Z0D.2 λj hj=>?_⟩;have h1:=Z0D.1 h0.2 j hj;have l:=Z2d.1 hj;cases hx:ops[j]? with
   |none=>rfl
   |some x=>rw[hx]at h1;simp only at h1|-;rw[this i j g Q0];exact h1
 refine B0W (h:=h) b (A6M cls rob a) f d (λk hk hc=>?_) (A9h hq _ _ _ _ hr)
 exact absurd hc (h4 k _ (Z1g hk))
def B8q(C:Ctx)(h:A2r)(ops:Array Oper)(cls rob:Nat->Nat)(qs:Nat->List Nat)(k:Nat)(l:List Oper)(T:Env)(M:Mem)(K:Env->Mem->Prop)(_:Tag (ops,l,K)):Prop:=B0p C h ops cls rob qs k l T M K
variable {cls rob:Nat->Nat} {qs:Nat->List Nat} {N:Nat} {Q:Post} {T:Env} {h:A2r}
@[simp] def D9E{ops}{k}{K:Env->Mem->Prop}{tg}:B8q C h ops cls rob qs k [] T M K tg=K T M:=(rfl)
@[simp] def D7O{ops}{k}{o}{rest}{K:Env->Mem->Prop}{tg}:B8q C h ops cls rob qs k (o::rest) T M K tg=B3o ops o T (wD C h (cls k) (rob k) o (T.ev C) M (λv M'=>(∀r∈qs k,M'[r]?=M[r]?)/\B8q C h ops cls rob qs (k+1) rest (T.put o.dst v) M' K ⟨⟩) ⟨⟩) (B8q C h ops cls rob qs (k+1) rest (T.put o.dst (.val undef)) M K ⟨⟩) ⟨⟩:=rfl
def A7r{id}{l}{tg}(h:A2r)(b:C.P.follows .mixedOrders=true)(cls rob:Nat->Nat)(a:Nat->Nat->Bool)(qs:Nat->List Nat)(hq:∀i k,cls i=1->a i k=false->rob i∈qs k)(d:A2F N l.toArray l=true)(c:A4K l.toArray (A6M cls (λ_=>0) a)=true) (hr:B8q C h l.toArray cls rob qs 0 l T M (λT M=>Q .normal T M) ⟨⟩):wWp C N (.region id l.toArray true) Q T M tg:=C3z b cls rob a qs hq d c hr
end
section
variable {C:Ctx} {N:Nat} {Q:Post} {T:Env} {M:Mem}
end
end Go.Abs
section

end
namespace Go.Abs
mutual
inductive B4a:AV->AV->Prop
 |same {v:AV}:B4a v v
 |nil {sz:Nat}:B4a (.val (.slice none 0 0)) (.list sz [] .no)
 |list {sz:Nat} {rows rows':List (List AV)} {o:Own}:A9H rows rows'->B4a (.list sz rows o) (.list sz rows' .no)
 |agg {cs ds:List AV}:A4M cs ds->B4a (.agg cs) (.agg ds)
inductive A4M:List AV->List AV->Prop
 |nil:A4M [] []
 |cons {c d:AV} {cs ds:List AV}:B4a c d->A4M cs ds->A4M (c::cs) (d::ds)
inductive A9H:List (List AV)->List (List AV)->Prop
 |nil:A9H [] []
 |cons {r s:List AV} {rs ss:List (List AV)}:A4M r s->A9H rs ss->A9H (r::rs) (s::ss)
end
def A4M.refl:∀l:List AV,A4M l l
 |[]=>.nil
 |_::l=>.cons .same (A4M.refl l)
def A4M.len:∀{cs ds:List AV},A4M cs ds->cs.length=ds.length
 |[],ds,h=>by cases h;rfl
 |c::cs,ds,h=>by cases h with|cons _ h=>simp[A4M.len h]
def A9H.len:∀{cs ds:List (List AV)},A9H cs ds->cs.length=ds.length
 |[],ds,h=>by cases h;rfl
 |c::cs,ds,h=>by cases h with|cons _ h=>simp[A9H.len h]
mutual
def B4a.rep{G:A0q}:∀{v d:AV},B4a v d->∀x,Rep G v x->Rep G d x
 |_,_,.same,x,h=>h
 |_,_,.nil,x,h=>by simp only[Rep]at h|-;subst h;exact⟨none,0,rfl,Z0j _,Z3H _,Q1,trivial⟩
 |_,_,.list hr,x,h=>by
  simp only[Rep]at h|-;obtain⟨base,cap,hx,hl,hm,hb,ho⟩:=h;have e:=hr.len;refine⟨base,cap,by rw[<-e];exact hx,by rw[<-e];exact hl,hm,?_,trivial⟩;cases base with
  |none=>refine⟨?_,hb.2⟩;have:=hb.1;exact Z0w (by rw[<-e,this];rfl)
  |some a=>exact⟨λhn=>hb.1 (λh0=>hn (Z0w (by rw[<-e,h0];rfl))),A9H.rep hr _ _ hb.2⟩
 |_,_,.agg hl,x,h=>by simp only[Rep]at h|-;obtain⟨ys,hx,hr,ho⟩:=h;exact⟨ys,hx,A4M.rep hl _ hr,ho⟩
def A4M.rep{G:A0q}:∀{cs ds:List AV},A4M cs ds->∀ys,A0v G cs ys->A0v G ds ys
 |_,_,.nil,ys,h=>h
 |_,_,.cons h1 h2,ys,h=>by simp only[A0v]at h|-;obtain⟨y,a,he,hy,hr⟩:=h;exact⟨y,a,he,B4a.rep h1 _ hy,A4M.rep h2 _ hr⟩
def A4M.mem{G:A0q}:∀{cs ds:List AV},A4M cs ds->∀b i,A0S G cs b i->A0S G ds b i
 |_,_,.nil,b,i,h=>by simp[A0S]
 |_,_,.cons h1 h2,b,i,h=>by simp only[A0S]at h|-;obtain⟨⟨v,hv,ho,hr⟩,h3⟩:=h;exact⟨⟨v,hv,ho,B4a.rep h1 _ hr⟩,A4M.mem h2 _ _ h3⟩
def A9H.rep{G:A0q}{sz:Nat}:∀{cs ds:List (List AV)},A9H cs ds->∀b i,A0F G sz cs b i->A0F G sz ds b i
 |_,_,.nil,b,i,h=>by simp[A0F]
 |_,_,.cons h1 h2,b,i,h=>by simp only[A0F]at h|-;exact⟨⟨by rw[<-h1.len];exact h.1.1,A4M.mem h1 _ _ h.1.2⟩,A9H.rep h2 _ _ h.2⟩
end
def A0c.softR{C:Ctx}{f:FuncId}{args:List AV}{M:Mem}{X:AV}{Q:Mem->Prop}(h:A0c C f args M (λv M'=>B4a v X/\Q M')):A0c C f args M (λv M'=>v=X/\Q M'):=by intro G w vs hi hr;refine Z1E (h G w vs hi hr) ?_;rintro ex w' ⟨r,M',G',x,rfl,⟨hs,hq⟩,h2,h3,h4,h5⟩;exact⟨X,M',G',x,rfl,⟨rfl,hq⟩,h2,h3,hs.rep _ h4,h5⟩
def A0c.softA{C:Ctx}{f:FuncId}{args a:List AV}{M:Mem}{Q:AV->Mem->Prop}(h:A0c C f a M Q)(hs:A4M args a):A0c C f args M Q:=λG w vs hi hr=>h G w vs hi (hs.rep _ hr)
end Go.Abs
