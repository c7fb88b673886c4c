/- The texts SoM, WkS, WkM, WkQ, WkF, WkJ, WkK, WkA, WkD, WkG, WkU. -/
import Derived.Test.YtmihnfpinnfnfaaGreatDoorPG16
import Derived.Test.YtmihnfpinnfnfaaGreatDoorPG17
import Derived.Test.YtmihnfpinnfnfaaGreatDoorPG03
set_option linter.all false
namespace Go.Abs
section
variable {α:Type}
def A2X{g n:Nat}(q:Nat×Nat->Bool):∀{b:List (Nat×Nat)},b.lookup g=some n->(b.filter λx=>x.1==g||q x).lookup g=some n
 |[],h=>by simp at h
 |a::l,h=>by
  by_cases c:a.1=g
  ·(have e:(a.1==g||q a)=true:=by simp[c]);rw[Z2k,Z0c e]
   obtain⟨a1,a2⟩:=a;simp only at c;subst c;simpa[List.lookup]using h
  ·(have hl:l.lookup g=some n:=by obtain⟨a1,a2⟩:=a;(have:(g==a1)=false:=by simpa usingλe=>c e.symm);simpa[List.lookup,this]using h);have ih:=A2X q hl;by_cases e:(a.1==g||q a)=true
   .rw[Z2k,Z0c e];obtain⟨a1,a2⟩:=a;(have:(g==a1)=false:=by simpa usingλe=>c e.symm);simpa[List.lookup,this]using ih
   .rw[Z2k,Z0d e];exact ih
def A1Z{enc:α->List AV}{sz}(he:∀x,(enc x).length=sz):∀l:List α,(l.flatMap enc).length=l.length*sz
 |[]=>by simp
 |x::l=>by rw[Z0z,Z0k,he,A1Z he l,Z0q,Z3h];omega
def A3x{enc:α->List AV}{sz}(he:∀x,(enc x).length=sz):∀(i:Nat) (l:List α),(l.flatMap enc).drop (i*sz)=(l.drop i).flatMap enc
 |0,l=>by simp
 |i+1,[]=>by simp
 |i+1,x::l=>by rw[Z0z,List.drop_succ_cons,Z3h,Z4E,Z4h,he];rw[Z0y (by rw[he];omega),Z1v,show sz+i*sz-sz=i*sz by omega];exact A3x he i l
def A7D{enc:α->List AV}{sz:Nat}(he:∀x,(enc x).length=sz):∀(i:Nat) (l:List α),(l.flatMap enc).take (i*sz)=(l.take i).flatMap enc
 |0,l=>by simp
 |i+1,[]=>by simp
 |i+1,x::l=>by rw[Z0z,Z1j,Z3h,Z4E,Z4k,he];rw[Z0e (by rw[he];omega),show sz+i*sz-sz=i*sz by omega,Z0z];rw[A7D he i l]
def B3b{enc:α->List AV}{sz:Nat}(he:∀x,(enc x).length=sz)(l:List α)(i:Nat)(x:α)(hi:i<l.length):A0e (l.flatMap enc) (i*sz) (enc x)=(l.set i x).flatMap enc:=by rw[A0e,he,show i*sz+sz=(i+1)*sz by rw[Z3h],A3x he,A7D he,Z2i,Z0c hi];simp
def AtA(e sz f g n:Nat)(enc:α->List AV)(M0:Mem)(D:Nat->α)(M:Mem):Prop:=∃hist,M=M0.set f (.vec e sz ((ofD D n).flatMap enc) g hist)/\hist.lookup g=some n
section
variable {e sz f g n:Nat} {enc:α->List AV} {M0 M:Mem} {D:Nat->α}
def AtA.get(h:AtA e sz f g n enc M0 D M)(hf:f<M0.length):∃a,M[f]?=some (.vec e sz ((ofD D n).flatMap enc) g a)/\a.lookup g=some n:=by obtain⟨a,rfl,hl⟩:=h;exact⟨a,by simp[hf],hl⟩
def AtA.load{P:Program}{t:TypeId}(h:AtA e sz f g n enc M0 D M)(hf:f<M0.length)(he:∀x,(enc x).length=sz)(ha:A2s P t=some true)(hs:A1j P t=some sz){i:Nat}(hi:i<n):A0M P t M (.vptr f g (i*sz))=some (.agg (enc (D i))):=by obtain⟨b,hm,hl⟩:=h.get hf;have a:=A1Z he (ofD D n);rw[C5t]at a;simp only[A0M,A2r,hm,hl,Z2j,A0g,ha,hs];rw[Z0e Q0,A3x he,Z0o (by simpa using hi),Z0z,A8r,A7w];rw[Z0c (by rw[Z0k,he];omega),Z4k,he,Z4D,Z0e (by rw[he];omega),Z2m,Z1g]
def AtA.store(h:AtA e sz f g n enc M0 D M)(hf:f<M0.length)(he:∀x,(enc x).length=sz){i:Nat}(hi:i<n)(x:α):∃M',A0k (some sz) M (.vptr f g (i*sz)) (.agg (enc x))=some M'/\AtA e sz f g n enc M0 (upd D i x) M':=by
 obtain⟨a,hm,hl⟩:=h.get hf;have b:i*sz+sz<=n*sz:=by rw[<-Z3h];exact Z0U _ hi
 refine⟨M.set f (.vec e sz (A0e ((ofD D n).flatMap enc) (i*sz) (enc x)) g (A0V sz g (i*sz) a)),?_,?_⟩
 .simp only[A0k,hm,hl,AV.storable,AV.cells,he,Z0B b,decide_true,Z2L,Z1f]
 .obtain⟨c,rfl,_⟩:=h;refine⟨A0V sz g (i*sz) a,?_,A2X _ hl⟩;rw[Z2h,B3b he _ _ _ (by simpa using hi),C1S]
def AtA.start{a:List (Nat×Nat)}(hM:M[f]?=some (.vec e sz ((ofD D n).flatMap enc) g a))(hl:a.lookup g=some n):AtA e sz f g n enc M D M:=by refine⟨a,?_,hl⟩;obtain⟨h1,h2⟩:=Z0a.1 hM;rw[<-h2,Z3C]
end
end
set_option maxRecDepth 100000
def obj(v:AV):Option Nat:=match v with
 |.vref f _ _ _ _=>some f
 |_=>none
@[simp] def E1G:obj (.val (.slice none 0 0))=none:=(rfl)
@[simp] def E1t{f g s lo n}:obj (.vref f g s lo n)=some f:=(rfl)
def A0d(o:Option Nat)(M M':Mem):Prop:=M.length<=M'.length/\∀i,i<M.length->o≠some i->M'[i]?=M[i]?
def A0d.refl(o:Option Nat)(M:Mem):A0d o M M:=⟨Z0j _,λ_ _ _=>rfl⟩
def A0d.trans{o}{A B C}(h1:A0d o A B)(h2:A0d o B C):A0d o A C:=⟨Z0L h1.1 h2.1,λi hi ho=>(h2.2 i (Z0Z hi h1.1) ho).trans (h1.2 i hi ho)⟩
def A0d.of_none{o}{A B}(h:A0d none A B):A0d o A B:=⟨h.1,λi hi _=>h.2 i hi Q1⟩
def A0d.app(o:Option Nat)(M X:Mem):A0d o M (M++X):=⟨Q1,λi hi _=>by rw[Z0n hi]⟩
def A0d.set(M:Mem)(f:Nat)(X:A0l):A0d (some f) M (M.set f X):=⟨Q1,λi hi ho=>by rw[Z0f (by intro e;exact ho (by rw[e]))]⟩
def A0d.get{o}{A B}(h:A0d o A B){i}{X}(hx:A[i]?=some X)(ho:o≠some i):B[i]?=some X:=by rw[h.2 i (by have:=(Z0a.1 hx).1;exact this) ho,hx]
def A1K(n:Nat)(v:AV):Prop:=∀f,obj v=some f->n<=f
abbrev Grow(M M':Mem):Prop:=A0d none M M'
def A1p{α:Type}(e sz:Nat)(enc:α->List AV)(M:Mem)(v:AV)(l:List α):Prop:=(v=.val (.slice none 0 0)/\l=[])\/∃f g hist,v=.vref f g sz 0 l.length/\M[f]?=some (.vec e sz (l.flatMap enc) g hist)/\hist.lookup g=some l.length
section
variable {α:Type} {e sz:Nat} {enc:α->List AV} {M M':Mem} {v:AV} {l:List α}
def A1p.nil:A1p e sz enc M (.val (.slice none 0 0)) []:=.inl ⟨rfl,rfl⟩
def A1p.lt(h:A1p e sz enc M v l){f}(hf:obj v=some f):f<M.length:=by
 rcases h with⟨rfl,_⟩|⟨f',g,a,rfl,hm,_⟩
 .simp at hf
 .simp at hf;subst hf;exact(Z0a.1 hm).1
def A1p.keep(h:A1p e sz enc M v l){o}(hk:A0d o M M')(ho:∀f,obj v=some f->o≠some f):A1p e sz enc M' v l:=by
 rcases h with⟨rfl,h⟩|⟨f',g,a,rfl,hm,hl⟩
 .exact .inl ⟨rfl,h⟩
 .exact .inr ⟨f',g,a,rfl,hk.get hm (ho _ rfl),hl⟩
def A1p.src(he:∀x,(enc x).length=sz)(h:A1p e sz enc M v l):A0D M sz v=some (l.flatMap enc,l.length):=by
 rcases h with⟨rfl,rfl⟩|⟨f',g,a,rfl,hm,hl⟩
 .rfl
 .simp only[A0D,hm,hl];rw[Z0c ⟨trivial,trivial,Q0⟩,Z1I,Z1x,Z0e (by rw[A1Z he];exact Z0j _)]
def A1p.store(h:A1p e sz enc M v l):v.storable=true:=by rcases h with⟨rfl,rfl⟩|⟨f',g,a,rfl,hm,hl⟩<;>rfl
def A1p.cells(h:A1p e sz enc M v l):v.cells=[v]:=by rcases h with⟨rfl,rfl⟩|⟨f',g,a,rfl,hm,hl⟩<;>rfl
def A1p.len(h:A1p e sz enc M v l){P}{t e':TypeId}(ht:P.underlying t=some (.slice e')):A2W P t v=some l.length:=by rcases h with⟨rfl,rfl⟩|⟨f',g,a,rfl,hm,hl⟩<;>simp[A2W,ht]
def A1p.at_{P}{t:TypeId}(h:A1p e sz enc M v l)(he:∀x,(enc x).length=sz)(ha:A2s P t=some true)(hs:A1j P t=some sz){i}(hi:i<l.length):∃p,A5O (some (some sz)) v (.val (.int .i64 i))=some p/\A2r M p=some ((l.drop i).flatMap enc)/\A0M P t M p=some (.agg (enc l[i]))/\A5S p=obj v:=by
 rcases h with⟨rfl,rfl⟩|⟨f,g,a,rfl,hm,hl⟩
 .simp at hi
 .refine⟨.vptr f g (i*sz),by simp[hi],?_,?_,rfl⟩
  .simp only[A2r,hm,hl];rw[Z0e (by rw[A1Z he];exact Z0j _),A3x he]
  .simp only[A0M,A2r,hm,hl,Z2j,A0g,ha,hs];rw[Z0e (by rw[A1Z he];exact Z0j _),A3x he,Z0o hi,Z0z,A7w];rw[Z0c (by rw[Z0k,he];omega),Z4k,he,Z4D,Z0e (by rw[he];omega),Z2m,Z1g]
end
section
variable {C:Ctx} {M:Mem} {K:AV->Mem->Prop} {α:Type} {enc:α->List AV}
def A3u{own vec}{st xt e:TypeId}{sz bytes}{s x}{l news}{tg}(h1:A1b C.P st=some e)(h2:A4l C.P xt)(h3:A3X C.P e sz bytes)(he:∀x,(enc x).length=sz)(ho:A1p e sz enc M s l)
 (hx:A0D M sz x=some (news.flatMap enc,news.length))(hb:(l.length+news.length)*bytes<=140737488355328)(b:vec=true)
 (hk:∀v' M',A1p e sz enc M' v' (l++news)->A0d (obj s) M M'->(obj v'=obj s\/A1K M.length v')->(news=[]->v'=s/\M'=M)->K v' M'):A3s C own vec st xt s x M K tg:=by
 subst b
 rcases ho with⟨rfl,rfl⟩|⟨f,g,a,rfl,hf,hl⟩
 .refine A5c h1 h2 h3 (by rfl) hx hb (by simp only[A5e,hx]) ?_ rfl;simp only[A5Y,hx];by_cases h0:news.length=0
  .rw[Z0c h0];have hn:news=[]:=Z0v h0;subst hn;exact hk _ _ (.inl ⟨rfl,rfl⟩) (A0d.refl _ _) (.inl rfl) λ_=>⟨rfl,rfl⟩
  .rw[Z0d h0];(refine hk _ _ (.inr ⟨M.length,0,[(0,news.length)],Q1,Q1,by simp[List.lookup]⟩) (.app _ _ _) (.inr ?_) λhn=>by subst hn;simp at h0);intro f hf;simp at hf;omega
 .have d:A0D M sz (.vref f g sz 0 l.length)=some (l.flatMap enc,l.length):=A1p.src he (.inr ⟨f,g,a,rfl,hf,hl⟩);refine A5c h1 h2 h3 d hx hb ?_ ?_ rfl
  .simp only[A5e,hx,hf,hl];rw[Z0d Q0]
  .simp only[A5Y,hx,hf,hl];rw[Z0c ⟨trivial,trivial,trivial,Q0⟩];by_cases h0:news.length=0
   .rw[Z0c h0];have hn:news=[]:=Z0v h0;subst hn;simp only[Z1g]at hk;exact hk _ _ (.inr ⟨f,g,a,rfl,hf,hl⟩) (A0d.refl _ _) (.inl rfl) λ_=>⟨rfl,rfl⟩
   .rw[Z0d h0];have c:f<M.length:=(Z0a.1 hf).1;(refine hk _ _ (.inr ⟨f,g+1,(g+1,l.length+news.length)::a.filter (λp=>decide (p.2<=l.length)),Q1,?_,by simp[List.lookup]⟩) (.set _ _ _) (.inl rfl) λhn=>by subst hn;simp at h0);simp only[Z2M,c,Z1f,Z1I,Z1x];rw[Z0e (by rw[A1Z he];exact Z0j _),Z1k]
def B0R{f}{args}{Q:Value->Prop}(h:A0c C f args M (λv M'=>(∃x,v=.val x/\Q x)/\Grow M M')):A0c C f args M (λv M'=>(∃x,v=.val x/\Q x)/\M'=M):=by
 refine h.cut ?_;rintro r M' ⟨⟨x,rfl,hq⟩,hg⟩;refine⟨M'.drop M.length,?_,trivial,⟨x,rfl,hq⟩,rfl⟩;have ht:M'.take M.length=M:=by
  apply Z1J;intro i;rw[Z0x];split
  .rename_i hi;exact hg.2 i hi Q1
  .rename_i hi;exact(Z1w Q0).symm
 have:=Z1b M.length M';rw[ht]at this;exact this.symm
def C1W(C:Ctx)(h:A2j)(ops:Array Oper)(cls:Nat->Nat)(r0:Nat):Nat->List Oper->Env->Mem->(Env->Mem->Prop)->Prop
 |_,[],T,M,K=>K T M
 |k,o::rest,T,M,K=>A2q ops o T (wsD C h (cls k) r0 o (T.ev C) M (λv M'=>M'[r0]?=M[r0]?/\C1W C h ops cls r0 (k+1) rest (T.put o.dst v) M' K)) (C1W C h ops cls r0 (k+1) rest (T.put o.dst (.val undef)) M K)
def C0X(C:Ctx)(h:A2j)(ops:Array Oper)(cls:Nat->Nat)(r0:Nat)(k:Nat)(l:List Oper)(T:Env)(M:Mem)(K:Env->Mem->Prop)(_:Tag (ops,l,K)):Prop:=C1W C h ops cls r0 k l T M K
variable {cls:Nat->Nat} {r0 N:Nat} {Q:Post} {T:Env} {h:A2j}
@[simp] def D7Y{ops}{k}{K:Env->Mem->Prop}{tg}:C0X C h ops cls r0 k [] T M K tg=K T M:=(rfl)
@[simp] def D6G{ops}{k}{o}{rest}{K:Env->Mem->Prop}{tg}:C0X C h ops cls r0 k (o::rest) T M K tg=B2Q ops o T (wD C h (cls k) r0 o (T.ev C) M (λv M'=>M'[r0]?=M[r0]?/\C0X C h ops cls r0 (k+1) rest (T.put o.dst v) M' K ⟨⟩) ⟨⟩) (C0X C h ops cls r0 (k+1) rest (T.put o.dst (.val undef)) M K ⟨⟩) ⟨⟩:=rfl
end
section
variable {K V:Type} [DecidableEq K]
def A4Y:List (K×V)->K->Option V
 |[],_=>none
 |(k,v)::l,x=>if x=k then some v else A4Y l x
def B1P:List (K×V)->K->V->List (K×V)
 |[],x,y=>[(x,y)]
 |(k,v)::l,x,y=>if x=k then(x,y)::l else(k,v)::B1P l x y
def C7T{l:List (K×V)}{x:K}:A4Y l x=none<->x∉l.map (·.1):=by
 induction l with
 |nil=>simp[A4Y]
 |cons p l ih=>
  obtain⟨k,v⟩:=p;simp only[A4Y,Z0w,Z0r,Z4r];by_cases h:x=k
  .simp[h]
  .simp[h,ih]
def D1z{l:List (K×V)}{x:K}{y:V}(h:x∉l.map (·.1)):B1P l x y=l++[(x,y)]:=by
 induction l with
 |nil=>rfl
 |cons p l ih=>obtain⟨k,v⟩:=p;simp only[Z0w,Z0r,Z4r]at h;simp only[B1P,Z0d h.1,ih h.2,Z0O]
def B4E{l:List (K×V)}{x z:K}{y:V}:A4Y (B1P l x y) z=if z=x then some y else A4Y l z:=by
 induction l with
 |nil=>simp[B1P,A4Y]
 |cons p l ih=>
  obtain⟨k,v⟩:=p;by_cases h:x=k
  .subst h;simp only[B1P,Z1f,A4Y];split<;>simp_all
  .simp only[B1P,Z0d h,A4Y];by_cases h2:z=k
   .subst h2;rw[Z0c rfl,Z0c rfl,Z0d (λe=>h e.symm)]
   .rw[Z0d h2,Z0d h2,ih]
structure B1Y (P:Program) (t kt et:TypeId) (kenc:K->AV):Prop where
 kv:A7S P t=some (kt,et)
 ty:(A6g P kt||B5w P kt)=true
 chk:∀k,A4I P 30 kt (kenc k)=true
 eq:∀a b,A9N P 30 kt (kenc a) (kenc b)=some (decide (a=b))
 bits:∀a,∃c,A7z (kenc a)=some c/\Instr.sameBits 10000 c c=true
def A2Y(kenc:K->AV)(venc:V->AV)(M:Mem)(b:Nat)(l:List (K×V)):Prop:=∃es clock,M[b]?=some (.map es clock)/\es.map (λe=>(e.1,e.2.1))=l.map λp=>(kenc p.1,venc p.2)
section
variable {P:Program} {t kt et:TypeId} {kenc:K->AV} {venc:V->AV} {M M':Mem} {b:Nat} {l:List (K×V)}
omit [DecidableEq K]in
def A2Y.keep(h:A2Y kenc venc M b l){o}(hk:A0d o M M')(ho:o≠some b):A2Y kenc venc M' b l:=by obtain⟨es,c,h1,h2⟩:=h;exact⟨es,c,hk.get h1 ho,h2⟩
omit [DecidableEq K]in
def A2Y.lt(h:A2Y kenc venc M b l):b<M.length:=by obtain⟨es,c,h1,_⟩:=h;exact(Z0a.1 h1).1
omit [DecidableEq K]in
def A2Y.new(M:Mem):A2Y kenc venc (M++[.map [] 0]) M.length []:=⟨[],0,Q1,rfl⟩
def B2D(hk:B1Y P t kt et kenc)(x:K):∀(l:List (K×V)) (es:List (AV×AV×Nat)),es.map (λe=>(e.1,e.2.1))=l.map (λp=>(kenc p.1,venc p.2))->
 (A4Y l x=none/\A2I P kt (kenc x) es=some none)\/(∃v i,A4Y l x=some v/\A2I P kt (kenc x) es=some (some (i,venc v))/\(∃born,es[i]?=some (kenc x,venc v,born))/\∀y born,(es.set i (kenc x,venc y,born)).map (λe=>(e.1,e.2.1))=(B1P l x y).map (λp=>(kenc p.1,venc p.2)))
 |[],[],_=>.inl ⟨rfl,rfl⟩
 |[],_::_,h=>by simp at h
 |_::_,[],h=>by simp at h
 |(k,v)::l,(ek,ev,bn)::es,h=>by
  simp only[Z0w,Z2w,Z0g]at h;obtain⟨⟨rfl,rfl⟩,h2⟩:=h;by_cases e:x=k
  .subst e;refine .inr ⟨v,0,by simp[A4Y],by simp[A2I,hk.eq],⟨bn,rfl⟩,λy born=>?_⟩;simp[B1P,h2]
  .rcases B2D hk x l es h2 with⟨q1,q2⟩|⟨v',i,q1,q2,⟨born,q3⟩,q4⟩
   .exact .inl ⟨by simp[A4Y,e,q1],by simp[A2I,hk.eq,e,q2]⟩
   .refine .inr ⟨v',i+1,by simp[A4Y,e,q1],by simp[A2I,hk.eq,e,q2],⟨born,by simpa using q3⟩,λy born=>?_⟩;simp only[Z3R,Z0w,q4 y born,B1P,Z0d e]
def A2Y.get(hk:B1Y P t kt et kenc)(h:A2Y kenc venc M b l)(x:K){z}(hz:A8P P et=some z)(ok:Bool):A1S P t M (.mapr b) (kenc x) ok=some (match A4Y l x with|some v=>if ok then .tuple [venc v,.val (.bool true)]else venc v|none=>if ok then .tuple [z,.val (.bool false)]else z):=by
 obtain⟨es,c,h1,h2⟩:=h
 simp only[A1S,hk.kv,A4C,h1,hk.ty,hk.chk,Z2L,Z1f]
 rcases B2D hk x l es h2 with⟨q1,q2⟩|⟨v',i,q1,q2,_⟩
 .rw[q1,q2];simp[hz]
 .rw[q1,q2]
def A2Y.put(hk:B1Y P t kt et kenc)(h:A2Y kenc venc M b l)(x:K)(y:V):∃M',A1V P t M (.mapr b) (kenc x) (venc y)=some M'/\A2Y kenc venc M' b (B1P l x y)/\A0d (some b) M M':=by
 have a:=h.lt;obtain⟨es,c,h1,h2⟩:=h;rcases B2D hk x l es h2 with⟨q1,q2⟩|⟨v',i,q1,q2,⟨born,q3⟩,q4⟩
 .refine⟨M.set b (.map (es++[(kenc x,venc y,c)]) (c+1)),?_,⟨es++[(kenc x,venc y,c)],c+1,by simp[a],?_⟩,.set _ _ _⟩
  .simp only[A1V,hk.kv,h1,hk.ty,hk.chk,Z2L,Z1f,q2]
  .rw[Z1c,h2,D1z (C7T.1 q1)];simp
 .obtain⟨cv,hc,hb⟩:=hk.bits x;refine⟨M.set b (.map (es.set i (kenc x,venc y,born)) c),?_,⟨es.set i (kenc x,venc y,born),c,by simp[a],q4 y born⟩,.set _ _ _⟩;simp only[A1V,hk.kv,h1,hk.ty,hk.chk,Z2L,Z1f,q2,q3,hc,hb]
end
end
section
variable {C:Ctx} {M:Mem}
def A9U(C:Ctx)(h:A2j)(ops:Array Oper)(cls rob:Nat->Nat)(qs:List Nat):Nat->List Oper->Env->Mem->(Env->Mem->Prop)->Prop
 |_,[],T,M,K=>K T M
 |k,o::rest,T,M,K=>A2q ops o T (wsD C h (cls k) (rob k) o (T.ev C) M (λv M'=>(∀r∈qs,M'[r]?=M[r]?)/\A9U C h ops cls rob qs (k+1) rest (T.put o.dst v) M' K)) (A9U C h ops cls rob qs (k+1) rest (T.put o.dst (.val undef)) M K)
def A5T(cls rob:Nat->Nat)(hot:Nat->Bool):B1N:={cls:=λk=>if cls k=5 then 3 else cls k,rob:=rob,aff:=λi _=>hot i}
def A8K{h}{ops}{cls rob:Nat->Nat}{a:Nat->Bool}{qs}{K:Env->Mem->Prop}(hq:∀i,cls i=1->a i=false->rob i∈qs):∀(l:List Oper) (k:Nat) (T:Env) (M:Mem),A9U C h ops cls rob qs k l T M K->A1t C h ops (A5T cls rob a) k l T M K
 |[],k,T,M,hw=>hw
 |o::rest,k,T,M,hw=>by
  simp only[A9U]at hw;simp only[A1t];refine A6c (λh1=>B4t (λv m (h2:(∀r∈qs,m[r]?=M[r]?)/\A9U C h ops cls rob qs (k+1) rest (T.put o.dst v) m K)=>⟨λi hi ha=>?_,A8K hq rest _ _ _ h2.2⟩) (by
   have hd:=B4e h1;by_cases e:cls k=5
   .rw[e]at h1;exact h1.elim
   .simpa only[A5T,Z0d e]using hd)) (λh1=>A8K hq rest _ _ _ h1) hw
  refine h2.1 _ (hq i ?_ ha);simp only[A5T]at hi;split at hi
  .omega
  .exact hi
def C4E{N}{h}{id}{ops}{Q:Exit->Env->Mem->Prop}{T}(b:C.P.follows .mixedOrders=true)(cls rob:Nat->Nat)(a:Nat->Bool)(qs:List Nat)(hq:∀i,cls i=1->a i=false->rob i∈qs)(f:A2u N ops ops.toList=true)(c:A4D ops (A5T cls (λ_=>0) a)=true)
 (hr:A9U C h ops cls rob qs 0 ops.toList T M (λT M=>Q .normal T M)):AWp C N (.region id ops true) Q T M:=by
 have h4:∀i o,ops[i]?=some o->(A5T cls rob a).cls i≠4:=by intro i o ho e;have:=(A4Z c ho).2.1 e;simp[A5T]at this
 have h5:∀k,(A5T cls rob a).cls k≠5:=by intro k;simp only[A5T];split<;>omega
 have d:A4D ops (A5T cls rob a)=true:=by
  have hp:∀i,i<ops.size->A6q ((A5T cls rob a).cls i)=false:=λi hi=>by
   cases e:A6q ((A5T cls rob a).cls i)with
   |false=>rfl
   |true=>
    rcases A9k.1 e with h|h
    .exact absurd h (h4 i _ (Z1e hi))
    .exact absurd h (h5 i)
  have:∀i j,i<ops.size->j<ops.size->A2b (A5T cls rob a) j i=A2b (A5T cls (λ_=>0) a) j i:=by intro i j hi hj;have b1:=hp i hi;have b2:=hp j hj;have c1:(A5T cls (λ_=>0) a).cls=(A5T cls rob a).cls:=rfl;have c2:(A5T cls (λ_=>0) a).aff=(A5T cls rob a).aff:=rfl;simp only[A2b,c1,c2,b1,b2,Z2V,Z0J,Z3V]
  refine Z0D.2 λi hi=>?_;have h0:=Z0D.1 c i hi;have g:=Z1W.1 hi;cases ho:ops[i]? with
  |none=>rfl
  |some o=>
   rw[ho]at h0;simp only[Z0h]at h0|-;refine⟨h0.1,Z0D.2 λj hj=>?_⟩;have h1:=Z0D.1 h0.2 j hj;have l:=Z1W.1 hj;cases hx:ops[j]? with
   |none=>rfl
   |some x=>rw[hx]at h1;simp only at h1|-;rw[this i j g Q0];exact h1
 refine B0u (h:=h) b (A5T cls rob a) f d (λk hk hc=>?_) (A8K hq _ _ _ _ hr)
 exact absurd hc (h4 k _ (Z1e hk))
def B7Y(C:Ctx)(h:A2j)(ops:Array Oper)(cls rob:Nat->Nat)(qs:List Nat)(k:Nat)(l:List Oper)(T:Env)(M:Mem)(K:Env->Mem->Prop)(_:Tag (ops,l,K)):Prop:=A9U C h ops cls rob qs k l T M K
variable {cls rob:Nat->Nat} {qs:List Nat} {N:Nat} {Q:Post} {T:Env} {h:A2j}
@[simp] def D7i{ops}{k}{K:Env->Mem->Prop}{tg}:B7Y C h ops cls rob qs k [] T M K tg=K T M:=(rfl)
@[simp] def D6j{ops}{k}{o}{rest}{K:Env->Mem->Prop}{tg}:B7Y C h ops cls rob qs k (o::rest) T M K tg=B2Q ops o T (wD C h (cls k) (rob k) o (T.ev C) M (λv M'=>(∀r∈qs,M'[r]?=M[r]?)/\B7Y C h ops cls rob qs (k+1) rest (T.put o.dst v) M' K ⟨⟩) ⟨⟩) (B7Y C h ops cls rob qs (k+1) rest (T.put o.dst (.val undef)) M K ⟨⟩) ⟨⟩:=rfl
def B1d{id}{l}{tg}(h:A2j)(b:C.P.follows .mixedOrders=true)(cls rob:Nat->Nat)(a:Nat->Bool)(qs:List Nat)(hq:∀i,cls i=1->a i=false->rob i∈qs)(d:A2u N l.toArray l=true)(c:A4D l.toArray (A5T cls (λ_=>0) a)=true) (hr:B7Y C h l.toArray cls rob qs 0 l T M (λT M=>Q .normal T M) ⟨⟩):wWp C N (.region id l.toArray true) Q T M tg:=C4E b cls rob a qs hq d c hr
end
def B8i{G}{α:Type}{enc:α->List AV}{sz b}(he:∀x,(enc x).length=sz)(vs:List Value)(e:∀i v,vs[i]?=some v->∀o,G.st b (o+i)=some v->True):∀(l:List α) (o:Nat) (ws:List Value),A0s G (l.flatMap enc) ws->(∀v∈ws,v.oneCell'=true)->(∀i v,ws[i]?=some v->G.st b (o+i)=some v)->A0C G sz (l.map enc) b o:=by
 have mem:∀(cs:List AV) (o:Nat) (ws d:List Value),A0s G cs ws->(∀v∈ws,v.oneCell'=true)->(∀i v,ws[i]?=some v->G.st b (o+i)=some v)->A0Q G cs b o:=by
  intro cs;induction cs with
  |nil=>intros;simp[A0Q]
  |cons c cs ih=>intro o ws d h1 h2 h3;simp only[A0s]at h1;obtain⟨y,ys,rfl,k1,k2⟩:=h1;simp only[A0Q];refine⟨⟨y,by simpa using h3 0 y rfl,h2 y Q1,k1⟩,ih (o+1) ys d k2 (λv hv=>h2 v (by simp[hv])) λi v hv=>?_⟩;have:=h3 (i+1) v (by simpa using hv);rw[show o+1+i=o+(i+1)by omega];exact this
 have split:∀(a b:List AV) (ws:List Value),A0s G (a++b) ws->A0s G a (ws.take a.length)/\A0s G b (ws.drop a.length):=by
  intro a;induction a with
  |nil=>intro b ws h;simpa[A0s]using h
  |cons c a ih=>intro b ws h;simp only[Z0O,A0s]at h;obtain⟨y,ys,rfl,k1,k2⟩:=h;obtain⟨q1,q2⟩:=ih b ys k2;exact⟨by simp only[Z0q,Z1j,A0s];exact⟨y,_,rfl,k1,q1⟩,by simpa using q2⟩
 intro l
 induction l with
 |nil=>intros;simp[A0C]
 |cons x l ih=>
  intro o ws h1 h2 h3
  rw[Z0z]at h1
  obtain⟨q1,q2⟩:=split _ _ _ h1
  rw[he]at q1 q2
  simp only[Z0w,A0C]
  refine⟨⟨he x,mem _ o _ [] q1 (λv hv=>h2 v (Z1m hv)) λi v hv=>?_⟩,ih (o+sz) _ q2 (λv hv=>h2 v (Z1l hv)) λi v hv=>?_⟩
  .refine h3 i v ?_;rw[Z0x]at hv;split at hv
   .exact hv
   .simp at hv
  .rw[Z0C]at hv;rw[show o+sz+i=o+(sz+i)by omega];exact h3 _ v hv
def C4z{n}:∀(a c:List AV),A1l n a->A1l n c->A1l n (a++c)
 |[],c,_,h=>h
 |z::a,c,h1,h2=>by simp only[Z0O,A1l]at h1|-;exact⟨h1.1,C4z a c h1.2 h2⟩
def B1G{α:Type}{enc:α->List AV}{n}(hb:∀n x,A1l n (enc x)):∀l:List α,A1l n (l.flatMap enc)
 |[]=>by simp[A1l]
 |y::l=>by rw[Z0z];exact C4z _ _ (hb n y) (B1G hb l)
def A0c.still{C}{f}{args}{M}{α:Type}{e sz}{enc:α->List AV}{l}(he:∀x,(enc x).length=sz)(hb:∀n x,A1l n (enc x)) (h:A0c C f args M (λv M'=>A1p e sz enc M' v l/\Grow M M'/\A1K M.length v)):A0c C f args M (λv M'=>v=.list sz (l.map enc) .no/\M'=M):=by
 intro G w vs hi hr
 refine Z1B (h G w vs hi hr) ?_
 rintro ex w' ⟨r,M',G',x,rfl,⟨ho,hg,ad⟩,h2,h3,h4,h5⟩
 obtain⟨X,rfl⟩:∃X,M'=M++X:=by
  refine⟨M'.drop M.length,?_⟩;have ht:M'.take M.length=M:=by
   apply Z1J;intro i;rw[Z0x];split
   .rename_i hi;exact hg.2 i hi Q1
   .rename_i hi;exact(Z1w Q0).symm
  have:=Z1b M.length M';rw[ht]at this;exact this.symm
 obtain⟨k1,k2⟩:=hi.cut h2 h3
 rcases ho with⟨rfl,rfl⟩|⟨fo,g,a0,rfl,hm,hl⟩
 .refine⟨_,M,_,x,rfl,⟨rfl,rfl⟩,k2,k1,?_,h5⟩;simp only[Rep]at h4|-;subst h4;exact⟨none,0,rfl,Q1,by simp[maxLen],⟨rfl,rfl⟩,trivial⟩
 have aj:M.length<=fo:=ad fo rfl
 have a7:(g,l.length)∈a0:=A2o hl
 obtain⟨p1,p2,b,o,cap,bs,q1,q2,q3,q4,q5,q6,q7,q8,q9⟩:=(h3.obj fo _ hm).2.1 g l.length a7
 have ae:A2D G' fo (.vec e sz (l.flatMap enc) g a0) b:=⟨g,l.length,_,a7,congrArg Prod.fst q1,rfl⟩
 rw[Z0e (by rw[A1Z he];exact Z0j _)]at q6
 obtain⟨ws,ab⟩:=ex ((bs.toList.drop o).take (l.length*sz))
 rw[<-ab]at q6 q7
 have aa:∀i v,ws[i]?=some v->w'.cell? ⟨b,o+i,none⟩=some v:=λi v hv=>by
  rw[ab,Z0x]at hv;split at hv
  .rw[Z0C]at hv;simp only[World.cell?,q4];simpa using hv
  .simp at hv
 have ah:∀k y,M[k]?=some y->∀b',A2D (G'.cut M.length) k y b'->b'≠b:=λk y hy b' hb' e=>by subst e;have:=h3.apart k fo y _ b' (by rw[Z0n (A0N hy)];exact hy) hm (by cases y<;>exact hb') ae;have:=A0N hy;omega
 obtain⟨G2,q⟩:=ex ({G'.cut M.length with st:=λb' i=>if b'=b/\o<=i then ws[i-o]? else G'.st b' i}:A0p)
 have ag:∀b' i,b'≠b->G2.st b' i=G'.st b' i:=λb' i a8=>by rw[q];simp[a8]
 have ac:∀i v,ws[i]?=some v->G2.st b (o+i)=some v:=λi v hv=>by rw[q];simpa using hv
 have u:(G'.cut M.length).le G2:=by
  rw[q];refine⟨Z0j _,λ_ _=>rfl,λb' i v hv=>?_,λ_ _ h=>h,λ_ _=>Z0j _,λ_ _ _ _=>rfl⟩;have hv:G'.st b' i=some v:=hv;have a8:b'≠b:=λe=>by rw[e,q8]at hv;simp at hv
  simp only[a8,false_and,Z2b];exact hv
 have d:G2.blk=(G'.cut M.length).blk:=by rw[q]
 have c:G2.keep=(G'.cut M.length).keep:=by rw[q]
 have p:G2.hdr=(G'.cut M.length).hdr:=by rw[q]
 have z:G2.top=(G'.cut M.length).top:=by rw[q]
 have af:Inv C G2 M w':=by
  refine⟨by rw[q];rfl,λb' i v hv=>?_,λb' ob hv=>?_,λk ob hk=>?_,λj k x y b' hx hy ox oy=>?_,λgg=>Rep.mono u _ _ (k1.gl gg),λgg cs hc=>?_⟩
  .rw[q]at hv;simp only at hv;split at hv
   .rename_i hc;obtain⟨rfl,ak⟩:=hc;have:=aa _ v hv;rwa[show o+(i-o)=i by omega]at this
   .exact h3.st b' i v hv
  .rw[c]at hv;exact h3.keep b' ob hv
  .have h0:=k1.obj k ob hk;have hn:=ah k ob hk;have hs:∀b' i,b'≠b->G2.st b' i=(G'.cut M.length).st b' i:=λb' i h=>ag b' i h;cases ob with
   |gone=>trivial
   |cells t cs=>obtain⟨vs',a1,a2,a3,a4,a5⟩:=h0;refine⟨vs',by rw[d];exact a1,A0s.mono u _ _ a2,a3,λi=>?_,by rw[d,c];exact a5⟩;rw[d,hs _ _ (hn _ rfl)];exact a4 i
   |fam m sz'=>obtain⟨a1,a2,a3,a4⟩:=h0;refine⟨by rw[z];exact a1,by rw[p];exact a2,by rw[p];exact a3,λa9=>?_⟩;rw[p]at a9|-;obtain⟨gb,vs',t,c1,c2,c3,c4,c5⟩:=a4 a9;refine⟨gb,vs',t,c1,c2,c3,λi hi=>?_,by rw[c];exact c5⟩;rw[hs _ _ (hn gb ⟨a9,_,c1,rfl⟩)];exact c4 i hi
   |vec e' sz' cs g' hist'=>obtain⟨a1,a2,a3⟩:=h0;refine⟨by rw[z];exact a1,λhh n hmm=>?_,by rw[p];exact a3⟩;obtain⟨c1,c2,b',o',a6,vs',d1,d2,d3,d4,d5,d6,d7,d8,d9⟩:=a2 hh n hmm;refine⟨by rw[z];exact c1,c2,b',o',a6,vs',by rw[p];exact d1,d2,d3,d4,d5,A0s.mono u _ _ d6,d7,λi=>?_,by rw[c];exact d9⟩;rw[hs _ _ (hn b' ⟨hh,n,_,hmm,congrArg Prod.fst d1,rfl⟩)];exact d8 i
   |map es clock=>obtain⟨xs,a1,a2,a3⟩:=h0;exact⟨xs,by rw[d];exact a1,a2.mono u,by rw[d,c];exact a3⟩
   |siter s pos=>obtain⟨a1,a2⟩:=h0;exact⟨by rw[d];exact a1,by rw[d,c];exact a2⟩
   |miter m since A3l stepped=>obtain⟨a1,a2,a3⟩:=h0;exact⟨by rw[d];exact a1,by rw[q];exact a2,by rw[d,c];exact a3⟩
  .refine k1.apart j k x y b' hx hy ?_ ?_
   .cases x<;>simp only[A2D]at ox|-<;>first|exact ox|(rw[d]at ox;exact ox)|(rw[p]at ox;exact ox)
   .cases y<;>simp only[A2D]at oy|-<;>first|exact oy|(rw[d]at oy;exact oy)|(rw[p]at oy;exact oy)
  .rw[c];exact k1.tab gg cs hc
 refine⟨_,M,G2,x,rfl,⟨rfl,rfl⟩,k2.trans u,af,?_,h5⟩
 simp only[Rep]at h4
 obtain⟨_,_,a,a',a6,r1,r2,r3,rfl,r5,r6,r7⟩:=h4
 rw[q1]at r1
 simp only[Z0g,Z0b]at r1
 obtain⟨rfl,rfl⟩:=r1
 simp only[Rep,Z0N]
 refine⟨some a',cap,Q1,q2,q3,⟨λ_=>r3,?_⟩,trivial⟩
 by_cases hc:0<cap
 .have:=r7 hc;rw[this];simp only[Z1I,Z0S];have ai:A0s (G'.cut M.length) (l.flatMap enc) ws:=A0s.cut _ _ q6 (B1G hb l);exact B8i he [] (λ_ _ _ _ _=>trivial) l o ws (A0s.mono u _ _ ai) q7 ac
 .have:l=[]:=Z0v Q0;subst this;simp[A0C]
inductive Still (M:Mem) (n:Nat) (ok:AV->Prop):List AV->List AV->Prop
 |nil:Still M n ok [] []
 |same {v:AV} {cs ds:List AV}:ok v->Still M n ok cs ds->Still M n ok (v::cs) (v::ds)
 |nilS {sz:Nat} {cs ds:List AV}:Still M n ok cs ds->Still M n ok (.val (.slice none 0 0)::cs) (.list sz [] .no::ds)
 |vec {f g sz len m e g':Nat} {as:List AV} {hist:List (Nat×Nat)} {rows:List (List AV)} {cs ds:List AV}:n<=f->M[f]?=some (.vec e sz as g' hist)->hist.lookup g=some m->len<=m->rows.length=len->(∀r∈rows,r.length=sz)->Still M n ok (as.take (len*sz)) rows.flatten->Still M n ok cs ds->Still M n ok (.vref f g sz 0 len::cs) (.list sz rows .no::ds)
 |dis {sz:Nat} {rows:List (List AV)} {o:Own} {cs ds:List AV}:ok (.list sz rows .no)->Still M n ok cs ds->Still M n ok (.list sz rows o::cs) (.list sz rows .no::ds)
 |agg {as bs cs ds:List AV}:Still M n ok as bs->Still M n ok cs ds->Still M n ok (.agg as::cs) (.agg bs::ds)
 |tuple {as bs cs ds:List AV}:Still M n ok as bs->Still M n ok cs ds->Still M n ok (.tuple as::cs) (.tuple bs::ds)
def Rep.disown{G}{sz}{rows}{o}{x}(h:Rep G (.list sz rows o) x):Rep G (.list sz rows .no) x:=by simp only[Rep]at h|-;obtain⟨a,b,c,d,e,f,_⟩:=h;exact⟨a,b,c,d,e,f,trivial⟩
def A0s.split{G}:∀(a b:List AV) (ws:List Value),A0s G (a++b) ws->A0s G a (ws.take a.length)/\A0s G b (ws.drop a.length):=by
 intro a;induction a with
 |nil=>intro b ws h;simpa[A0s]using h
 |cons c a ih=>intro b ws h;simp only[Z0O,A0s]at h;obtain⟨y,ys,rfl,k1,k2⟩:=h;obtain⟨q1,q2⟩:=ih b ys k2;exact⟨by simp only[Z0q,Z1j,A0s];exact⟨y,_,rfl,k1,q1⟩,by simpa using q2⟩
def C9j{G}{b}:∀(cs:List AV) (o:Nat) (ws:List Value),A0s G cs ws->(∀v∈ws,v.oneCell'=true)->(∀i v,ws[i]?=some v->G.st b (o+i)=some v)->A0Q G cs b o:=by
 intro cs;induction cs with
 |nil=>intros;simp[A0Q]
 |cons c cs ih=>intro o ws h1 h2 h3;simp only[A0s]at h1;obtain⟨y,ys,rfl,k1,k2⟩:=h1;simp only[A0Q];refine⟨⟨y,by simpa using h3 0 y rfl,h2 y Q1,k1⟩,ih (o+1) ys k2 (λv hv=>h2 v (by simp[hv])) λi v hv=>?_⟩;have:=h3 (i+1) v (by simpa using hv);rw[show o+1+i=o+(i+1)by omega];exact this
def C1g{G}{b sz}:∀(rows:List (List AV)) (o:Nat) (ws:List Value),(∀r∈rows,r.length=sz)->A0s G rows.flatten ws->(∀v∈ws,v.oneCell'=true)->(∀i v,ws[i]?=some v->G.st b (o+i)=some v)->A0C G sz rows b o:=by
 intro rows;induction rows with
 |nil=>intros;simp[A0C]
 |cons r rows ih=>
  intro o ws hl h1 h2 h3;rw[Z1a]at h1;obtain⟨q1,q2⟩:=A0s.split _ _ _ h1;have hr:=hl r Q1;rw[hr]at q1 q2;simp only[A0C];refine⟨⟨hr,C9j _ o _ q1 (λv hv=>h2 v (Z1m hv)) λi v hv=>?_⟩,ih (o+sz) _ (λx hx=>hl x (by simp[hx])) q2 (λv hv=>h2 v (Z1l hv)) λi v hv=>?_⟩
  .refine h3 i v ?_;rw[Z0x]at hv;split at hv
   .exact hv
   .simp at hv
  .rw[Z0C]at hv;rw[show o+sz+i=o+(sz+i)by omega];exact h3 _ v hv
def Frz(G:A0p)(M:Mem)(n b:Nat):Prop:=∃f e sz cs g hist,n<=f/\M[f]?=some (.vec e sz cs g hist)/\A2D G f (.vec e sz cs g hist) b
open Classical in
noncomputable def B5Y(k:Nat)(G:A0p)(M:Mem)(n:Nat)(w:World):A0p:={G.cut k with st:=λb i=>if Frz G M n b then w.cell? ⟨b,i,none⟩else G.st b i}
section
variable {C:Ctx} {G:A0p} {M:Mem} {w:World} {k n:Nat} {ok:AV->Prop}
def Frz.st(hi:Inv C G M w){b}(h:Frz G M n b)(i:Nat):G.st b i=none:=by obtain⟨f,e,sz,cs,g,d,_,hm,h',m,a,c,ha,rfl⟩:=h;obtain⟨_,_,b,o,cap,vs,q1,_,_,_,_,_,_,q8,_⟩:=(hi.obj f _ hm).2.1 h' m c;rw[q1]at ha;simp only[Z0b]at ha;subst ha;exact q8 i
def C1e(hi:Inv C G M w):(G.cut k).le (B5Y k G M n w):=by
 refine⟨Z0j _,λ_ _=>rfl,λb i v hv=>?_,λ_ _ h=>h,λ_ _=>Z0j _,λ_ _ _ _=>rfl⟩;have hv:G.st b i=some v:=hv;have a:¬Frz G M n b:=λe=>by rw[e.st hi i]at hv;simp at hv
 simp only[B5Y,Z0d a];exact hv
def Still.rep(hi:Inv C G M w)(p:∀v x,ok v->Rep G v x->Rep (G.cut k) v x){vs ds:List AV}(h:Still M n ok vs ds):∀xs,A0s G vs xs->A0s (B5Y k G M n w) ds xs:=by
 have q:=C1e (n:=n) (k:=k) hi;induction h with
 |nil=>intro xs h;simpa[A0s]using h
 |same hb _ ih=>intro xs h;simp only[A0s]at h|-;obtain⟨y,ys,rfl,h1,h2⟩:=h;exact⟨y,ys,rfl,Rep.mono q _ _ (p _ _ hb h1),ih ys h2⟩
 |nilS _ ih=>intro xs h;simp only[A0s]at h|-;obtain⟨y,ys,rfl,h1,h2⟩:=h;refine⟨y,ys,rfl,?_,ih ys h2⟩;simp only[Rep]at h1|-;subst h1;exact⟨none,0,rfl,Q1,by simp[maxLen],Q1,trivial⟩
 |@vec f g sz len m e g' as hist rows cs ds hf hm hl hlm hlen hrow h1 h2 ih1 ih2=>
  intro xs h;simp only[A0s]at h|-;obtain⟨x,ys,rfl,h4,h5⟩:=h;refine⟨x,ys,rfl,?_,ih2 ys h5⟩;have c:(g,m)∈hist:=A2o hl;obtain⟨p1,p2,b,o,cap,bs,q1,q2,q3,q4,q5,q6,q7,q8,q9⟩:=(hi.obj f _ hm).2.1 g m c;have j:Frz G M n b:=⟨f,e,sz,as,g',hist,hf,hm,g,m,_,c,congrArg Prod.fst q1,rfl⟩;obtain⟨ws,d⟩:=ex ((bs.toList.drop o).take (len*sz));have r:len*sz<=m*sz:=Z0U _ hlm;have l:((bs.toList.drop o).take (m*sz)).take (len*sz)=ws:=by rw[d,Z1T,Z1C r]
  have t:(as.take (m*sz)).take (len*sz)=as.take (len*sz):=by rw[Z1T,Z1C r]
  have q7:∀v∈ws,v.oneCell'=true:=λv hv=>q7 v (by rw[<-l]at hv;exact Z1m hv);have q6:A0s G (as.take (len*sz)) ws:=by have:=q6.take (len*sz);rwa[l,t]at this
  have s:∀i v,ws[i]?=some v->(B5Y k G M n w).st b (o+i)=some v:=λi v hv=>by
   simp only[B5Y,Z0c j];rw[d,Z0x]at hv;split at hv
   .rw[Z0C]at hv;simp only[World.cell?,q4];simpa using hv
   .simp at hv
  simp only[Rep]at h4;obtain⟨_,_,a,a',u,r1,r2,r3,rfl,r5,r6,r7⟩:=h4;rw[q1]at r1;simp only[Z0g,Z0b]at r1;obtain⟨rfl,rfl⟩:=r1;simp only[Rep,hlen];refine⟨some a',cap,Q1,Z0L hlm q2,q3,⟨λ_=>r3,?_⟩,trivial⟩;by_cases hc:0<cap
  .have:=r7 hc;rw[this];simp only[Z1I,Z0S];exact C1g rows o ws hrow (ih1 ws q6) q7 s
  .have:rows=[]:=Z0v Q0;subst this;simp[A0C]
 |dis hb _ ih=>intro xs h;simp only[A0s]at h|-;obtain⟨y,ys,rfl,h1,h2⟩:=h;exact⟨y,ys,rfl,Rep.mono q _ _ (p _ _ hb h1.disown),ih ys h2⟩
 |agg _ _ ih1 ih2=>intro xs h;simp only[A0s]at h|-;obtain⟨y,ys,rfl,h1,h2⟩:=h;refine⟨y,ys,rfl,?_,ih2 ys h2⟩;simp only[Rep]at h1|-;obtain⟨zs,rfl,k1,k2⟩:=h1;exact⟨zs,rfl,ih1 _ k1,k2⟩
 |tuple _ _ ih1 ih2=>intro xs h;simp only[A0s]at h|-;obtain⟨y,ys,rfl,h1,h2⟩:=h;refine⟨y,ys,rfl,?_,ih2 ys h2⟩;simp only[Rep]at h1|-;obtain⟨zs,rfl,k1⟩:=h1;exact⟨zs,rfl,ih1 _ k1⟩
end
section
variable {C:Ctx} {G:A0p} {w:World} {n:Nat}
def C7y{M M'}{k0}(hi:Inv C G M' w)(k1:Inv C (G.cut k0) M w)(p:∀k y,M[k]?=some y->∀b',A2D (G.cut k0) k y b'->¬Frz G M' n b'):Inv C (B5Y k0 G M' n w) M w:=by
 have e:=C1e (n:=n) (k:=k0) hi;have hs:∀b' i,¬Frz G M' n b'->(B5Y k0 G M' n w).st b' i=(G.cut k0).st b' i:=λb' i h=>by simp only[B5Y,Z0d h];rfl
 have o:(B5Y k0 G M' n w).n=k0:=rfl;generalize d:B5Y k0 G M' n w=G2 at e hs o;have b:G2.blk=(G.cut k0).blk:=by rw[<-d];rfl
 have a:G2.keep=(G.cut k0).keep:=by rw[<-d];rfl
 have c:G2.hdr=(G.cut k0).hdr:=by rw[<-d];rfl
 have f:G2.top=(G.cut k0).top:=by rw[<-d];rfl
 refine⟨by rw[o];exact k1.n,λb' i v hv=>?_,λb' ob hv=>?_,λk ob hk=>?_,λj k x y b' hx hy ox oy=>?_,λgg=>Rep.mono e _ _ (k1.gl gg),λgg cs hc=>?_⟩
 .by_cases hc:Frz G M' n b'
  .rw[<-d]at hv;simpa only[B5Y,Z0c hc]using hv
  .rw[hs b' i hc]at hv;exact k1.st b' i v hv
 .rw[a]at hv;exact k1.keep b' ob hv
 .have h0:=k1.obj k ob hk;have hn:=p k ob hk;cases ob with
  |gone=>trivial
  |cells t cs=>obtain⟨vs',a1,a2,a3,a4,a5⟩:=h0;refine⟨vs',by rw[b];exact a1,A0s.mono e _ _ a2,a3,λi=>?_,by rw[b,a];exact a5⟩;rw[b,hs _ _ (hn _ rfl)];exact a4 i
  |fam m sz'=>obtain⟨a1,a2,a3,a4⟩:=h0;refine⟨by rw[f];exact a1,by rw[c];exact a2,by rw[c];exact a3,λg=>?_⟩;rw[c]at g|-;obtain⟨gb,vs',t,c1,c2,c3,c4,c5⟩:=a4 g;refine⟨gb,vs',t,c1,c2,c3,λi hi=>?_,by rw[a];exact c5⟩;rw[hs _ _ (hn gb ⟨g,_,c1,rfl⟩)];exact c4 i hi
  |vec e' sz' cs g' hist'=>obtain⟨a1,a2,a3⟩:=h0;refine⟨by rw[f];exact a1,λhh n hmm=>?_,by rw[c];exact a3⟩;obtain⟨c1,c2,b',o',l,vs',d1,d2,d3,d4,d5,d6,d7,d8,d9⟩:=a2 hh n hmm;refine⟨by rw[f];exact c1,c2,b',o',l,vs',by rw[c];exact d1,d2,d3,d4,d5,A0s.mono e _ _ d6,d7,λi=>?_,by rw[a];exact d9⟩;rw[hs _ _ (hn b' ⟨hh,n,_,hmm,congrArg Prod.fst d1,rfl⟩)];exact d8 i
  |map es clock=>obtain⟨xs,a1,a2,a3⟩:=h0;exact⟨xs,by rw[b];exact a1,a2.mono e,by rw[b,a];exact a3⟩
  |siter s pos=>obtain⟨a1,a2⟩:=h0;exact⟨by rw[b];exact a1,by rw[b,a];exact a2⟩
  |miter m since A3l stepped=>obtain⟨a1,a2,a3⟩:=h0;exact⟨by rw[b];exact a1,by rw[<-d];exact a2,by rw[b,a];exact a3⟩
 .refine k1.apart j k x y b' hx hy ?_ ?_
  .cases x<;>simp only[A2D]at ox|-<;>first|exact ox|(rw[b]at ox;exact ox)|(rw[c]at ox;exact ox)
  .cases y<;>simp only[A2D]at oy|-<;>first|exact oy|(rw[b]at oy;exact oy)|(rw[c]at oy;exact oy)
 .rw[a];exact k1.tab gg cs hc
end
def Grow.tail{M M'}(h:Grow M M'):∃X,M'=M++X:=by
 refine⟨M'.drop M.length,?_⟩;have ht:M'.take M.length=M:=by
  apply Z1J;intro i;rw[Z0x];split
  .rename_i hi;exact h.2 i hi Q1
  .rename_i hi;exact(Z1w Q0).symm
 have:=Z1b M.length M';rw[ht]at this;exact this.symm
def A0c.data{C}{f}{args}{M}{Q:AV->Prop}(h:A0c C f args M (λv M'=>Grow M M'/\∃d,Still M' M.length (bdd M.length) [v] [d]/\Q d)):A0c C f args M (λd M'=>Q d/\M'=M):=by intro G w vs hi hr;refine Z1B (h G w vs hi hr) ?_;rintro ex w' ⟨r,M',G',x,rfl,⟨hg,d,hs,hq⟩,h2,h3,h4,h5⟩;obtain⟨X,rfl⟩:=hg.tail;obtain⟨k1,k2⟩:=hi.cut h2 h3;have a:=hs.rep (k:=M.length) h3 (λv x hb hx=>Rep.cut v x hx hb) [x] (by simp only[A0s];exact⟨x,[],rfl,h4,rfl⟩);simp only[A0s]at a;obtain⟨y,ys,e,hd,-⟩:=a;simp only[Z2w]at e;obtain⟨rfl,rfl⟩:=e;refine⟨d,M,_,x,rfl,⟨hq,rfl⟩,k2.trans (C1e h3),C7y h3 k1 (λk y hy b' hb' hf=>?_),hd,h5⟩;obtain⟨f,e,sz,cs,g,b,hn,hm,ho⟩:=hf;have:=h3.apart k f y _ b' (by rw[Z0n (A0N hy)];exact hy) hm (by cases y<;>exact hb') ho;have:=A0N hy;omega
def A3i(M:Mem)(n:Nat):Mem:=M.mapIdx λi o=>match o with
 |.vec e sz cs g hist=>if n<=i then .gone else .vec e sz cs g hist
 |o=>o
@[simp] def C6i(M:Mem)(n:Nat):(A3i M n).length=M.length:=by simp[A3i]
def B2X{M}{n i}{o}(h:M[i]?=some o)(ho:∀e sz cs g hist,o=.vec e sz cs g hist->i<n):(A3i M n)[i]?=some o:=by
 simp only[A3i,List.getElem?_mapIdx,h,Z1R,Z0b];cases o<;>try rfl
 rename_i e sz cs g hist;have:=ho e sz cs g hist rfl;simp only;rw[Z0d Q0]
def B0f{M}{n i}{o}(h:(A3i M n)[i]?=some o):o=.gone\/(M[i]?=some o/\∀e sz cs g hist,o=.vec e sz cs g hist->i<n):=by
 simp only[A3i,List.getElem?_mapIdx]at h;cases hm:M[i]? with
 |none=>rw[hm]at h;exact absurd h Q1
 |some o'=>
  rw[hm]at h;simp only[Z1R,Z0b]at h;cases o' with
  |vec e sz cs g hist=>
   simp only at h;by_cases c:n<=i
   .rw[Z0c c]at h;exact .inl h.symm
   .rw[Z0d c]at h;subst h;exact .inr ⟨rfl,λ_ _ _ _ _ _=>by omega⟩
  |_=>simp only at h;subst h;exact .inr ⟨rfl,by rintro _ _ _ _ _ e;exact absurd e Q1⟩
def A4T{M0 M}(h:Grow M0 M):Grow M0 (A3i M M0.length):=by refine⟨by simpa using h.1,λi hi _=>?_⟩;have h2:=h.2 i hi Q1;rw[<-h2];have:i<M.length:=Z0Z hi h.1;rw[Z0i this];exact B2X (Z0i this) λ_ _ _ _ _ _=>hi
def B2O{C}{G1}{M1}{w'}(h4:Inv C G1 M1 w')(n:Nat):∃G2,G1.le G2/\Inv C G2 (A3i M1 n) w'/\∀vs ds xs,Still M1 n (λ_=>True) vs ds->A0s G1 vs xs->A0s G2 ds xs:=by
 have hn:=h4.n
 have a:G1.cut M1.length=G1:=by rw[<-hn];rfl
 have d:=C1e (n:=n) (k:=M1.length) h4
 rw[a]at d
 refine⟨B5Y M1.length G1 M1 n w',d,?_,λvs ds xs h hr=>h.rep (k:=M1.length) h4 (λv x _ hx=>by rw[a];exact hx) xs hr⟩
 refine C7y h4 ?_ ?_
 .rw[a];refine⟨by rw[C6i];exact hn,h4.st,h4.keep,λk o hk=>?_,λj k x y b hx hy ox oy=>?_,h4.gl,h4.tab⟩
  .rcases B0f hk with rfl|⟨hk,-⟩
   .trivial
   .exact h4.obj k o hk
  .rcases B0f hx with rfl|⟨hx,-⟩
   .exact ox.elim
   rcases B0f hy with rfl|⟨hy,-⟩
   .exact oy.elim
   exact h4.apart j k x y b hx hy ox oy
 .rintro k y hy b' c ⟨f,e,sz,cs,g,l,hf,hm,ho⟩;rw[a]at c;rcases B0f hy with rfl|⟨hy,i⟩
  .exact c.elim
  .have:=h4.apart k f y _ b' hy hm c ho;subst this;rw[hm]at hy;simp only[Z0b]at hy;have:=i _ _ _ _ _ hy.symm;omega
def AWp.still{C}{N}{c}{Q:Exit->Env->Mem->Prop}{T}{M}(h:AWp C N c (λe T1 M1=>∃n T2,(∀k,Still M1 n (λ_=>True) [T1 k] [T2 k])/\Q e T2 (A3i M1 n)) T M):AWp C N c Q T M:=by intro G w a hi he;refine Code.wp_mono ?_ (h G w a hi he);rintro e a' w' ⟨T1,M1,G1,⟨n,T2,h1,h2⟩,h3,h4,h5,h6⟩;obtain⟨G2,g1,g2,g3⟩:=B2O h4 n;refine⟨T2,A3i M1 n,G2,h2,h3.trans g1,g2,⟨h5.defers,h5.size,λi hi=>?_⟩,h6⟩;have hr:=g3 _ _ [a'.tmps.getD i undef] (h1 i) (by simp only[A0s];exact⟨_,[],rfl,h5.at_ i hi,rfl⟩);simp only[A0s]at hr;obtain⟨y,ys,e,hd,-⟩:=hr;simp only[Z2w]at e;obtain⟨rfl,rfl⟩:=e;exact hd
def A0c.stillN{C}{f}{args}{M}{Q:AV->Mem->Prop}(h:A0c C f args M (λv M'=>∃n d,Still M' n (λ_=>True) [v] [d]/\Q d (A3i M' n))):A0c C f args M Q:=by intro G w vs hi hr;refine Z1B (h G w vs hi hr) ?_;rintro ex w' ⟨r,M1,G1,x,rfl,⟨n,d,h1,h2⟩,h3,h4,h5,h6⟩;obtain⟨G2,g1,g2,g3⟩:=B2O h4 n;have hr:=g3 _ _ [x] h1 (by simp only[A0s];exact⟨_,[],rfl,h5,rfl⟩);simp only[A0s]at hr;obtain⟨y,ys,e,hd,-⟩:=hr;simp only[Z2w]at e;obtain⟨rfl,rfl⟩:=e;exact⟨d,A3i M1 n,G2,x,rfl,h2,h3.trans g1,g2,hd,h6⟩
def B2C{C}{N}{c}{Q}{T}{M}{tg}(x:Exit)(I:Env->Mem->Prop)(h1:wWp C N c (λe T' M'=>D0J x I e T' M' ⟨⟩) T M ⟨⟩)
 (h2:∀T M,I T M->∃n T2,(∀k,Still M n (λ_=>True) [T k] [T2 k])/\Q x T2 (A3i M n)):wWp C N c Q T M tg:=
 AWp.still (AWp.mono h1 λe T M h=>by obtain⟨rfl,h⟩:=h;exact h2 T M h)
section
variable {M:Mem} {n:Nat} {ok:AV->Prop}
def Still.refl:∀{cs:List AV},(∀c∈cs,ok c)->Still M n ok cs cs
 |[],_=>.nil
 |c::cs,h=>.same (h c Q1) (Still.refl λx hx=>h x (by simp[hx]))
def Still.append{a b c d:List AV}(h1:Still M n ok a b)(h2:Still M n ok c d):Still M n ok (a++c) (b++d):=by
 induction h1 with
 |nil=>exact h2
 |same hb _ ih=>exact .same hb ih
 |nilS _ ih=>exact .nilS ih
 |vec a b c l d e f _ _ ih=>exact .vec a b c l d e f ih
 |dis h _ ih=>exact .dis h ih
 |agg h _ _ ih=>exact .agg h ih
 |tuple h _ _ ih=>exact .tuple h ih
def Still.flat{α:Type}{enc a:α->List AV}:∀{l:List α},(∀x∈l,Still M n ok (enc x) (a x))->Still M n ok (l.flatMap enc) (l.map a).flatten
 |[],_=>.nil
 |x::l,h=>by rw[Z0z,Z0w,Z1a];exact(h x Q1).append (Still.flat λy hy=>h y (by simp[hy]))
def Still.own{α:Type}{e sz:Nat}{enc a:α->List AV}{v:AV}{l:List α}{cs ds:List AV}(he:∀x,(enc x).length=sz)(hd:∀x,(a x).length=sz)(h:A1p e sz enc M v l)(hn:A1K n v) (hx:∀x∈l,Still M n ok (enc x) (a x))(hr:Still M n ok cs ds):Still M n ok (v::cs) (.list sz (l.map a) .no::ds):=by
 rcases h with⟨rfl,rfl⟩|⟨f,g,b,rfl,hm,hl⟩
 .exact .nilS hr
 .refine .vec (hn f rfl) hm hl (Z0j _) Q1 (λr hr=>?_) ?_ hr
  .obtain⟨x,_,rfl⟩:=Z0H.1 hr;exact hd x
  .rw[Z0e (by rw[A1Z he];exact Z0j _)];exact Still.flat hx
def Still.rows{α:Type}{e sz}{enc:α->List AV}{v}{l}{cs ds}(he:∀x,(enc x).length=sz)(hb:∀x,∀c∈enc x,ok c)(h:A1p e sz enc M v l)(hn:A1K n v)(hr:Still M n ok cs ds):Still M n ok (v::cs) (.list sz (l.map enc) .no::ds):=Still.own he he h hn (λx _=>Still.refl (hb x)) hr
def A6J(T:Env):∀k,Still M n (λ_=>True) [T k] [T k]:=λk=>.same trivial .nil
def A6v{T1 T2:Env}(h:∀k,Still M n ok [T1 k] [T2 k]){d:Nat}{v:AV}(hv:Still M n ok [T1 d] [v]):∀k,Still M n ok [T1 k] [(T2.put (some d) v) k]:=by
 intro k;unfold Env.put;by_cases c:k=d
 .subst c;simpa using hv
 .simpa[c]using h k
end
def A0c.repack{C}{f}{args}{M}{α:Type}{e sz}{enc:α->List AV}{l}(he:∀x,(enc x).length=sz)(hb:∀n x,A1l n (enc x))(ao:l≠[]) (h:A0c C f args M (λv M'=>A1p e sz enc M' v l/\Grow M M'/\A1K M.length v)):A0c C f args M (λv M'=>v=.vref M.length 0 sz 0 l.length/\M'=M++[.vec e sz (l.flatMap enc) 0 [(0,l.length)]]):=by
 intro G w vs hi hr
 refine Z1B (h G w vs hi hr) ?_
 rintro ex w' ⟨r,M',G',x,rfl,⟨ho,hg,al⟩,h2,h3,h4,h5⟩
 obtain⟨X,rfl⟩:=hg.tail
 obtain⟨k1,k2⟩:=hi.cut h2 h3
 rcases ho with⟨rfl,rfl⟩|⟨fo,g,ac,rfl,hm,hl⟩
 .exact absurd rfl ao
 have aq:M.length<=fo:=al fo rfl
 have af:(g,l.length)∈ac:=A2o hl
 obtain⟨p1,p2,b,o,cap,bs,q1,q2,q3,q4,q5,q6,q7,q8,q9⟩:=(h3.obj fo _ hm).2.1 g l.length af
 have ad:A2D G' fo (.vec e sz (l.flatMap enc) g ac) b:=⟨g,l.length,_,af,congrArg Prod.fst q1,rfl⟩
 obtain⟨n,hn⟩:=ex (M.length)
 obtain⟨G2,a0⟩:=ex ({G'.cut (n+1)with hdr:=λa k=>if a=n then(some ⟨b,o,none⟩,cap)else G'.hdr a k,top:=λa=>if a=n then 0 else G'.top a}:A0p)
 have ak:G2.n=n+1:=by rw[a0];rfl
 have p:G2.blk=G'.blk:=by rw[a0];rfl
 have a8:G2.st=G'.st:=by rw[a0];rfl
 have d:G2.keep=G'.keep:=by rw[a0];rfl
 have q:∀a k,a≠n->G2.hdr a k=G'.hdr a k:=λa k h=>by rw[a0];simp[h]
 have z:∀k,G2.hdr n k=(some ⟨b,o,none⟩,cap):=λk=>by rw[a0];simp
 have a7:∀a,a≠n->G2.top a=G'.top a:=λa h=>by rw[a0];simp[h]
 have aa:G2.top n=0:=by rw[a0];simp
 have a6:(G'.cut M.length).le G2:=by
  rw[<-hn];refine⟨by rw[ak];show n<=n+1;omega,λc _=>by rw[p];rfl,λc i v hv=>by rw[a8];exact hv,λc ob hv=>by rw[d];exact hv,λa ha=>?_,λa ha k hk=>?_⟩
  .have:a<n:=ha;rw[a7 a Q0];exact Z0j _
  .have:a<n:=ha;exact q a k Q0
 have ap:A0s G2 (l.flatMap enc) ((bs.toList.drop o).take (l.length*sz)):=by rw[Z0e (by rw[A1Z he];exact Z0j _)]at q6;exact A0s.mono a6 _ _ (A0s.cut _ _ q6 (B1G hb l))
 have ai:∀b',A2D G2 n (.vec e sz (l.flatMap enc) 0 [(0,l.length)]) b'->b'=b:=by rintro b' ⟨hh,m,a,ab,ha,rfl⟩;rw[z]at ha;simp only[Z0b]at ha;rw[<-ha]
 have ah:∀k y b',k≠n->A2D G2 k y b'->A2D G' k y b':=λk y b' hk hy=>by cases y<;>simp only[A2D]at hy|-<;>first|exact hy|(rw[p]at hy;exact hy)|(rw[q k _ hk]at hy;exact hy)|(obtain⟨hh,m,a,h1,h2,h3⟩:=hy;rw[q k _ hk]at h2;exact⟨hh,m,a,h1,h2,h3⟩)
 have an:Inv C G2 (M++[.vec e sz (l.flatMap enc) 0 [(0,l.length)]]) w':=by
  refine⟨by rw[ak];simp[hn],λb' i v hv=>h3.st b' i v (by rw[a8]at hv;exact hv),λb' ob hv=>h3.keep b' ob (by rw[d]at hv;exact hv),λk ob hk=>?_,λj k x y b' hx hy ox oy=>?_,λgg=>Rep.mono a6 _ _ (k1.gl gg),λgg cs hc=>by rw[d];exact k1.tab gg cs hc⟩
  .rcases Z4d k M.length with a9|a9
   .rw[Z0n a9]at hk;have h0:=k1.obj k ob hk;have u:k≠n:=Q0;cases ob with
    |gone=>trivial
    |cells t cs=>obtain⟨vs',a1,a2,a3,a4,a5⟩:=h0;exact⟨vs',by rw[p];exact a1,A0s.mono a6 _ _ a2,a3,λi=>by rw[p,a8];exact a4 i,by rw[p,d];exact a5⟩
    |fam m sz'=>obtain⟨a1,a2,a3,a4⟩:=h0;refine⟨by rw[a7 k u];exact a1,by rw[q k _ u];exact a2,by rw[q k _ u];exact a3,λam=>?_⟩;rw[q k _ u]at am|-;obtain⟨gb,vs',t,c1,c2,c3,c4,c5⟩:=a4 am;exact⟨gb,vs',t,c1,c2,c3,λi hi=>by rw[a8];exact c4 i hi,by rw[d];exact c5⟩
    |vec e' sz' cs g' hist'=>obtain⟨a1,a2,a3⟩:=h0;refine⟨by rw[a7 k u];exact a1,λhh m ab=>?_,λh1 n1 h2 n2 x1 x2 y1 y2 m1 m2=>by rw[q k _ u,q k _ u];exact a3 h1 n1 h2 n2 x1 x2 y1 y2 m1 m2⟩;obtain⟨c1,c2,b',o',ae,vs',d1,d2,d3,d4,d5,d6,d7,d8,d9⟩:=a2 hh m ab;exact⟨by rw[a7 k u];exact c1,c2,b',o',ae,vs',by rw[q k _ u];exact d1,d2,d3,d4,d5,A0s.mono a6 _ _ d6,d7,λi=>by rw[a8];exact d8 i,by rw[d];exact d9⟩
    |map es clock=>obtain⟨xs,a1,a2,a3⟩:=h0;exact⟨xs,by rw[p];exact a1,a2.mono a6,by rw[p,d];exact a3⟩
    |siter s pos=>obtain⟨a1,a2⟩:=h0;exact⟨by rw[p];exact a1,by rw[p,d];exact a2⟩
    |miter m since A3l stepped=>obtain⟨a1,a2,a3⟩:=h0;exact⟨by rw[p];exact a1,λb hb=>Z0Z (a2 b hb) a6.n,by rw[p,d];exact a3⟩
   ·(have u:k=n:=by have:=A0N hk;simp at this;omega);subst u
    (have aj:ob=.vec e sz (l.flatMap enc) 0 [(0,l.length)]:=by rw[hn]at hk;simpa using hk.symm);subst aj
    refine⟨aa,λhh m ab=>?_,λh1 n1 h2 n2 x1 x2 y1 y2 m1 m2 e1 e2 e3=>?_⟩
    .simp only[Z0R,Z0g]at ab;obtain⟨rfl,rfl⟩:=ab;exact⟨by rw[aa];exact Z0j _,p2,b,o,cap,bs,z _,q2,q3,q4,q5,by rw[Z0e (by rw[A1Z he];exact Z0j _)];exact ap,q7,λi=>by rw[a8];exact q8 i,by rw[d];exact q9⟩
    .rw[z]at e1 e2;simp only[Z0g,Z0b]at e1 e2;rw[<-e1.1,<-e2.1]
  .have ag:∀k y,(M++[A0l.vec e sz (l.flatMap enc) 0 [(0,l.length)]])[k]?=some y->A2D G2 k y b'->(k=n/\b'=b)\/(k<n/\M[k]?=some y/\A2D G' k y b'):=λk y hy ho=>by
    rcases Z4d k M.length with a9|a9
    .rw[Z0n a9]at hy;exact .inr ⟨Q0,hy,ah k y b' Q0 ho⟩
    ·(have u:k=n:=by have:=A0N hy;simp at this;omega);subst u
     (have aj:y=.vec e sz (l.flatMap enc) 0 [(0,l.length)]:=by rw[hn]at hy;simpa using hy.symm);subst aj
     exact .inl ⟨rfl,ai b' ho⟩
   rcases ag j x hx ox with⟨a1,a2⟩|⟨a1,a2,a3⟩<;>rcases ag k y hy oy with⟨c1,c2⟩|⟨c1,c2,c3⟩
   .omega
   .have:=h3.apart k fo y _ b' (by rw[Z0n (A0N c2)];exact c2) hm c3 (by rw[a2];exact ad);omega
   .have:=h3.apart j fo x _ b' (by rw[Z0n (A0N a2)];exact a2) hm a3 (by rw[c2];exact ad);omega
   .exact h3.apart j k x y b' (by rw[Z0n (A0N a2)];exact a2) (by rw[Z0n (A0N c2)];exact c2) a3 c3
 refine⟨_,_,G2,x,rfl,⟨rfl,rfl⟩,k2.trans a6,an,?_,h5⟩
 simp only[Rep]at h4|-
 obtain⟨_,_,a,a',ae,r1,r2,r3,rfl,r5,r6,r7⟩:=h4
 rw[q1]at r1
 simp only[Z0g,Z0b]at r1
 obtain⟨rfl,rfl⟩:=r1
 rw[<-hn]
 exact⟨by rw[ak];omega,Q0,_,a',cap,z 0,r2,r3,rfl,r5,r6,r7⟩
section
variable {C:Ctx} {M:Mem}
def A9P(C:Ctx)(h:A2j)(ops:Array Oper)(cls rob:Nat->Nat)(qs:Nat->List Nat):Nat->List Oper->Env->Mem->(Env->Mem->Prop)->Prop
 |_,[],T,M,K=>K T M
 |k,o::rest,T,M,K=>A2q ops o T (wsD C h (cls k) (rob k) o (T.ev C) M (λv M'=>(∀r∈qs k,M'[r]?=M[r]?)/\A9P C h ops cls rob qs (k+1) rest (T.put o.dst v) M' K)) (A9P C h ops cls rob qs (k+1) rest (T.put o.dst (.val undef)) M K)
def A6o(cls rob:Nat->Nat)(hot:Nat->Nat->Bool):B1N:={cls:=λk=>if cls k=5 then 3 else cls k,rob:=rob,aff:=hot}
def A8H{h}{ops}{cls rob:Nat->Nat}{a:Nat->Nat->Bool}{qs:Nat->List Nat}{K:Env->Mem->Prop}(hq:∀i k,cls i=1->a i k=false->rob i∈qs k):∀(l:List Oper) (k:Nat) (T:Env) (M:Mem),A9P C h ops cls rob qs k l T M K->A1t C h ops (A6o cls rob a) k l T M K
 |[],k,T,M,hw=>hw
 |o::rest,k,T,M,hw=>by
  simp only[A9P]at hw;simp only[A1t];refine A6c (λh1=>B4t (λv m (h2:(∀r∈qs k,m[r]?=M[r]?)/\A9P C h ops cls rob qs (k+1) rest (T.put o.dst v) m K)=>⟨λi hi ha=>?_,A8H hq rest _ _ _ h2.2⟩) (by
   have hd:=B4e h1;by_cases e:cls k=5
   .rw[e]at h1;exact h1.elim
   .simpa only[A6o,Z0d e]using hd)) (λh1=>A8H hq rest _ _ _ h1) hw
  refine h2.1 _ (hq i k ?_ ha);simp only[A6o]at hi;split at hi
  .omega
  .exact hi
def C2p{N}{h}{id}{ops}{Q:Exit->Env->Mem->Prop}{T}(b:C.P.follows .mixedOrders=true)(cls rob:Nat->Nat)(a:Nat->Nat->Bool)(qs:Nat->List Nat)(hq:∀i k,cls i=1->a i k=false->rob i∈qs k)(f:A2u N ops ops.toList=true)(c:A4D ops (A6o cls (λ_=>0) a)=true)
 (hr:A9P C h ops cls rob qs 0 ops.toList T M (λT M=>Q .normal T M)):AWp C N (.region id ops true) Q T M:=by
 have h4:∀i o,ops[i]?=some o->(A6o cls rob a).cls i≠4:=by intro i o ho e;have:=(A4Z c ho).2.1 e;simp[A6o]at this
 have h5:∀k,(A6o cls rob a).cls k≠5:=by intro k;simp only[A6o];split<;>omega
 have d:A4D ops (A6o cls rob a)=true:=by
  have hp:∀i,i<ops.size->A6q ((A6o cls rob a).cls i)=false:=λi hi=>by
   cases e:A6q ((A6o cls rob a).cls i)with
   |false=>rfl
   |true=>
    rcases A9k.1 e with h|h
    .exact absurd h (h4 i _ (Z1e hi))
    .exact absurd h (h5 i)
  have:∀i j,i<ops.size->j<ops.size->A2b (A6o cls rob a) j i=A2b (A6o cls (λ_=>0) a) j i:=by intro i j hi hj;have b1:=hp i hi;have b2:=hp j hj;have c1:(A6o cls (λ_=>0) a).cls=(A6o cls rob a).cls:=rfl;have c2:(A6o cls (λ_=>0) a).aff=(A6o cls rob a).aff:=rfl;simp only[A2b,c1,c2,b1,b2,Z2V,Z0J,Z3V]
  refine Z0D.2 λi hi=>?_;have h0:=Z0D.1 c i hi;have g:=Z1W.1 hi;cases ho:ops[i]? with
  |none=>rfl
  |some o=>
   rw[ho]at h0;simp only[Z0h]at h0|-;refine⟨h0.1,Z0D.2 λj hj=>?_⟩;have h1:=Z0D.1 h0.2 j hj;have l:=Z1W.1 hj;cases hx:ops[j]? with
   |none=>rfl
   |some x=>rw[hx]at h1;simp only at h1|-;rw[this i j g Q0];exact h1
 refine B0u (h:=h) b (A6o cls rob a) f d (λk hk hc=>?_) (A8H hq _ _ _ _ hr)
 exact absurd hc (h4 k _ (Z1e hk))
def B7F(C:Ctx)(h:A2j)(ops:Array Oper)(cls rob:Nat->Nat)(qs:Nat->List Nat)(k:Nat)(l:List Oper)(T:Env)(M:Mem)(K:Env->Mem->Prop)(_:Tag (ops,l,K)):Prop:=A9P C h ops cls rob qs k l T M K
variable {cls rob:Nat->Nat} {qs:Nat->List Nat} {N:Nat} {Q:Post} {T:Env} {h:A2j}
@[simp] def D8c{ops}{k}{K:Env->Mem->Prop}{tg}:B7F C h ops cls rob qs k [] T M K tg=K T M:=(rfl)
@[simp] def D6e{ops}{k}{o}{rest}{K:Env->Mem->Prop}{tg}:B7F C h ops cls rob qs k (o::rest) T M K tg=B2Q ops o T (wD C h (cls k) (rob k) o (T.ev C) M (λv M'=>(∀r∈qs k,M'[r]?=M[r]?)/\B7F C h ops cls rob qs (k+1) rest (T.put o.dst v) M' K ⟨⟩) ⟨⟩) (B7F C h ops cls rob qs (k+1) rest (T.put o.dst (.val undef)) M K ⟨⟩) ⟨⟩:=rfl
def A6S{id}{l}{tg}(h:A2j)(b:C.P.follows .mixedOrders=true)(cls rob:Nat->Nat)(a:Nat->Nat->Bool)(qs:Nat->List Nat)(hq:∀i k,cls i=1->a i k=false->rob i∈qs k)(d:A2u N l.toArray l=true)(c:A4D l.toArray (A6o cls (λ_=>0) a)=true) (hr:B7F C h l.toArray cls rob qs 0 l T M (λT M=>Q .normal T M) ⟨⟩):wWp C N (.region id l.toArray true) Q T M tg:=C2p b cls rob a qs hq d c hr
end
section
variable {C:Ctx} {N:Nat} {Q:Post} {T:Env} {M:Mem}
end
def A0c.stillE{C:Ctx}{f:FuncId}{args:List AV}{M:Mem}{α:Type}{e sz:Nat}{enc:α->List AV}{P:List α->Prop}(he:∀x,(enc x).length=sz)(hb:∀n x,A1l n (enc x)) (h:A0c C f args M (λv M'=>∃l,A1p e sz enc M' v l/\Grow M M'/\A1K M.length v/\P l)):A0c C f args M (λv M'=>∃l,v=.list sz (l.map enc) .no/\M'=M/\P l):=by
 intro G w vs hi hr
 refine Z1B (h G w vs hi hr) ?_
 rintro ex w' ⟨r,M',G',x,rfl,⟨l,ho,hg,ad,hp⟩,h2,h3,h4,h5⟩
 obtain⟨X,rfl⟩:∃X,M'=M++X:=by
  refine⟨M'.drop M.length,?_⟩;have ht:M'.take M.length=M:=by
   apply Z1J;intro i;rw[Z0x];split
   .rename_i hi;exact hg.2 i hi Q1
   .rename_i hi;exact(Z1w Q0).symm
  have:=Z1b M.length M';rw[ht]at this;exact this.symm
 obtain⟨k1,k2⟩:=hi.cut h2 h3
 rcases ho with⟨rfl,rfl⟩|⟨fo,g,a0,rfl,hm,hl⟩
 .refine⟨_,M,_,x,rfl,⟨[],rfl,rfl,hp⟩,k2,k1,?_,h5⟩;simp only[Rep]at h4|-;subst h4;exact⟨none,0,rfl,Q1,by simp[maxLen],⟨rfl,rfl⟩,trivial⟩
 have aj:M.length<=fo:=ad fo rfl
 have a7:(g,l.length)∈a0:=A2o hl
 obtain⟨p1,p2,b,o,cap,bs,q1,q2,q3,q4,q5,q6,q7,q8,q9⟩:=(h3.obj fo _ hm).2.1 g l.length a7
 have ae:A2D G' fo (.vec e sz (l.flatMap enc) g a0) b:=⟨g,l.length,_,a7,congrArg Prod.fst q1,rfl⟩
 rw[Z0e (by rw[A1Z he];exact Z0j _)]at q6
 obtain⟨ws,ab⟩:=ex ((bs.toList.drop o).take (l.length*sz))
 rw[<-ab]at q6 q7
 have aa:∀i v,ws[i]?=some v->w'.cell? ⟨b,o+i,none⟩=some v:=λi v hv=>by
  rw[ab,Z0x]at hv;split at hv
  .rw[Z0C]at hv;simp only[World.cell?,q4];simpa using hv
  .simp at hv
 have ah:∀k y,M[k]?=some y->∀b',A2D (G'.cut M.length) k y b'->b'≠b:=λk y hy b' hb' e=>by subst e;have:=h3.apart k fo y _ b' (by rw[Z0n (A0N hy)];exact hy) hm (by cases y<;>exact hb') ae;have:=A0N hy;omega
 obtain⟨G2,q⟩:=ex ({G'.cut M.length with st:=λb' i=>if b'=b/\o<=i then ws[i-o]? else G'.st b' i}:A0p)
 have ag:∀b' i,b'≠b->G2.st b' i=G'.st b' i:=λb' i a8=>by rw[q];simp[a8]
 have ac:∀i v,ws[i]?=some v->G2.st b (o+i)=some v:=λi v hv=>by rw[q];simpa using hv
 have u:(G'.cut M.length).le G2:=by
  rw[q];refine⟨Z0j _,λ_ _=>rfl,λb' i v hv=>?_,λ_ _ h=>h,λ_ _=>Z0j _,λ_ _ _ _=>rfl⟩;have hv:G'.st b' i=some v:=hv;have a8:b'≠b:=λe=>by rw[e,q8]at hv;simp at hv
  simp only[a8,false_and,Z2b];exact hv
 have d:G2.blk=(G'.cut M.length).blk:=by rw[q]
 have c:G2.keep=(G'.cut M.length).keep:=by rw[q]
 have p:G2.hdr=(G'.cut M.length).hdr:=by rw[q]
 have z:G2.top=(G'.cut M.length).top:=by rw[q]
 have af:Inv C G2 M w':=by
  refine⟨by rw[q];rfl,λb' i v hv=>?_,λb' ob hv=>?_,λk ob hk=>?_,λj k x y b' hx hy ox oy=>?_,λgg=>Rep.mono u _ _ (k1.gl gg),λgg cs hc=>?_⟩
  .rw[q]at hv;simp only at hv;split at hv
   .rename_i hc;obtain⟨rfl,ak⟩:=hc;have:=aa _ v hv;rwa[show o+(i-o)=i by omega]at this
   .exact h3.st b' i v hv
  .rw[c]at hv;exact h3.keep b' ob hv
  .have h0:=k1.obj k ob hk;have hn:=ah k ob hk;have hs:∀b' i,b'≠b->G2.st b' i=(G'.cut M.length).st b' i:=λb' i h=>ag b' i h;cases ob with
   |gone=>trivial
   |cells t cs=>obtain⟨vs',a1,a2,a3,a4,a5⟩:=h0;refine⟨vs',by rw[d];exact a1,A0s.mono u _ _ a2,a3,λi=>?_,by rw[d,c];exact a5⟩;rw[d,hs _ _ (hn _ rfl)];exact a4 i
   |fam m sz'=>obtain⟨a1,a2,a3,a4⟩:=h0;refine⟨by rw[z];exact a1,by rw[p];exact a2,by rw[p];exact a3,λa9=>?_⟩;rw[p]at a9|-;obtain⟨gb,vs',t,c1,c2,c3,c4,c5⟩:=a4 a9;refine⟨gb,vs',t,c1,c2,c3,λi hi=>?_,by rw[c];exact c5⟩;rw[hs _ _ (hn gb ⟨a9,_,c1,rfl⟩)];exact c4 i hi
   |vec e' sz' cs g' hist'=>obtain⟨a1,a2,a3⟩:=h0;refine⟨by rw[z];exact a1,λhh n hmm=>?_,by rw[p];exact a3⟩;obtain⟨c1,c2,b',o',a6,vs',d1,d2,d3,d4,d5,d6,d7,d8,d9⟩:=a2 hh n hmm;refine⟨by rw[z];exact c1,c2,b',o',a6,vs',by rw[p];exact d1,d2,d3,d4,d5,A0s.mono u _ _ d6,d7,λi=>?_,by rw[c];exact d9⟩;rw[hs _ _ (hn b' ⟨hh,n,_,hmm,congrArg Prod.fst d1,rfl⟩)];exact d8 i
   |map es clock=>obtain⟨xs,a1,a2,a3⟩:=h0;exact⟨xs,by rw[d];exact a1,a2.mono u,by rw[d,c];exact a3⟩
   |siter s pos=>obtain⟨a1,a2⟩:=h0;exact⟨by rw[d];exact a1,by rw[d,c];exact a2⟩
   |miter m since A3l stepped=>obtain⟨a1,a2,a3⟩:=h0;exact⟨by rw[d];exact a1,by rw[q];exact a2,by rw[d,c];exact a3⟩
  .refine k1.apart j k x y b' hx hy ?_ ?_
   .cases x<;>simp only[A2D]at ox|-<;>first|exact ox|(rw[d]at ox;exact ox)|(rw[p]at ox;exact ox)
   .cases y<;>simp only[A2D]at oy|-<;>first|exact oy|(rw[d]at oy;exact oy)|(rw[p]at oy;exact oy)
  .rw[c];exact k1.tab gg cs hc
 refine⟨_,M,G2,x,rfl,⟨l,rfl,rfl,hp⟩,k2.trans u,af,?_,h5⟩
 simp only[Rep]at h4
 obtain⟨_,_,a,a',a6,r1,r2,r3,rfl,r5,r6,r7⟩:=h4
 rw[q1]at r1
 simp only[Z0g,Z0b]at r1
 obtain⟨rfl,rfl⟩:=r1
 simp only[Rep,Z0N]
 refine⟨some a',cap,Q1,q2,q3,⟨λ_=>r3,?_⟩,trivial⟩
 by_cases hc:0<cap
 .have:=r7 hc;rw[this];simp only[Z1I,Z0S];have ai:A0s (G'.cut M.length) (l.flatMap enc) ws:=A0s.cut _ _ q6 (B1G hb l);exact B8i he [] (λ_ _ _ _ _=>trivial) l o ws (A0s.mono u _ _ ai) q7 ac
 .have:l=[]:=Z0v Q0;subst this;simp[A0C]
mutual
inductive B3E:AV->AV->Prop
 |same {v:AV}:B3E v v
 |nil {sz:Nat}:B3E (.val (.slice none 0 0)) (.list sz [] .no)
 |list {sz:Nat} {rows rows':List (List AV)} {o:Own}:A9j rows rows'->B3E (.list sz rows o) (.list sz rows' .no)
 |agg {cs ds:List AV}:A4G cs ds->B3E (.agg cs) (.agg ds)
inductive A4G:List AV->List AV->Prop
 |nil:A4G [] []
 |cons {c d:AV} {cs ds:List AV}:B3E c d->A4G cs ds->A4G (c::cs) (d::ds)
inductive A9j:List (List AV)->List (List AV)->Prop
 |nil:A9j [] []
 |cons {r s:List AV} {rs ss:List (List AV)}:A4G r s->A9j rs ss->A9j (r::rs) (s::ss)
end
def A4G.refl:∀l:List AV,A4G l l
 |[]=>.nil
 |_::l=>.cons .same (A4G.refl l)
def A4G.len:∀{cs ds:List AV},A4G cs ds->cs.length=ds.length
 |[],ds,h=>by cases h;rfl
 |c::cs,ds,h=>by cases h with|cons _ h=>simp[A4G.len h]
def A9j.len:∀{cs ds:List (List AV)},A9j cs ds->cs.length=ds.length
 |[],ds,h=>by cases h;rfl
 |c::cs,ds,h=>by cases h with|cons _ h=>simp[A9j.len h]
mutual
def B3E.rep{G:A0p}:∀{v d:AV},B3E v d->∀x,Rep G v x->Rep G d x
 |_,_,.same,x,h=>h
 |_,_,.nil,x,h=>by simp only[Rep]at h|-;subst h;exact⟨none,0,rfl,Z0j _,Z3u _,Q1,trivial⟩
 |_,_,.list hr,x,h=>by
  simp only[Rep]at h|-;obtain⟨base,cap,hx,hl,hm,hb,ho⟩:=h;have e:=hr.len;refine⟨base,cap,by rw[<-e];exact hx,by rw[<-e];exact hl,hm,?_,trivial⟩;cases base with
  |none=>refine⟨?_,hb.2⟩;have:=hb.1;exact Z0v (by rw[<-e,this];rfl)
  |some a=>exact⟨λhn=>hb.1 (λh0=>hn (Z0v (by rw[<-e,h0];rfl))),A9j.rep hr _ _ hb.2⟩
 |_,_,.agg hl,x,h=>by simp only[Rep]at h|-;obtain⟨ys,hx,hr,ho⟩:=h;exact⟨ys,hx,A4G.rep hl _ hr,ho⟩
def A4G.rep{G:A0p}:∀{cs ds:List AV},A4G cs ds->∀ys,A0s G cs ys->A0s G ds ys
 |_,_,.nil,ys,h=>h
 |_,_,.cons h1 h2,ys,h=>by simp only[A0s]at h|-;obtain⟨y,a,he,hy,hr⟩:=h;exact⟨y,a,he,B3E.rep h1 _ hy,A4G.rep h2 _ hr⟩
def A4G.mem{G:A0p}:∀{cs ds:List AV},A4G cs ds->∀b i,A0Q G cs b i->A0Q G ds b i
 |_,_,.nil,b,i,h=>by simp[A0Q]
 |_,_,.cons h1 h2,b,i,h=>by simp only[A0Q]at h|-;obtain⟨⟨v,hv,ho,hr⟩,h3⟩:=h;exact⟨⟨v,hv,ho,B3E.rep h1 _ hr⟩,A4G.mem h2 _ _ h3⟩
def A9j.rep{G:A0p}{sz:Nat}:∀{cs ds:List (List AV)},A9j cs ds->∀b i,A0C G sz cs b i->A0C G sz ds b i
 |_,_,.nil,b,i,h=>by simp[A0C]
 |_,_,.cons h1 h2,b,i,h=>by simp only[A0C]at h|-;exact⟨⟨by rw[<-h1.len];exact h.1.1,A4G.mem h1 _ _ h.1.2⟩,A9j.rep h2 _ _ h.2⟩
end
def A0c.softR{C:Ctx}{f:FuncId}{args:List AV}{M:Mem}{X:AV}{Q:Mem->Prop}(h:A0c C f args M (λv M'=>B3E v X/\Q M')):A0c C f args M (λv M'=>v=X/\Q M'):=by intro G w vs hi hr;refine Z1B (h G w vs hi hr) ?_;rintro ex w' ⟨r,M',G',x,rfl,⟨hs,hq⟩,h2,h3,h4,h5⟩;exact⟨X,M',G',x,rfl,⟨rfl,hq⟩,h2,h3,hs.rep _ h4,h5⟩
def A0c.softA{C:Ctx}{f:FuncId}{args a:List AV}{M:Mem}{Q:AV->Mem->Prop}(h:A0c C f a M Q)(hs:A4G args a):A0c C f args M Q:=λG w vs hi hr=>h G w vs hi (hs.rep _ hr)
end Go.Abs
