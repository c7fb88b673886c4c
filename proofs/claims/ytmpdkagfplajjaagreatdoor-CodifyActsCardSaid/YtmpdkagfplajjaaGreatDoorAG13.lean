/- The texts AbsU3, AbsU, AbsV, AbsV2, AbsVo, AbsV3, AbsV4. -/
import Derived.Test.YtmpdkagfplajjaaGreatDoorAG12
set_option linter.all false
namespace Go.Abs
def A5C(s:AV):List Nat:=match s with
 |.vref f _ _ _ _=>[f]
 |_=>[]
def C3l{e:TypeId}{sz}{s0 x v}{M M'}(h:A4I e sz s0 x M=some (v,M')):A8C (A4I e sz s0 x) M v M' (A5C s0):=by
 unfold A4I at h;split at h;case h_2=>simp at h
 rename_i news m f h' s' lo len hsrc;split at h;case h_2=>simp at h
 rename_i e2 s2 cs g hist hM;split at h;case h_2=>simp at h
 rename_i n hn;split at h;case isFalse=>simp at h
 rename_i hc;simp only[Z0a,Z0b]at h;obtain⟨rfl,rfl⟩:=h;refine .put hM (A1s hn) (by simp[A5C]) λs X hs=>?_;simp only[A4I,A1M hs hsrc,A1L hs hM (A1s hn),hn,Z0d hc]
def C5l{e:TypeId}{sz}{s0 x v}{M M'}(h:A3e e sz s0 x M=some (v,M')):A8C (A3e e sz s0 x) M v M' (A5C s0):=by
 unfold A3e at h;split at h
 .simp at h
 rename_i news m hsrc;split at h
 .split at h
  .rename_i h0;simp only[Z0a,Z0b]at h;obtain⟨rfl,rfl⟩:=h;exact .same λs X hs=>by simp only[A3e,A1M hs hsrc,Z0d h0]
  .rename_i h0;simp only[Z0a,Z0b]at h;obtain⟨rfl,rfl⟩:=h;exact .app λs X hs=>by simp only[A3e,A1M hs hsrc,Z0e h0,Z1C]
 .split at h;case isFalse=>simp at h
  rename_i hss;split at h
  .rename_i h0;simp only[Z0a,Z0b]at h;obtain⟨rfl,rfl⟩:=h;exact .same λs X hs=>by simp only[A3e,A1M hs hsrc,Z0d hss,Z0d h0]
  .rename_i h0;simp only[Z0a,Z0b]at h;obtain⟨rfl,rfl⟩:=h;exact .app λs X hs=>by simp only[A3e,A1M hs hsrc,Z0d hss,Z0e h0,Z1C]
 .rename_i f h' s' lo len;split at h;case h_2=>simp at h
  rename_i e2 s2 cs g hist hM;split at h;case h_2=>simp at h
  rename_i n hn;split at h;case isFalse=>simp at h
  rename_i hc;split at h
  .rename_i h0;simp only[Z0a,Z0b]at h;obtain⟨rfl,rfl⟩:=h;exact .same λs X hs=>by simp only[A3e,A1M hs hsrc,A1L hs hM (A1s hn),hn,Z0d hc,Z0d h0]
  .rename_i h0;simp only[Z0a,Z0b]at h;obtain⟨rfl,rfl⟩:=h;exact .put hM (A1s hn) (by simp[A5C]) λs X hs=>by simp only[A3e,A1M hs hsrc,A1L hs hM (A1s hn),hn,Z0d hc,Z0e h0]
 .simp at h
inductive BT where
 |leaf (v:AV)
 |node (l r:BT)
def BT.get:BT->Nat->AV
 |.leaf v,n=>match n with|0=>v|_=>.poison
 |.node l r,n=>match n%2 with
  |0=>l.get (n/2)
  |_=>r.get (n/2)
def BT.put:BT->Nat->AV->Option BT
 |.leaf _,n,v=>match n with|0=>some (.leaf v)|_=>none
 |.node l r,n,v=>match n%2 with
  |0=>match l.put (n/2) v with|some l=>some (.node l r)|none=>none
  |_=>match r.put (n/2) v with|some r=>some (.node l r)|none=>none
def BT.mk:Nat->BT
 |0=>.leaf .poison
 |k+1=>.node (BT.mk k) (BT.mk k)
def BT.get_put:∀(t t':BT) (n:Nat) (v:AV),t.put n v=some t'->∀m,t'.get m=if m=n then v else t.get m
 |.leaf u,t',n,v,h,m=>by
  simp only[BT.put]at h;split at h
  .simp only[Z0a]at h;subst h;by_cases e:m=0
   .subst e;simp[BT.get]
   .rw[Z0e e];cases m with
    |zero=>exact absurd rfl e
    |succ m=>rfl
  .simp at h
 |.node l r,t',n,v,h,m=>by
  simp only[BT.put]at h;split at h
  .rename_i a;split at h
   .rename_i l' hl;simp only[Z0a]at h;subst h;have ih:=BT.get_put l l' (n/2) v hl (m/2);simp only[BT.get];split
    .rw[ih];rename_i b;by_cases e:m/2=n/2
     ·(have:m=n:=by omega);rw[Z0d e,Z0d this]
     ·(have:¬m=n:=by intro h;subst h;exact e rfl);rw[Z0e e,Z0e this]
    .rename_i b;(have:¬m=n:=by intro h;subst h;exact b a);rw[Z0e this]
   .simp at h
  .rename_i a;split at h
   .rename_i r' hr;simp only[Z0a]at h;subst h;have ih:=BT.get_put r r' (n/2) v hr (m/2);simp only[BT.get];split
    .rename_i b;rw[Z0e (by intro e;subst e;exact a b)]
    .rename_i b;rw[ih];by_cases e:m/2=n/2
     ·(have:m=n:=by have a':¬n%2=0:=a;have b':¬m%2=0:=b;omega);rw[Z0d e,Z0d this]
     ·(have:¬m=n:=by intro h;subst h;exact e rfl);rw[Z0e e,Z0e this]
   .simp at h
def BT.get_mk:∀(k n:Nat),(BT.mk k).get n=.poison
 |0,n=>by cases n<;>rfl
 |k+1,n=>by simp only[BT.get,BT.mk];split<;>exact BT.get_mk k _
def BT.fn(t:BT):Env:=t.get
def BT.set(t:BT)(d:Option Nat)(v:AV):Option BT:=match d with
 |none=>some t
 |some d=>t.put d v
def BT.set_fn{t t':BT}{d:Option Nat}{v:AV}(h:t.set d v=some t'):t'.fn=t.fn.put d v:=by
 cases d with
 |none=>simp only[BT.set,Z0a]at h;subst h;rfl
 |some d=>funext j;exact BT.get_put t t' d v h j
def BT.args:List AV->Nat->BT->Option BT
 |[],_,t=>some t
 |a::l,i,t=>match t.put i a with
  |some t=>BT.args l (i+1) t
  |none=>none
def BT.args_fn:∀(l:List AV) (i:Nat) (t t':BT),BT.args l i t=some t'->∀j,t'.get j=if i<=j/\j<i+l.length then l.getD (j-i) .poison else t.get j
 |[],i,t,t',h,j=>by simp only[BT.args,Z0a]at h;subst h;rw[Z0e (by simp only[Z1t];omega)]
 |a::l,i,t,t',h,j=>by
  simp only[BT.args]at h;split at h
  .rename_i t1 h1;rw[BT.args_fn l (i+1) t1 t' h j,BT.get_put _ _ _ _ h1];by_cases e:j=i
   .subst e;rw[Z0e (by omega),Z0d rfl,Z0d (by simp)];simp
   .by_cases e2:i+1<=j/\j<i+1+l.length
    .rw[Z0d e2,Z0d (by simp only[Z0B];omega)];obtain⟨m,rfl⟩:∃m,j=i+1+m:=⟨j-(i+1),by omega⟩;rw[show i+1+m-(i+1)=m from by omega,show i+1+m-i=m+1 from by omega];simp
    .rw[Z0e e2,Z0e e,Z0e (by simp only[Z0B];omega)]
  .simp at h
def BT.args_of{k}{l}{t}(h:BT.args l 0 (BT.mk k)=some t):t.fn=Env.of l:=by
 funext j;show t.get j=_;rw[BT.args_fn l 0 _ _ h j];simp only[Z3N,Z2u,Z0K,Nat.sub_zero,Env.of];split
 .rfl
 .rename_i hj;rw[BT.get_mk,Z1d,Z1i (by omega)];rfl
def C5C{e:TypeId}{sz b}{s0 x}{M}{X}{r1 r2}(hs:M[b]?=some A1q)(h1:A0B M sz s0=some r1)(h2:A0B M sz x=some r2)(h:A4I e sz s0 x M=none):A4I e sz s0 x (M.set b X)=none:=by
 cases s0 with
 |vref f h' s' lo len=>
  simp only[A0B]at h1;split at h1;case h_2=>simp at h1
  rename_i e2 s2 cs g hist hM;split at h1;case h_2=>simp at h1
  rename_i n hn;simp only[A4I,h2,hM,hn]at h;simp only[A4I,A1M hs h2,A1L hs hM (A1s hn),hn];split at h
  .simp at h
  .rename_i hc;rw[Z0e hc]
 |_=>simp[A4I]
def B6n{e:TypeId}{sz bytes}{s0 x v}{M M'}(hv:B0c true s0=true)(h:A3B false true e sz bytes s0 x M=some (v,M')):A8C (A3B false true e sz bytes s0 x) M v M' (A5C s0):=by
 unfold A3B at h;rw[Z0d hv]at h;split at h;case h_2=>simp at h
 rename_i c1 k c2 m h1 h2;split at h;case isFalse=>simp at h
 rename_i hb;split at h
 .rename_i r hr;simp only[Z0a]at h;subst h;have ha:=C3l hr;exact⟨ha.grow,ha.old,ha.keep,λs X hs=>by simp only[A3B,Z0d hv,A1M hs h1,A1M hs h2,Z0d hb,ha.fill s X hs]⟩
 .rename_i hr;have ha:=C5l h;exact⟨ha.grow,ha.old,ha.keep,λs X hs=>by simp only[A3B,Z0d hv,A1M hs h1,A1M hs h2,Z0d hb,C5C hs h1 h2 hr,ha.fill s X hs]⟩
def HX:A2I:=⟨λ_=>false,λ_=>false,λ_=>true⟩
abbrev XR:=AV×Mem×List Nat
abbrev B4k:=FuncId->List AV->Mem->Option XR
structure A9u (f:Mem->Option XR) (M:Mem) (v:AV) (M1:Mem) (ws:List Nat):Prop where
 grow:M.length<=M1.length
 old:∀i,i<M.length->i∉ws->M1[i]?=M[i]?
 keep:A4V M M1
 fill:∀(s:Nat) (X:A0p),M[s]?=some A1q->f (M.set s X)=some (v,M1.set s X,ws)
def A8C.x{f:Mem->Option (AV×Mem)}{M M1}{v}{ws}(h:A8C f M v M1 ws){g:Mem->Option XR}(hg:∀M2 M3,f M2=some (v,M3)->g M2=some (v,M3,ws)):A9u g M v M1 ws:=⟨h.grow,h.old,h.keep,λs X hs=>hg _ _ (h.fill s X hs)⟩
def A9u.same{f:Mem->Option XR}{M:Mem}{v:AV}{ws:List Nat}(h:∀(s:Nat) (X:A0p),M[s]?=some A1q->f (M.set s X)=some (v,M.set s X,ws)):A9u f M v M ws:=⟨Z0u _,λ_ _ _=>rfl,λ_ h=>h,h⟩
def B1P{M}{p}{l}(hb:B0C M (p::l)):M[p.1]?=some A1q/\B0C (M.set p.1 p.2) l:=by obtain⟨h1,h2⟩:=hb;simp only[Z0C,Z2z]at h2;refine⟨h1 p (by simp),λq hq=>?_,h2.2⟩;rw[Z0g (λe=>h2.1 (by rw[e];exact List.mem_map_of_mem hq))];exact h1 q (by simp[hq])
def C5b{f:Mem->Option XR}(ha:∀M v M1 ws,f M=some (v,M1,ws)->A9u f M v M1 ws):∀(l:List (Nat×A0p)) (M M1:Mem) (v:AV) (ws:List Nat),f M=some (v,M1,ws)->B0C M l->f (Go.Abs.fill M l)=some (v,Go.Abs.fill M1 l,ws)
 |[],M,M1,v,ws,h,_=>h
 |p::l,M,M1,v,ws,h,hb=>by obtain⟨h1,h2⟩:=B1P hb;exact C5b ha l (M.set p.1 p.2) (M1.set p.1 p.2) v ws ((ha _ _ _ _ h).fill p.1 p.2 h1) h2
def B4X(C:Ctx)(call:B4k):Prop:=∀g args M v M1 ws,call g args M=some (v,M1,ws)->A5q C g args M (λr m=>r=v/\m=M1)/\A9u (call g args) M v M1 ws
def C2z(P:Program)(u:TypeId):Bool:=match P.underlying u with|some (.slice _)|some .string=>true|_=>false
def B2j(P:Program)(e:TypeId):Option (Nat×Nat):=match P.info? e with
 |some i=>match i.zero with
  |some z=>if z.cells.size=i.size/\0<i.bytes then some (i.size,i.bytes)else none
  |none=>none
 |none=>none
def C2p{P}{e:TypeId}{sz bytes}(h:B2j P e=some (sz,bytes)):A3O P e sz bytes:=by
 unfold B2j at h;split at h
 .rename_i i hi;split at h
  .rename_i z hz;split at h
   .rename_i hc;simp only[Z0a,Z0b]at h;obtain⟨rfl,rfl⟩:=h;exact⟨i,z,hi,hz,rfl,rfl,hc.1,hc.2⟩
   .simp at h
  .simp at h
 .simp at h
def C9m{P}{u:TypeId}(h:C2z P u=true):A4v P u:=by
 unfold C2z at h;split at h
 .rename_i e hu;exact .inl ⟨e,hu⟩
 .rename_i hu;exact .inr hu
 .simp at h
def A7p(P:Program)(t u:TypeId)(s x:AV)(M:Mem):Option XR:=match A0S P t with
 |some e=>match B2j P e with
  |some (sz,bytes)=>match C2z P u,B0c true s with
   |true,true=>match A3B false true e sz bytes s x M with
    |some (v,M')=>some (v,M',A5C s)
    |none=>none
   |_,_=>none
  |none=>none
 |none=>none
def B9u{C:Ctx}{t u:TypeId}{s x v:AV}{M M':Mem}{ws:List Nat}(h:A7p C.P t u s x M=some (v,M',ws)):(∃e sz bytes,B4f C.P t u sz bytes e/\A3B false true e sz bytes s x M=some (v,M')/\A8C (A3B false true e sz bytes s x) M v M' ws)/\A9u (A7p C.P t u s x) M v M' ws:=by
 unfold A7p at h
 split at h
 case h_2=>simp at h
 rename_i e he
 split at h
 case h_2=>simp at h
 rename_i sz bytes hf
 split at h
 case h_2=>simp at h
 rename_i hu hv
 split at h
 case h_2=>simp at h
 rename_i v1 M1 ha
 simp only[Z0a,Z0b]at h
 obtain⟨rfl,rfl,rfl⟩:=h
 have a:=B6n hv ha
 refine⟨⟨e,sz,bytes,⟨he,C9m hu,C2p hf⟩,ha,a⟩,a.x λM2 M3 h2=>?_⟩
 simp only[A7p,he,hf,hu,hv,h2]
def xOp(call:B4k)(C:Ctx)(o:Oper)(ρ:Operand->AV)(M:Mem):Option XR:=
 match o.op with
 |.call {callee:=.value f,args,..}=>match ρ f with
  |.func (.func g) first captured=>call g (first++args.toList.map ρ++captured) M
  |_=>none
 |.call {callee:=.builtin .append,args,argTypes}=>match args.toList,argTypes.toList with
  |[s,x],[t,u]=>match o.dst with
   |some _=>A7p C.P t u (ρ s) (ρ x) M
   |none=>none
  |_,_=>none
 |_=>match A0n C HX o ρ with
  |some v=>some (v,M,[])
  |none=>match A0A C HX o ρ M with
   |some (v,M')=>some (v,M',A1V o ρ)
   |none=>none
def D6b{a:B4k}{C:Ctx}(hc:B4X C a){o:Oper}{ρ:Operand->AV}{M M':Mem}{v:AV}{ws:List Nat}(h:xOp a C o ρ M=some (v,M',ws)):(∀K:AV->Mem->Prop,K v M'->A4x C HX o K ρ M)/\A9u (xOp a C o ρ) M v M' ws:=by
 obtain⟨d,op,t,p,af,g⟩:=o
 unfold xOp at h
 simp only at h
 split at h
 .rename_i f args ts;split at h;case h_2=>simp at h
  rename_i g' first captured hf
  obtain⟨h1,h2⟩:=hc _ _ _ _ _ _ h;refine⟨λK hk=>?_,⟨h2.grow,h2.old,h2.keep,λs X hs=>by simp only[xOp,hf];exact h2.fill s X hs⟩⟩;simp only[A4x,hf];refine h1.mono ?_;rintro r m ⟨rfl,rfl⟩;exact hk
 .rename_i args ts;split at h;case h_2=>simp at h
  rename_i s x t' u ha ht;split at h;case h_2=>simp at h
  rename_i d0;obtain⟨⟨e,sz,b,q1,q2,_⟩,q3⟩:=B9u h;refine⟨λK hk=>?_,⟨q3.grow,q3.old,q3.keep,λs X hs=>by simp only[xOp,ha,ht];exact q3.fill s X hs⟩⟩;simp only[A4x,ha,ht];refine⟨e,sz,b,q1,?_⟩;have:A3B (A1R HX.own (some d0)) (A1R HX.vec (some d0)) e sz b (ρ s) (ρ x) M=some (v,M'):=q2;rw[this];exact hk
 .rename_i hne1 hne2;have vc:∀v M',A0A C HX ⟨d,op,t,p,af,g⟩ ρ M=some (v,M')->∀K:AV->Mem->Prop,K v M'->A4x C HX ⟨d,op,t,p,af,g⟩ K ρ M:=by
   intro v M' he K hk;unfold A4x;split
   .rename_i heq;exact absurd heq (by intro e;exact hne1 _ _ _ e)
   .rename_i heq;exact absurd heq (by intro e;exact hne2 _ _ e)
   .rw[he];exact hk
  have xo:∀M2,xOp a C ⟨d,op,t,p,af,g⟩ ρ M2=(match A0n C HX ⟨d,op,t,p,af,g⟩ ρ with
  |some v=>some (v,M2,[])
  |none=>match A0A C HX ⟨d,op,t,p,af,g⟩ ρ M2 with
   |some (v,M')=>some (v,M',A1V ⟨d,op,t,p,af,g⟩ ρ)
   |none=>none):=by
   intro M2
   unfold xOp
   split
   .rename_i heq;exact absurd heq (by intro e;exact hne1 _ _ _ e)
   .rename_i heq;exact absurd heq (by intro e;exact hne2 _ _ e)
   .rfl
  split at h
  .rename_i v1 hp;simp only[Z0a,Z0b]at h;obtain⟨rfl,rfl,rfl⟩:=h;exact⟨vc _ _ (by simp only[A0A,hp]),.same λs X _=>by simp only[xo,hp]⟩
  .rename_i hp;split at h
   .rename_i v1 M1 he;simp only[Z0a,Z0b]at h;obtain⟨rfl,rfl,rfl⟩:=h;exact⟨vc _ _ he,(B1t he).x λM2 M3 h2=>by simp only[xo,hp,h2]⟩
   .simp at h
def B7u:Nat->List Nat->Bool
 |_,[]=>false
 |n,a::l=>match Nat.beq n a with
  |true=>true
  |false=>B7u n l
def B4l{n}:∀{l:List Nat},B7u n l=true<->n∈l
 |[]=>by simp[B7u]
 |a::l=>by
  simp only[B7u];split
  .rename_i h;simp[Z1I h]
  .rename_i h;rw[B4l (l:=l)];(have:n≠a:=by intro e;subst e;rw[Z4z]at h;simp at h);simp[this]
def B0Q(base:Nat):List Nat->List Nat->List Nat
 |[],ws=>ws
 |b::l,ws=>match Nat.ble base b,B7u b ws with
  |false,false=>B0Q base l (b::ws)
  |_,_=>B0Q base l ws
def B4Z{base}:∀{l ws:List Nat} {i:Nat},i<base->i∉B0Q base l ws->i∉l/\i∉ws
 |[],ws,i,_,h=>⟨by simp,h⟩
 |b::l,ws,i,hi,h=>by
  simp only[B0Q]at h;split at h
  .have:=B4Z hi h;simp only[Z0F,Z2H]at this|-;exact⟨⟨this.2.1,this.1⟩,this.2.2⟩
  .rename_i hne;have:=B4Z hi h;refine⟨?_,this.2⟩;simp only[Z0F,Z2H];refine⟨?_,this.1⟩;intro e;subst e;have h1:Nat.ble base i=false:=by
    cases hb:Nat.ble base i with
    |false=>rfl
    |true=>have:=Z2Z hb;omega
   have h2:B7u i ws=false:=by
    cases hm:B7u i ws with
    |false=>rfl
    |true=>exact absurd (B4l.1 hm) this.2
   exact hne h1 h2
def Old(base:Nat)(ws:List Nat)(M0 M:Mem):Prop:=∀i,i<base->i∉ws->M[i]?=M0[i]?
def Old.add{base}{l ws}{M0 M M1}(h:Old base ws M0 M)(hb:base<=M.length)(hs:∀i,i<M.length->i∉l->M1[i]?=M[i]?):Old base (B0Q base l ws) M0 M1:=by intro i hi hn;obtain⟨h1,h2⟩:=B4Z hi hn;rw[hs i (by omega) h1,h i hi h2]
structure B3z {R:Type} (base:Nat) (f:Mem->Option R) (mk:Mem->R) (M M':Mem) (ws ws':List Nat):Prop where
 grow:M.length<=M'.length
 keep:A4V M M'
 old:base<=M.length->∀M0,Old base ws M0 M->Old base ws' M0 M'
 fill:∀(s:Nat) (X:A0p),M[s]?=some A1q->f (M.set s X)=some (mk (M'.set s X))
def B3z.same{R:Type}{base:Nat}{f:Mem->Option R}{mk:Mem->R}{M:Mem}{ws:List Nat}(h:∀(s:Nat) (X:A0p),M[s]?=some A1q->f (M.set s X)=some (mk (M.set s X))):B3z base f mk M M ws ws:=⟨Z0u _,λ_ h=>h,λ_ _ h=>h,h⟩
def B3z.trans{R R2:Type}{base}{f:Mem->Option R}{mk:Mem->R}{f2:Mem->Option R2}{a:Mem->R2}{f3:Mem->Option R2}{M M1 M2}{ws ws1 ws2}(h:B3z base f mk M M1 ws ws1)(k:B3z base f2 a M1 M2 ws1 ws2) (hf:∀A B,f A=some (mk B)->f3 A=f2 B):B3z base f3 a M M2 ws ws2:=⟨Z0T h.grow k.grow,λs hs=>k.keep s (h.keep s hs),λhb M0 h0=>k.old (Z0T hb h.grow) M0 (h.old hb M0 h0),λs X hs=>by rw[hf _ _ (h.fill s X hs)];exact k.fill s X (h.keep s hs)⟩
def A9u.goes{R:Type}{base}{g:Mem->Option XR}{f:Mem->Option R}{mk:Mem->R}{M M1}{v}{l ws}(h:A9u g M v M1 l)(hf:∀A B,g A=some (v,B,l)->f A=some (mk B)):B3z base f mk M M1 ws (B0Q base l ws):=⟨h.grow,h.keep,λhb M0 h0=>h0.add hb h.old,λs X hs=>hf _ _ (h.fill s X hs)⟩
def B3z.turn{R R2:Type}{base}{f:Mem->Option R}{mk:Mem->R}{f2:Mem->Option R2}{a:Mem->R2}{M M1}{ws ws1}(h:B3z base f mk M M1 ws ws1)(hf:∀A B,f A=some (mk B)->f2 A=some (a B)):B3z base f2 a M M1 ws ws1:=⟨h.grow,h.keep,h.old,λs X hs=>hf _ _ (h.fill s X hs)⟩
def B1q(ops:Array Oper)(o:Oper)(t:BT):Option Bool:=match o.guard with
 |none=>some true
 |some (j,want)=>match(ops[j]?).bind (·.dst)with
  |some d=>match t.get d with
   |.val (.bool b)=>some (b==want)
   |.val (.tuple _)=>some false
   |_=>none
  |none=>none
def B2p{ops}{o}{t}{b}(h:B1q ops o t=some b)(run skip:Prop):A2n ops o t.fn run skip=if b=true then run else skip:=by
 unfold B1q at h;unfold A2n;split at h
 .rename_i hg;simp only[Z0a]at h;subst h;rw[hg];simp
 .rename_i j want hg;rw[hg];simp only;split at h
  .rename_i d hd;rw[hd];simp only[BT.fn];split at h
   .rename_i b' hb;simp only[Z0a]at h;subst h;rw[hb];simp only[Z2E]
   .rename_i hb;simp only[Z0a]at h;subst h;rw[hb];simp
   .simp at h
  .simp at h
def B9F(call:B4k)(C:Ctx)(base:Nat)(ops:Array Oper):List Oper->BT->Mem->List Nat->Option (BT×Mem×List Nat)
 |[],t,M,ws=>some (t,M,ws)
 |o::rest,t,M,ws=>match B1q ops o t with
  |some true=>match xOp call C o (t.fn.ev C) M with
   |some (v,M',l)=>match t.set o.dst v with
    |some t'=>B9F call C base ops rest t' M' (B0Q base l ws)
    |none=>none
   |none=>none
  |some false=>match t.set o.dst (.val undef)with
   |some t'=>B9F call C base ops rest t' M ws
   |none=>none
  |none=>none
def C2c{call}{C}(hc:B4X C call){base}{ops}:∀(l:List Oper) (t:BT) (M:Mem) (ws:List Nat) (t':BT) (M':Mem) (a:List Nat),B9F call C base ops l t M ws=some (t',M',a)->
 A9Q C HX ops l (λT m=>T=t'.fn/\m=M') t.fn M/\B3z base (λm=>B9F call C base ops l t m ws) (λm=>(t',m,a)) M M' ws a
 |[],t,M,ws,t',M',a,h=>by simp only[B9F,Z0a,Z0b]at h;obtain⟨rfl,rfl,rfl⟩:=h;exact⟨⟨rfl,rfl⟩,.same λ_ _ _=>rfl⟩
 |o::rest,t,M,ws,t',M',a,h=>by
  simp only[B9F]at h;simp only[A9Q];split at h
  .rename_i hgd;split at h;(case h_2=>simp at h);rename_i v M1 l2 ho;split at h;(case h_2=>simp at h);rename_i t1 ht;obtain⟨h1,h2⟩:=D6b hc ho;obtain⟨h3,h4⟩:=C2c hc rest t1 M1 (B0Q base l2 ws) t' M' a h;refine⟨?_,(h2.goes (base:=base) (ws:=ws) (f:=xOp call C o (t.fn.ev C)) (mk:=λB=>(v,B,l2)) (λA B e=>e)).trans h4 (λA B e=>?_)⟩
   .rw[B2p hgd,Z0d rfl];refine h1 _ ?_;rw[<-BT.set_fn ht];exact h3
   .simp only[B9F,hgd,e,ht]
  .rename_i hgd;split at h;(case h_2=>simp at h);rename_i t1 ht;obtain⟨h3,h4⟩:=C2c hc rest t1 M ws t' M' a h;refine⟨?_,h4.turn (λA B e=>by simp only[B9F,hgd,ht];exact e)⟩;rw[B2p hgd,Z0e (by simp),<-BT.set_fn ht];exact h3
  .simp at h
structure A4Y where
 cls:Nat
 rob:Nat
 slot:Nat
 ws:List Nat
 len:Nat
def B1Z(o:Oper):Bool:=match o.op with
 |.alloc _=>true
 |_=>false
def A4y(call:B4k)(C:Ctx)(o:Oper)(ρ:Operand->AV)(M:Mem)(slot:Nat):Option (A4Y×AV×Mem):=
 match o.op with
 |.call {callee:=.value f,args,..}=>match ρ f with
  |.func (.func g) first captured=>match call g (first++args.toList.map ρ++captured) M with
   |some (v,M',l)=>some (⟨2,0,0,l,M.length⟩,v,M')
   |none=>none
  |_=>none
 |.call {callee:=.builtin .append,args,argTypes}=>match args.toList,argTypes.toList with
  |[s,x],[t,u]=>match o.dst with
   |some _=>match A7p C.P t u (ρ s) (ρ x) M with
    |some (v,M',l)=>some (⟨2,0,0,l,M.length⟩,v,M')
    |none=>none
   |none=>none
  |_,_=>none
 |.alloc e=>match B2h C.P e,M[slot]? with
  |some X,some (.vec 0 1 [] 0 [])=>some (⟨4,0,slot,[slot],M.length⟩,.vptr slot 1 0,M.set slot X)
  |_,_=>none
 |_=>match(A0n C HX o ρ).or (A0E C o ρ)with
  |some v=>some (⟨0,0,0,[],0⟩,v,M)
  |none=>match A0y o ρ with
   |some r=>match A2r C o ρ M with
    |some v=>some (⟨1,r,0,[],0⟩,v,M)
    |none=>none
   |none=>match A0A C HX o ρ M with
    |some (v,M')=>some (⟨2,0,0,A1V o ρ,M.length⟩,v,M')
    |none=>none
def C3z{C}{o}{ρ:Operand->AV}{M}{v}{s r}{X}(hs:M[s]?=some A1q)(hr:A0y o ρ=some r)(h:A2r C o ρ M=some v):A2r C o ρ (M.set s X)=some v:=by
 obtain⟨d,op,t,p,af,g⟩:=o;unfold A2r at h;simp only at h;split at h
 .rename_i t' x;simp only[A2r];unfold A2u at h|-;cases hm:A3g M (ρ x)with
  |none=>rw[hm]at h;simp at h
  |some cs=>rw[B3G hs hm];rw[hm]at h;exact h
 .simp only[A2r];exact B2I hs h
 .rename_i args ts;split at h;case h_2=>simp at h
  rename_i x t' ha ht;simp only[A2r,ha,ht];cases hl:A1H C.P t' (ρ x)with
  |some n=>rw[hl]at h;simp only[Option.some_or]at h|-;exact h
  |none=>
   rw[hl]at h;simp only[Z3n]at h|-;cases hm:A2U C.P t' M (ρ x)with
   |none=>rw[hm]at h;simp at h
   |some n=>rw[B4t hs hm];rw[hm]at h;exact h
 .simp at h
def A7V(o:Oper):Bool:=match o.op with
 |.store ..=>true
 |_=>false
def C4U{o}{ρ:Operand->AV}{r}(hs:A7V o=true)(hw:A1V o ρ=[r]):A6K o ρ=some r:=by
 obtain⟨d,op,t,p,af,g⟩:=o;cases op<;>first|(simp[A7V]at hs;done)|skip
 case store st a x=>simp only[A1V]at hw;simp only[A6K];split at hw<;>simp_all
structure D6n (C:Ctx) (o:Oper) (ρ:Operand->AV) (g:Mem->Option (A4Y×AV×Mem)) (M:Mem) (f:A4Y) (v:AV) (M':Mem) (slot R:Nat):Prop where
 run:∀K:AV->Mem->Prop,K v M'->dOp C HX true f.cls f.rob f.slot o ρ M K
 grow:M.length<=M'.length
 len:M'=M\/f.len=M.length
 old:∀i,i<M.length->i∉f.ws->M'[i]?=M[i]?
 keep:∀s,s<R->M[s]?=some A1q->M'[s]?=some A1q
 fill:∀(s:Nat) (X:A0p),s<R->M[s]?=some A1q->g (M.set s X)=some (f,v,M'.set s X)
 slot:f.cls=4->f.slot=slot/\B1Z o=true/\∃X,M'=M.set slot X
 run5:∀r,A7V o=true->f.cls=2->f.ws=[r]->∀K:AV->Mem->Prop,K v M'->dOp C HX true 5 f.rob r o ρ M K
 no5:f.cls≠5
def C6g{call}{C}(hc:B4X C call){o}{ρ:Operand->AV}{M M'}{v}{f}{slot R}(hR:R<=slot)(h:A4y call C o ρ M slot=some (f,v,M')):D6n C o ρ (λm=>A4y call C o ρ m slot) M f v M' slot R:=by
 obtain⟨d,op,t,p,af,g⟩:=o
 unfold A4y at h
 simp only at h
 split at h
 .rename_i fo args ts;split at h;case h_2=>simp at h
  rename_i g' first captured hf
  split at h;case h_2=>simp at h
  rename_i v1 M1 l1 hcall;simp only[Z0a,Z0b]at h;obtain⟨rfl,rfl,rfl⟩:=h;obtain⟨h1,h2⟩:=hc _ _ _ _ _ _ hcall;refine⟨λK hk=>?_,h2.grow,.inr rfl,h2.old,λs _=>h2.keep s,λs X _ hs=>by simp only[A4y,hf,h2.fill s X hs,Z1C],λe=>by simp at e,λr hs=>by simp[A7V]at hs,by simp⟩;simp only[dOp,hf];rw[Z0e (by simp)];exact⟨v1,M1,by trivial,h1,λ_=>⟨h2.keep,λl hl=>(hc _ _ _ _ _ _ (C5b (f:=call g' (first++args.toList.map ρ++captured)) (λM v M1 ws h=>(hc _ _ _ _ _ _ h).2) l M M1 v1 l1 hcall hl)).1⟩,hk⟩
 .rename_i args ts;split at h;case h_2=>simp at h
  rename_i s x t' u ha ht;split at h;case h_2=>simp at h
  rename_i d0;split at h;case h_2=>simp at h
  rename_i v1 M1 l1 happ;simp only[Z0a,Z0b]at h;obtain⟨rfl,rfl,rfl⟩:=h;obtain⟨⟨e,sz,a,q1,q2,q4⟩,q3⟩:=B9u happ;refine⟨λK hk=>?_,q3.grow,.inr rfl,q3.old,λs _=>q3.keep s,λs X _ hs=>by simp only[A4y,ha,ht,q3.fill s X hs,Z1C],λe=>by simp at e,λr hs=>by simp[A7V]at hs,by simp⟩;simp only[dOp,ha,ht];refine⟨e,sz,a,q1,?_,?_⟩
  .trivial
  have k:A3B (A1R HX.own (some d0)) (A1R HX.vec (some d0)) e sz a (ρ s) (ρ x) M=some (v1,M1):=q2;unfold A6l;rw[k];refine⟨λ_=>⟨q3.keep,λl hl=>?_⟩,hk⟩;have hv:B0c true (ρ s)=true:=by unfold A7p at happ;split at happ;(case h_2=>simp at happ);split at happ;(case h_2=>simp at happ);split at happ;(case h_2=>simp at happ);rename_i hv;exact hv
  have j:∀(l:List (Nat×A0p)) (M M1:Mem) (v:AV),A3B false true e sz a (ρ s) (ρ x) M=some (v,M1)->B0C M l->A3B false true e sz a (ρ s) (ρ x) (Go.Abs.fill M l)=some (v,Go.Abs.fill M1 l):=by
   intro l;induction l with
   |nil=>intro M M1 v h _;exact h
   |cons p l ih=>intro M M1 v h hb;obtain⟨b1,b2⟩:=B1P hb;exact ih (M.set p.1 p.2) (M1.set p.1 p.2) v ((B6n hv h).fill p.1 p.2 b1) b2
  exact j l M M1 v1 q2 hl
 .rename_i e;split at h;case h_2=>simp at h
  rename_i X hX hM;simp only[Z0a,Z0b]at h;obtain⟨rfl,rfl,rfl⟩:=h;have q:M[slot]?=some A1q:=hM;refine⟨λK hk=>?_,by simp,.inr rfl,λi _ hn=>?_,λs hs hb=>?_,λs Y hs hb=>?_,λ_=>⟨rfl,rfl,X,rfl⟩,λr hs=>by simp[A7V]at hs,by simp⟩
  .simp only[dOp];rw[Z0d trivial];exact⟨trivial,q,by rw[hX];exact hk⟩
  .rw[Z0g (λe=>hn (by simp[e]))]
  .rw[Z0g (by omega)];exact hb
  ·(have:(M.set s Y)[slot]?=some (.vec 0 1 [] 0 []):=by rw[Z0g (by omega)];exact hM);simp only[A4y,hX,this,Z1C]
   rw[Z4x _ _ (by omega)]
 .rename_i hne1 hne2 hne3;have key:∀c r s M K,dOp C HX true c r s ⟨d,op,t,p,af,g⟩ ρ M K=(if c=0 then A0N ((A0n C HX ⟨d,op,t,p,af,g⟩ ρ).or (A0E C ⟨d,op,t,p,af,g⟩ ρ)) (λv=>K v M)else if c=1 then A0y ⟨d,op,t,p,af,g⟩ ρ=some r/\A0N (A2r C ⟨d,op,t,p,af,g⟩ ρ M) (λv=>K v M)
   else if c=5 then A6K ⟨d,op,t,p,af,g⟩ ρ=some s/\A0N (A0A C HX ⟨d,op,t,p,af,g⟩ ρ M) (λr=>K r.1 r.2)
   else c=2/\A6l true (A0A C HX ⟨d,op,t,p,af,g⟩ ρ) M K):=by
   intro c r s M K
   unfold dOp
   split
   .rename_i heq;exact absurd heq (by intro e;exact hne1 _ _ _ e)
   .rename_i heq;exact absurd heq (by intro e;exact hne2 _ _ e)
   .rename_i heq;exact absurd heq (by intro e;exact hne3 _ e)
   .rfl
  have b:∀M2,A4y call C ⟨d,op,t,p,af,g⟩ ρ M2 slot=(match(A0n C HX ⟨d,op,t,p,af,g⟩ ρ).or (A0E C ⟨d,op,t,p,af,g⟩ ρ)with
  |some v=>some (⟨0,0,0,[],0⟩,v,M2)
  |none=>match A0y ⟨d,op,t,p,af,g⟩ ρ with
   |some r=>match A2r C ⟨d,op,t,p,af,g⟩ ρ M2 with
    |some v=>some (⟨1,r,0,[],0⟩,v,M2)
    |none=>none
   |none=>match A0A C HX ⟨d,op,t,p,af,g⟩ ρ M2 with
    |some (v,M')=>some (⟨2,0,0,A1V ⟨d,op,t,p,af,g⟩ ρ,M2.length⟩,v,M')
    |none=>none):=by
   intro M2
   unfold A4y
   split
   .rename_i heq;exact absurd heq (by intro e;exact hne1 _ _ _ e)
   .rename_i heq;exact absurd heq (by intro e;exact hne2 _ _ e)
   .rename_i heq;exact absurd heq (by intro e;exact hne3 _ e)
   .rfl
  split at h
  .rename_i v1 he;simp only[Z0a,Z0b]at h;obtain⟨rfl,rfl,rfl⟩:=h;exact⟨λK hk=>by rw[key,Z0d rfl,he];exact hk,Z0u _,.inl rfl,λ_ _ _=>rfl,λ_ _ h=>h,λs X _ _=>by simp only[b,he],λe=>by simp at e,λr _ hc=>by simp at hc,by simp⟩
  .rename_i hnone;split at h
   .rename_i r hr;split at h;(case h_2=>simp at h);rename_i v1 hrd;simp only[Z0a,Z0b]at h;obtain⟨rfl,rfl,rfl⟩:=h;exact⟨λK hk=>by rw[key,Z0e (by simp),Z0d rfl,hrd];exact⟨hr,hk⟩,Z0u _,.inl rfl,λ_ _ _=>rfl,λ_ _ h=>h,λs X _ hs=>by simp only[b,hnone,hr,C3z hs hr hrd],λe=>by simp at e,λr _ hc=>by simp at hc,by simp⟩
   .rename_i hno;split at h;(case h_2=>simp at h);rename_i v1 M1 he;simp only[Z0a,Z0b]at h;obtain⟨rfl,rfl,rfl⟩:=h;have ha:=B1t he;refine⟨λK hk=>?_,ha.grow,.inr rfl,ha.old,λs _=>ha.keep s,λs X _ hs=>?_,λe=>by simp at e,λr hst _ hw K hk=>by rw[key,Z0e (by simp),Z0e (by simp),Z0d rfl,he];exact⟨C4U hst hw,hk⟩,by simp⟩
    .rw[key,Z0e (by simp),Z0e (by simp),Z0e (by simp)];refine⟨rfl,?_⟩;unfold A6l;rw[he];refine⟨λ_=>⟨ha.keep,λl hl=>?_⟩,hk⟩;have j:∀(l:List (Nat×A0p)) (M M1:Mem) (v:AV),A0A C HX ⟨d,op,t,p,af,g⟩ ρ M=some (v,M1)->B0C M l->A0A C HX ⟨d,op,t,p,af,g⟩ ρ (Go.Abs.fill M l)=some (v,Go.Abs.fill M1 l):=by
      intro l;induction l with
      |nil=>intro M M1 v h _;exact h
      |cons p l ih=>intro M M1 v h hb;obtain⟨b1,b2⟩:=B1P hb;exact ih (M.set p.1 p.2) (M1.set p.1 p.2) v ((B1t h).fill p.1 p.2 b1) b2
     exact j l M M1 v1 he hl
    .simp only[b,hnone];simp only[hno,ha.fill s X hs,Z1C]
def F0:A4Y:=⟨0,0,0,[],0⟩
def A0v(fs:List A4Y)(k:Nat):A4Y:=fs.getD k F0
def A7l(fs:List A4Y):B1A:={cls:=λk=>(A0v fs k).cls,rob:=λk=>(A0v fs k).rob,slot:=λk=>(A0v fs k).slot,aff:=λi k=>B7u (A0v fs i).rob (A0v fs k).ws||Nat.ble (A0v fs k).len (A0v fs i).rob,fl:=true}
def A6v(o:Oper):List Nat:=(o.after.toList.filter (Region.binds .any)).map (·.on)
def A7f(ms:List Nat):List Nat->Nat
 |[]=>0
 |on::l=>Nat.lor (Nat.lor (Nat.shiftLeft 1 on) (ms.getD on 0)) (A7f ms l)
def D0T(ops:Array Oper):List Oper->Nat->List Nat->Option (List (List Nat))
 |[],_,_=>some []
 |o::l,i,ms=>match(A6v o).all (λon=>Nat.blt on i)with
  |true=>match((List.range i).filter λj=>!(Nat.testBit (A7f ms (A6v o)) j)).all (λj=>match ops[j]? with|some x=>!A5A ops x o|none=>true)with
   |true=>match D0T ops l (i+1) (ms++[A7f ms (A6v o)])with
    |some r=>some (((List.range i).filter λj=>!(Nat.testBit (A7f ms (A6v o)) j))::r)
    |none=>none
   |false=>none
  |false=>none
def B8C(a b:A4Y):Bool:=match a.cls with
 |0=>false
 |1=>match b.cls with
  |2=>B7u a.rob b.ws||Nat.ble b.len a.rob
  |4=>Nat.beq a.rob b.slot
  |5=>Nat.beq a.rob b.slot
  |_=>false
 |2=>match b.cls with
  |2=>true
  |5=>true
  |1=>B7u b.rob a.ws||Nat.ble a.len b.rob
  |_=>false
 |4=>match b.cls with
  |2=>true
  |1=>Nat.beq b.rob a.slot
  |_=>false
 |5=>match b.cls with
  |2=>true
  |1=>Nat.beq b.rob a.slot
  |_=>false
 |_=>true
def C2T(all:List A4Y)(f:A4Y):List Nat->Bool
 |[]=>true
 |j::l=>match B8C (A0v all j) f with
  |true=>false
  |false=>C2T all f l
def C5u(all:List A4Y):List (List Nat)->List A4Y->Bool
 |free::r,f::fs=>match f.cls with
  |0=>C5u all r fs
  |_=>match C2T all f free with
   |true=>C5u all r fs
   |false=>false
 |[],[]=>true
 |_,_=>false
def D4J(ops:Array Oper)(fs:List A4Y):Bool:=match D0T ops ops.toList 0 []with
 |some r=>C5u fs r fs
 |none=>false
def D1q(o:Oper)(f:A4Y):A4Y:=match A7V o,f with
 |true,⟨2,rob,_,[r],len⟩=>⟨5,rob,r,[r],len⟩
 |_,f=>f
def A6a:List Oper->List A4Y->List A4Y
 |o::l,f::fs=>D1q o f::A6a l fs
 |_,fs=>fs
def A5Q:List A4Y->List Nat
 |[]=>[]
 |f::fs=>match A3f f.cls with
  |true=>f.slot::A5Q fs
  |false=>A5Q fs
def B5G:List Nat->Bool
 |[]=>true
 |a::l=>!B7u a l&&B5G l
def okF(ops:Array Oper)(fs:List A4Y):Bool:=match D4J ops fs with
 |true=>true
 |false=>D4J ops (A6a ops.toList fs)&&B5G (A5Q (A6a ops.toList fs))
def C3Y{o}{e}(he:e∈o.after.toList)(hb:Region.binds .any e=true):e.on∈A6v o:=Z0W.2 ⟨e,Z1G.2 ⟨he,hb⟩,rfl⟩
def C6y{o}{j}(h:j∈A6v o):∃e∈o.after.toList,Region.binds .any e=true/\e.on=j:=by obtain⟨e,he,rfl⟩:=Z0W.1 h;obtain⟨h1,h2⟩:=Z1G.1 he;exact⟨e,h1,h2,rfl⟩
def B1L{ms}{j}:∀{l:List Nat},Nat.testBit (A7f ms l) j=true->∃on∈l,on=j\/Nat.testBit (ms.getD on 0) j=true
 |[],h=>by simp[A7f]at h
 |on::l,h=>by
  simp only[A7f]at h;have e:Nat.lor (Nat.lor (Nat.shiftLeft 1 on) (ms.getD on 0)) (A7f ms l)=((1 <<< on) ||| ms.getD on 0) ||| A7f ms l:=rfl;rw[e,Z4r,Z4r,Nat.testBit_shiftLeft]at h;simp only[Z1O,Z0f,Z0o]at h;rcases h with(h|h)|h
  .refine⟨on,by simp,.inl ?_⟩;obtain⟨h1,h2⟩:=h;rw[Nat.testBit_one_eq_true_iff_self_eq_zero]at h2;omega
  .exact⟨on,by simp,.inr h⟩
  .obtain⟨x,hx,h2⟩:=B1L h;exact⟨x,by simp[hx],h2⟩
def B7t{ops}:∀(f j i:Nat),A7M ops f j i=true->A7M ops (f+1) j i=true
 |0,j,i,h=>by simp[A7M]at h
 |f+1,j,i,h=>by
  rw[A7M]at h|-;split at h;case h_2=>simp at h
  rename_i o ho;rw[<-Z4c]at h|-;obtain⟨e,he,hb⟩:=Z2I.1 h;refine Z2I.2 ⟨e,he,?_⟩;simp only[Z0f,Z1O]at hb|-;exact⟨hb.1,hb.2.imp id (B7t f j e.on)⟩
def C5D{ops}{f g j i}(h:A7M ops f j i=true)(a:f<=g):A7M ops g j i=true:=by
 induction a with
 |refl=>exact h
 |step _ ih=>exact B7t _ _ _ ih
def C2i(ops:Array Oper)(ms:List Nat):Prop:=∀i j,i<ms.length->Nat.testBit (ms.getD i 0) j=true->A7M ops (i+1) j i=true
def B4o{ops}{ms}(hm:C2i ops ms){o}{i j}(ho:ops[i]?=some o)(hi:i=ms.length)(hb:(A6v o).all (λon=>Nat.blt on i)=true)(h:Nat.testBit (A7f ms (A6v o)) j=true):A7M ops (i+1) j i=true:=by
 obtain⟨on,a,hc⟩:=B1L h;have c:on<i:=by have h1:=Z0r.1 hb on a;have:on+1<=i:=Z2Z h1;omega
 obtain⟨e,he,b,rfl⟩:=C6y a;rw[A7M,ho];simp only;rw[<-Z4c];refine Z2I.2 ⟨e,he,?_⟩;simp only[Z0f,Z1O,Z2E];refine⟨b,?_⟩;rcases hc with hc|hc
 .exact .inl hc
 .exact .inr (C5D (hm e.on j (by omega) hc) (by omega))
def C8e{ops}:∀(l:List Oper) (i:Nat) (ms:List Nat) (r:List (List Nat)),D0T ops l i ms=some r->i=ms.length->C2i ops ms->(∀k o,l[k]?=some o->ops[i+k]?=some o)->
 r.length=l.length/\∀k o,l[k]?=some o->(∀e∈o.after.toList,Region.binds .any e=true->e.on<i+k)/\∀j x,j<i+k->ops[j]?=some x->(A7M ops (i+k+1) j (i+k)=true\/(A5A ops x o=false/\∃fr,r[k]?=some fr/\j∈fr))
 |[],i,ms,r,h,_,_,_=>by simp only[D0T,Z0a]at h;subst h;exact⟨rfl,by simp⟩
 |o::l,i,ms,r,h,hi,hm,hl=>by
  simp only[D0T]at h;split at h;case h_2=>simp at h
  rename_i hb;split at h;case h_2=>simp at h
  rename_i hs;split at h;case h_2=>simp at h
  rename_i r1 hr;simp only[Z0a]at h;subst h;have ho:ops[i]?=some o:=by have:=hl 0 o rfl;simpa using this
  have b:C2i ops (ms++[A7f ms (A6v o)]):=by
   intro i' j c ht;by_cases e:i'<ms.length
   .refine hm i' j e ?_;rw[Z1d,Z0j e,<-Z1d]at ht;exact ht
   ·(have e2:i'=i:=by simp at c;omega);subst e2
    rw[Z1d,hi,Z1m (Z0u _)]at ht;simp at ht;exact B4o hm ho hi hb ht
  obtain⟨i1,i2⟩:=C8e l (i+1) _ r1 hr (by simp[hi]) b (λk o' h'=>by have:=hl (k+1) o' (by simpa using h');rwa[show i+(k+1)=i+1+k from by omega]at this);refine⟨by simp[i1],λk o' hk=>?_⟩;cases k with
  |zero=>
   simp only[Z2L,Z0a]at hk;subst hk;refine⟨λe he hbe=>?_,λj x hj hx=>?_⟩
   .have h1:=Z0r.1 hb _ (C3Y he hbe);have:e.on+1<=i:=Z2Z h1;omega
   .cases ht:Nat.testBit (A7f ms (A6v o)) j with
    |true=>exact .inl (B4o hm ho hi hb ht)
    |false=>have a:j∈(List.range i).filter λj=>!(Nat.testBit (A7f ms (A6v o)) j):=Z1G.2 ⟨Z1D.2 (by omega),by simp[ht]⟩;have h1:=Z0r.1 hs j a;rw[hx]at h1;exact .inr ⟨by simpa using h1,_,rfl,a⟩
  |succ k=>have:=i2 k o' (by simpa using hk);rw[show i+(k+1)=i+1+k from by omega];simpa using this
def C0B{all}{f}:∀{l:List Nat},C2T all f l=true->∀j∈l,B8C (A0v all j) f=false
 |[],_,j,hj=>by simp at hj
 |x::l,h,j,hj=>by
  simp only[C2T]at h;split at h
  .simp at h
  .rename_i hc;rcases Z0F.1 hj with rfl|hj
   .exact hc
   .exact C0B h j hj
def C7S{all}:∀(r:List (List Nat)) (fs:List A4Y),C5u all r fs=true->r.length=fs.length/\∀(k:Nat) (fr:List Nat) (f:A4Y),r[k]?=some fr->fs[k]?=some f->f.cls=0\/∀j∈fr,B8C (A0v all j) f=false
 |[],[],_=>⟨rfl,by simp⟩
 |[],f::fs,h=>by simp[C5u]at h
 |fr::r,[],h=>by simp[C5u]at h
 |fr::r,f::fs,h=>by
  have step:∀hh:C5u all r fs=true,(f.cls=0\/∀j∈fr,B8C (A0v all j) f=false)->(fr::r).length=(f::fs).length/\∀(k:Nat) (a:List Nat) (f':A4Y),(fr::r)[k]?=some a->(f::fs)[k]?=some f'->f'.cls=0\/∀j∈a,B8C (A0v all j) f'=false:=by
   intro hh h0;obtain⟨i1,i2⟩:=C7S r fs hh;refine⟨by simp[i1],λk a f' e1 e2=>?_⟩;cases k with
   |zero=>simp at e1 e2;subst e1;subst e2;exact h0
   |succ k=>exact i2 k a f' (by simpa using e1) (by simpa using e2)
  simp only[C5u]at h;split at h
  .rename_i hc;exact step h (.inl hc)
  .split at h
   .rename_i hf;exact step h (.inr (C0B hf))
   .simp at h
def C9r{fs}{j i}(h:B8C (A0v fs j) (A0v fs i)=false):A1I (A7l fs) j i=false:=by
 simp only[A1I,A7l];revert h;generalize A0v fs j=a;generalize A0v fs i=b;intro h;obtain⟨ac,ar,d,aw,al⟩:=a;obtain⟨bc,br,bs,bw,bl⟩:=b;simp only[B8C]at h|-;have c:∀a b:Nat,Nat.beq a b=false->(a==b)=false:=λa b h=>by rw[Z1c];intro e;subst e;rw[Z4z]at h;simp at h
 split at h
 .simp[A3f]
 .split at h
  .simp[h,A3f]
  .simp[c _ _ h,A3f]
  .simp[c _ _ h,A3f]
  .rename_i e2 e3 e4;(have n2:(bc==2)=false:=by rw[Z1c];exact e2);(have n4:(bc==4)=false:=by rw[Z1c];exact e3);(have n5:(bc==5)=false:=by rw[Z1c];exact e4);simp[n2,n4,n5,A3f]
 .split at h
  .simp at h
  .simp at h
  .simp[h,A3f]
  .rename_i e2 e4 e3;(have n2:(bc==2)=false:=by rw[Z1c];exact e2);(have n1:(bc==1)=false:=by rw[Z1c];exact e3);(have n5:(bc==5)=false:=by rw[Z1c];exact e4);simp[n2,n1,n5,A3f]
 .split at h
  .simp at h
  .simp[c _ _ h,A3f]
  .rename_i e2 e3;(have n2:(bc==2)=false:=by rw[Z1c];exact e2);(have n1:(bc==1)=false:=by rw[Z1c];exact e3);simp[n2,n1,A3f]
 .split at h
  .simp at h
  .simp[c _ _ h,A3f]
  .rename_i e2 e3;(have n2:(bc==2)=false:=by rw[Z1c];exact e2);(have n1:(bc==1)=false:=by rw[Z1c];exact e3);simp[n2,n1,A3f]
 .simp at h
def C8g{ops}{fs}(h:D4J ops fs=true)(f:∀j i,j<i->((A0v fs j).cls=4\/(A0v fs j).cls=5)->((A0v fs i).cls=4\/(A0v fs i).cls=5)->(A0v fs j).slot≠(A0v fs i).slot):A5y ops (A7l fs)=true:=by
 unfold D4J at h;split at h;case h_2=>simp at h
 rename_i r hr;obtain⟨s1,s2⟩:=C8e ops.toList 0 [] r hr rfl (λi j hi=>by simp at hi) (λk o hk=>by simpa using hk);obtain⟨c1,c2⟩:=C7S r fs h;refine Z0r.2 λi hi=>?_;have a:=Z1D.1 hi;have ho:ops[i]?=some ops[i]:=Z0U a;rw[ho];obtain⟨q1,q2⟩:=s2 i ops[i] (by simpa using ho);simp only[Z0K]at q1 q2;simp only[Z0f];refine⟨⟨?_,by simp[A7l]⟩,Z0r.2 λj hj=>?_⟩
 .rw[<-Z3u];refine Z0r.2 λe he=>?_;cases hb:Region.binds .any e with
  |false=>rfl
  |true=>simp[q1 e he hb]
 .have b:=Z1D.1 hj;have hx:ops[j]?=some ops[j]:=Z0U (by omega);rw[hx];simp only[Z0f];refine⟨?_,?_⟩
  .rcases q2 j _ b hx with hc|⟨hc,fr,c,hm⟩
   .rw[C5D hc (by omega)];simp
   ·(have d:fs[i]?=some (A0v fs i):=by(have:i<fs.length:=by rw[<-c1,s1];simpa using a);simp[A0v,Z1d,Z0m this]);have g:A1I (A7l fs) j i=false:=by
     rcases c2 i fr _ c d with h0|h0
     .simp only[A1I,A7l];simp[h0,A3f]
     .exact C9r (h0 j hm)
    rw[hc,g];simp
  .have:=f j i b;simp only[A7l];cases e1:A3f (A0v fs i).cls with
   |false=>rfl
   |true=>
    cases e2:A3f (A0v fs j).cls with
    |false=>rfl
    |true=>have:=this (A5c.1 e2) (A5c.1 e1);simp[this]
def C9p{fs}:B5G (A5Q fs)=true->∀j i,j<i->((A0v fs j).cls=4\/(A0v fs j).cls=5)->((A0v fs i).cls=4\/(A0v fs i).cls=5)->(A0v fs j).slot≠(A0v fs i).slot:=by
 have mem:∀(fs:List A4Y) i,((A0v fs i).cls=4\/(A0v fs i).cls=5)->(A0v fs i).slot∈A5Q fs:=by
  intro fs;induction fs with
  |nil=>intro i h;simp[A0v,F0]at h
  |cons f fs ih=>
   intro i h;cases i with
   |zero=>simp only[A0v,Z2s]at h|-;simp only[A5Q,A5c.2 h];simp
   |succ i=>
    have:=ih i (by simpa[A0v]using h);simp only[A5Q];(have e:(A0v (f::fs) (i+1)).slot=(A0v fs i).slot:=by simp[A0v]);rw[e];split
    .exact Z2l _ this
    .exact this
 induction fs with
 |nil=>intro _ j i _ h;simp[A0v,F0]at h
 |cons f fs ih=>
  intro hn j i b hj hi;have a:B5G (A5Q fs)=true:=by
   simp only[A5Q]at hn;split at hn
   .simp only[B5G,Z0f]at hn;exact hn.2
   .exact hn
  cases i with
  |zero=>omega
  |succ i=>
   cases j with
   |succ j=>have:=ih a j i (by omega) (by simpa[A0v]using hj) (by simpa[A0v]using hi);simpa[A0v]using this
   |zero=>have hm:=mem fs i (by simpa[A0v]using hi);simp only[A0v,Z2s]at hj;simp only[A5Q,A5c.2 hj,B5G,Z0f,Z1U]at hn;intro e;have e1:(A0v (f::fs) 0).slot=f.slot:=rfl;(have e2:(A0v (f::fs) (i+1)).slot=(A0v fs i).slot:=by simp[A0v]);rw[e1,e2]at e;rw[<-e]at hm;rw[B4l.2 hm]at hn;simp at hn
def A8m(f:A4Y)(slot:Nat):Nat:=match f.cls with
 |4=>slot+1
 |_=>slot
def B1J(f:A4Y)(slot:Nat):A8m f slot=if f.cls=4 then slot+1 else slot:=by
 unfold A8m;split
 .rename_i h;rw[Z0d h]
 .rename_i h;rw[Z0e (λe=>h e)]
def B1p(call:B4k)(C:Ctx)(ops:Array Oper):List Oper->BT->Mem->Nat->Option (BT×Mem×List A4Y)
 |[],t,M,_=>some (t,M,[])
 |o::rest,t,M,slot=>match B1q ops o t with
  |some true=>match A4y call C o (t.fn.ev C) M slot with
   |some (f,v,M')=>match t.set o.dst v with
    |some t'=>match B1p call C ops rest t' M' (A8m f slot)with
     |some (t2,M2,fs)=>some (t2,M2,f::fs)
     |none=>none
    |none=>none
   |none=>none
  |some false=>match t.set o.dst (.val undef)with
   |some t'=>match B1p call C ops rest t' M slot with
    |some (t2,M2,fs)=>some (t2,M2,F0::fs)
    |none=>none
   |none=>none
  |none=>none
def C6P(L:B1A)(k:Nat)(l:List Oper)(fs:List A4Y):Prop:=∀j,L.rob (k+j)=(A0v fs j).rob/\(∀i,L.aff i (k+j)=(B7u (L.rob i) (A0v fs j).ws||Nat.ble (A0v fs j).len (L.rob i)))/\((L.cls (k+j)=(A0v fs j).cls/\L.slot (k+j)=(A0v fs j).slot)\/(L.cls (k+j)=5/\(A0v fs j).cls=2/\(A0v fs j).ws=[L.slot (k+j)]/\∃o,l[j]?=some o/\A7V o=true))
def C9Y(l:List Oper)(fs:List A4Y):C6P (A7l fs) 0 l fs:=λj=>by simp[A7l]
def B3N:∀(l:List Oper) (fs:List A4Y) (j:Nat),A0v (A6a l fs) j=A0v fs j\/∃(o:Oper) (rob sl r len:Nat),l[j]?=some o/\A7V o=true/\A0v fs j=⟨2,rob,sl,[r],len⟩/\A0v (A6a l fs) j=⟨5,rob,r,[r],len⟩
 |[],fs,j=>.inl rfl
 |o::l,[],j=>.inl rfl
 |o::l,f::fs,j=>by
  cases j with
  |zero=>
   simp only[A0v,A6a,Z2s];unfold D1q;split
   .rename_i rob sl r len hs;exact .inr ⟨o,rob,sl,r,len,rfl,hs,rfl,rfl⟩
   .exact .inl rfl
  |succ j=>have:=B3N l fs j;simpa[A0v,A6a]using this
def C7G(l:List Oper)(fs:List A4Y):C6P (A7l (A6a l fs)) 0 l fs:=λj=>by
 have key:∀i,(A0v (A6a l fs) i).rob=(A0v fs i).rob/\(A0v (A6a l fs) i).ws=(A0v fs i).ws/\(A0v (A6a l fs) i).len=(A0v fs i).len:=λi=>by
  rcases B3N l fs i with h|⟨o,rob,sl,r,len,_,_,h1,h2⟩
  .rw[h];exact⟨rfl,rfl,rfl⟩
  .rw[h1,h2];exact⟨rfl,rfl,rfl⟩
 simp only[A7l,Z0K];refine⟨(key j).1,λi=>by rw[(key j).2.1,(key j).2.2],?_⟩;rcases B3N l fs j with h|⟨o,rob,sl,r,len,h0,hs,h1,h2⟩
 .rw[h];exact .inl ⟨rfl,rfl⟩
 .rw[h1,h2];exact .inr ⟨rfl,rfl,rfl,o,h0,hs⟩
def C6P.tail{L}{k}{o}{l}{f}{fs}(h:C6P L k (o::l) (f::fs)):C6P L (k+1) l fs:=λj=>by have:=h (j+1);rw[show k+(j+1)=k+1+j from by omega]at this;simpa[A0v]using this
def B8k(base:Nat):List A4Y->List Nat->List Nat
 |[],ws=>ws
 |f::fs,ws=>B8k base fs (B0Q base f.ws ws)
def A3M:List Oper->Nat
 |[]=>0
 |o::l=>match B1Z o with
  |true=>A3M l+1
  |false=>A3M l
def B8W{call}{C}(hc:B4X C call){base R}(a:base<=R){ops}:∀(l:List Oper) (t:BT) (M:Mem) (slot:Nat) (t':BT) (M':Mem) (fs:List A4Y),B1p call C ops l t M slot=some (t',M',fs)->R<=slot->R<=M.length->
 (∀L k,C6P L k l fs->L.fl=true->A3c C HX ops L k l t.fn M (λT m=>T=t'.fn/\m=M'))/\M.length<=M'.length/\(∀s,s<R->M[s]?=some A1q->M'[s]?=some A1q)/\(∀M0 ws,Old base ws M0 M->Old base (B8k base fs ws) M0 M')/\
 (∀(s:Nat) (X:A0p),s<R->M[s]?=some A1q->B1p call C ops l t (M.set s X) slot=some (t',M'.set s X,fs))/\(∀j,(A0v fs j).cls=4->slot<=(A0v fs j).slot/\(A0v fs j).slot<slot+A3M l)/\(∀j i,j<i->(A0v fs j).cls=4->(A0v fs i).cls=4->(A0v fs j).slot≠(A0v fs i).slot)/\(∀j,(A0v fs j).cls≠5)
 |[],t,M,slot,t',M',fs,h,hs,hM=>by simp only[B1p,Z0a,Z0b]at h;obtain⟨rfl,rfl,rfl⟩:=h;exact⟨λ_ _ _ _=>⟨rfl,rfl⟩,Z0u _,λ_ _ h=>h,λ_ _ h=>h,λ_ _ _ _=>rfl,λj hj=>by simp[A0v,F0]at hj,λj i _ hj=>by simp[A0v,F0]at hj,λj=>by simp[A0v,F0]⟩
 |o::rest,t,M,slot,t',M',fs,h,hs,hM=>by
  simp only[B1p]at h;split at h
  .rename_i hgd;split at h;(case h_2=>simp at h);rename_i f v M1 ho;split at h;(case h_2=>simp at h);rename_i t1 ht;split at h;(case h_2=>simp at h);rename_i t2 M2 fs1 hr;simp only[Z0a,Z0b]at h;obtain⟨rfl,rfl,rfl⟩:=h;have hD:=C6g hc hs ho;(have e:slot<=A8m f slot:=by rw[B1J];split<;>omega);obtain⟨i1,i2,i3,i4,i5,i6,i7,i8⟩:=B8W hc a rest t1 M1 (A8m f slot) t2 M2 fs1 hr (by omega) (by have:=hD.grow;omega);refine⟨λL k hL hfl=>?_,Z0T hD.grow i2,λs h1 h2=>i3 s h1 (hD.keep s h1 h2),λM0 ws h0=>i4 M0 _ (h0.add (by omega) hD.old),λs X h1 h2=>?_,λj hj=>?_,λj i hji hj hi=>?_,λj=>?_⟩
   .obtain⟨e2,e4,b⟩:=hL 0;simp only[A0v,Z2s,Z0V]at e2 e4 b;simp only[A3c];rw[B2p hgd,Z0d rfl,e2,hfl];have c:∀K:AV->Mem->Prop,K v M1->dOp C HX true (L.cls k) f.rob (L.slot k) o (t.fn.ev C) M K:=λK hk=>by
     rcases b with⟨e1,e3⟩|⟨e1,q1,q2,o',q3,q4⟩
     .rw[e1,e3];exact hD.run K hk
     .simp only[Z2L,Z0a]at q3;subst q3;rw[e1];exact hD.run5 _ q4 q1 q2 K hk
    refine c _ ⟨λi hi ha=>?_,?_⟩
    .rcases hD.len with h1|h1
     .rw[h1]
     .rw[e4 i]at ha;simp only[Z2b]at ha;refine hD.old _ ?_ (λhm=>?_)
      ·(have:¬(f.len<=L.rob i):=λd=>by rw[Z4q d]at ha;simp at ha);omega
      .rw[B4l.2 hm]at ha;simp at ha
    .rw[<-BT.set_fn ht];exact i1 L (k+1) hL.tail hfl
   .simp only[B1p,hgd,hD.fill s X h1 h2,ht,i5 s X h1 (hD.keep s h1 h2)]
   .cases j with
    |zero=>simp only[A0v,Z2s]at hj|-;obtain⟨h1,h2,_⟩:=hD.slot hj;simp only[A3M,h2];omega
    |succ j=>
     have:=i6 j (by simpa[A0v]using hj);simp only[A0v,Z3I]at this|-;rw[B1J]at this;simp only[A3M];by_cases h4:f.cls=4
     .rw[Z0d h4]at this;rw[(hD.slot h4).2.1];simp only;omega
     .rw[Z0e h4]at this;split<;>omega
   .cases i with
    |zero=>omega
    |succ i=>
     cases j with
     |zero=>simp only[A0v,Z2s,Z3I]at hj hi|-;obtain⟨h1,_,_⟩:=hD.slot hj;have:=(i6 i (by simpa[A0v]using hi)).1;rw[B1J,Z0d hj]at this;simp only[A0v]at this;omega
     |succ j=>have:=i7 j i (by omega) (by simpa[A0v]using hj) (by simpa[A0v]using hi);simpa[A0v]using this
   .cases j with
    |zero=>exact hD.no5
    |succ j=>have:=i8 j;simpa[A0v]using this
  .rename_i hgd;split at h;(case h_2=>simp at h);rename_i t1 ht;split at h;(case h_2=>simp at h);rename_i t2 M2 fs1 hr;simp only[Z0a,Z0b]at h;obtain⟨rfl,rfl,rfl⟩:=h;obtain⟨i1,i2,i3,i4,i5,i6,i7,i8⟩:=B8W hc a rest t1 M slot t2 M2 fs1 hr hs hM;refine⟨λL k hL hfl=>?_,i2,i3,λM0 ws h0=>i4 M0 _ h0,λs X h1 h2=>?_,λj hj=>?_,λj i hji hj hi=>?_,λj=>?_⟩
   .simp only[A3c];rw[B2p hgd,Z0e (by simp),<-BT.set_fn ht];exact i1 L (k+1) hL.tail hfl
   .simp only[B1p,hgd,ht,i5 s X h1 h2]
   .cases j with
    |zero=>simp[A0v,F0]at hj
    |succ j=>have:=i6 j (by simpa[A0v]using hj);simp only[A0v,Z3I,A3M]at this|-;split<;>omega
   .cases i with
    |zero=>omega
    |succ i=>
     cases j with
     |zero=>simp[A0v,F0]at hj
     |succ j=>have:=i7 j i (by omega) (by simpa[A0v]using hj) (by simpa[A0v]using hi);simpa[A0v]using this
   .cases j with
    |zero=>simp[A0v,F0]
    |succ j=>have:=i8 j;simpa[A0v]using this
  .simp at h
def D3b{ops}{fs}(h:okF ops fs=true)(h7:∀j i,j<i->(A0v fs j).cls=4->(A0v fs i).cls=4->(A0v fs j).slot≠(A0v fs i).slot)(h8:∀j,(A0v fs j).cls≠5):∃L:B1A,A5y ops L=true/\C6P L 0 ops.toList fs/\L.fl=true:=by
 unfold okF at h
 split at h
 .rename_i h0;exact⟨A7l fs,C8g h0 (λj i hji h1 h2=>h7 j i hji (h1.resolve_right (h8 j)) (h2.resolve_right (h8 i))),C9Y _ fs,rfl⟩
 .simp only[Z0f]at h;exact⟨A7l (A6a ops.toList fs),C8g h.1 (C9p h.2),C7G _ fs,rfl⟩
def B1Y:Nat->Mem->Mem
 |0,M=>M
 |n+1,M=>M++List.replicate (n+1) A1q
def B0D(n:Nat)(M:Mem):B1Y n M=M++List.replicate n A1q:=by
 cases n with
 |zero=>simp[B1Y]
 |succ n=>rfl
abbrev XC:=Exit×BT×Mem×List Nat
def B0V(f:BT->Mem->List Nat->Option XC):Nat->BT->Mem->List Nat->Option XC
 |0,_,_,_=>none
 |n+1,t,M,ws=>match f t M ws with
  |some (.normal,t,M,ws)=>B0V f n t M ws
  |r=>r
def A2h(call:B4k)(C:Ctx)(fuel base:Nat):Code->BT->Mem->List Nat->Option XC
 |.skip,t,M,ws=>some (.normal,t,M,ws)
 |.label _,t,M,ws=>some (.normal,t,M,ws)
 |.region _ ops draw,t,M,ws=>match draw with
  |true=>match B1p call C ops ops.toList t (B1Y (A3M ops.toList) M) M.length with
   |some (t',M',fs)=>match okF ops fs with
    |true=>some (.normal,t',M',B8k base fs ws)
    |false=>none
   |none=>none
  |false=>match B9F call C base ops ops.toList t M ws with
   |some s=>some (.normal,s)
   |none=>none
 |.seq x y,t,M,ws=>match A2h call C fuel base x t M ws with
  |some (.normal,t,M,ws)=>A2h call C fuel base y t M ws
  |r=>r
 |.cond c x y,t,M,ws=>match t.fn.ev C c with
  |.val (.bool true)=>A2h call C fuel base x t M ws
  |.val (.bool false)=>A2h call C fuel base y t M ws
  |_=>none
 |.block id c,t,M,ws=>match A2h call C fuel base c t M ws with
  |some (.exit i,s)=>match Nat.beq i id with
   |true=>some (.normal,s)
   |false=>some (.exit i,s)
  |r=>r
 |.loop c,t,M,ws=>B0V (A2h call C fuel base c) fuel t M ws
 |.exit id,t,M,ws=>some (.exit id,t,M,ws)
 |.ret,t,M,ws=>some (.ret,t,M,ws)
 |_,_,_,_=>none
def A7g(N:Nat):Code->Bool
 |.region _ ops _=>A2b N ops ops.toList
 |.seq x y=>A7g N x&&A7g N y
 |.cond c x y=>Operand.inside N c&&A7g N x&&A7g N y
 |.block _ c=>A7g N c
 |.loop c=>A7g N c
 |_=>true
def A4h{ops}{o}{T}{r r' s s':Prop}(hr:r->r')(hs:s->s')(h:A2n ops o T r s):A2n ops o T r' s':=by
 unfold A2n at h|-;split at h
 .exact hr h
 .split at h
  .split at h
   .split at h
    .rename_i e;rw[Z0d e];exact hr h
    .rename_i e;rw[Z0e e];exact hs h
   .exact hs h
   .exact h.elim
  .exact h.elim
def C0A{C}{h}{o}{K K':AV->Mem->Prop}{ρ:Operand->AV}{M}(hk:∀v m,K v m->K' v m)(hv:A4x C h o K ρ M):A4x C h o K' ρ M:=by
 unfold A4x at hv|-;split at hv
 .split at hv
  .exact hv.mono hk
  .exact hv.elim
 .split at hv
  .obtain⟨e,sz,a,h1,h2⟩:=hv;refine⟨e,sz,a,h1,?_⟩;split at h2
   .exact hk _ _ h2
   .exact h2.elim
  .exact hv.elim
 .split at hv
  .exact hk _ _ hv
  .exact⟨hv.1,λb=>hk _ _ (hv.2 b)⟩
def B3l{C}{h}{ops}{K K':Env->Mem->Prop}(hk:∀T m,K T m->K' T m):∀(l:List Oper) (T:Env) (M:Mem),A9Q C h ops l K T M->A9Q C h ops l K' T M
 |[],T,M,hv=>hk _ _ hv
 |o::rest,T,M,hv=>by simp only[A9Q]at hv|-;exact A4h (λh1=>C0A (λv m h2=>B3l hk rest _ _ h2) h1) (λh1=>B3l hk rest _ _ h1) hv
def At2(e:Exit)(t:BT)(M:Mem):Exit->Env->Mem->Prop:=λe2 T m=>e2=e/\T=t.fn/\m=M
def D2w{C}{N base}{c}{f:BT->Mem->List Nat->Option XC}(hf:∀t M ws e t' M' ws',base<=M.length->f t M ws=some (e,t',M',ws')->AWp C N c (At2 e t' M') t.fn M/\B3z base (λm=>f t m ws) (λm=>(e,t',m,ws')) M M' ws ws')
 {n}{t}{M}{ws}{e}{t'}{M'}{ws'}(hb:base<=M.length)(h:B0V f n t M ws=some (e,t',M',ws')):AWp C N (.loop c) (At2 e t' M') t.fn M/\B3z base (λm=>B0V f n t m ws) (λm=>(e,t',m,ws')) M M' ws ws':=by
 have key:∀n t M ws,base<=M.length->B0V f n t M ws=some (e,t',M',ws')->B3z base (λm=>B0V f n t m ws) (λm=>(e,t',m,ws')) M M' ws ws'/\∀G w a,Inv C G M w->A2S G N t.fn a->∀b k cs,
  ∃e2 a' w',B3c C N (At2 e t' M') G w e2 a' w'/\Arrives C.P (lone (b.at a (.code c::.inLoop c::k)) cs w) b k cs e2 a' w':=by
  intro n
  induction n with
  |zero=>intro t M ws _ h;simp[B0V]at h
  |succ n ih=>
   intro t M ws hb h
   simp only[B0V]at h
   split at h
   .rename_i t1 M1 ws1 h1;obtain⟨q1,q2⟩:=hf _ _ _ _ _ _ _ hb h1;obtain⟨r1,r2⟩:=ih t1 M1 ws1 (Z0T hb q2.grow) h;refine⟨q2.trans r1 (λA B e=>by simp only[B0V,e]),λG w a hi he b k cs=>?_⟩;obtain⟨e1,a1,w1,⟨T1,m1,G1,⟨rfl,rfl,rfl⟩,g1,i1,g,x1⟩,d⟩:=q1 G w a hi he b (.inLoop c::k) cs;obtain⟨e₂,a₂,w₂,l,i⟩:=r2 G1 w1 a1 i1 g b k cs;exact⟨e₂,a₂,w₂,B3c.mono g1 x1 l,.of_steps (Steps.trans d (.one step_inLoop)) i⟩
   .rename_i hne;obtain⟨q1,q2⟩:=hf _ _ _ _ _ _ _ hb h;(have j:e≠.normal:=by intro e1;subst e1;exact hne _ _ _ h);refine⟨q2.turn (λA B e2=>?_),λG w a hi he b k cs=>?_⟩
    .simp only[B0V,e2];cases e with
     |normal=>exact absurd rfl j
     |_=>rfl
    obtain⟨e1,a1,w1,hq,d⟩:=q1 G w a hi he b (.inLoop c::k) cs;(have g:e1=e:=by obtain⟨T1,m1,G1,⟨h1,_,_⟩,_⟩:=hq;exact h1);subst g;refine⟨_,a1,w1,hq,?_⟩;cases e1 with
    |normal=>exact absurd rfl j
    |_=>exact .pass (x:=.inLoop c) rfl (λ_ _=>.inl (by simp)) d
 obtain⟨k1,k2⟩:=key n t M ws hb h
 refine⟨λG w a hi he b k cs=>?_,k1⟩
 obtain⟨e2,a',w',hq,d⟩:=k2 G w a hi he b k cs
 exact⟨e2,a',w',hq,.of_steps (.one step_loop) d⟩
def C0d{C}{h}{ops}{L}{K K':Env->Mem->Prop}(hk:∀T m,K T m->K' T m):∀(l:List Oper) (k:Nat) (T:Env) (M:Mem),A3c C h ops L k l T M K->A3c C h ops L k l T M K':=by
 have on:∀{α:Type} (o:Option α) (f g:α->Prop),(∀a,f a->g a)->A0N o f->A0N o g:=by
  intro α o f g i ho;cases o with
  |none=>exact ho
  |some a=>exact i a ho
 have d:∀(fl:Bool) (f:Mem->Option (AV×Mem)) (M:Mem) (K K':AV->Mem->Prop),(∀v m,K v m->K' v m)->A6l fl f M K->A6l fl f M K':=by
  intro fl f M K K' hk h;unfold A6l at h|-;split at h
  .exact⟨h.1,hk _ _ h.2⟩
  .exact h
 have j:∀(fl:Bool) (c r s:Nat) (o:Oper) (ρ:Operand->AV) (M:Mem) (K K':AV->Mem->Prop),(∀v m,K v m->K' v m)->dOp C h fl c r s o ρ M K->dOp C h fl c r s o ρ M K':=by
  intro fl c r s o ρ M K K' hk hv;unfold dOp at hv|-;split at hv
  .split at hv
   .split at hv
    .rename_i e;rw[Z0d e];obtain⟨r,q1,q2⟩:=hv;exact⟨r,q1,hk _ _ q2⟩
    .rename_i e;rw[Z0e e];obtain⟨r,M1,q1,q2,q3,q4⟩:=hv;exact⟨r,M1,q1,q2,q3,hk _ _ q4⟩
   .exact hv.elim
  .split at hv
   .obtain⟨e,sz,b,h1,p,h2⟩:=hv;exact⟨e,sz,b,h1,p,d _ _ _ _ _ hk h2⟩
   .exact hv.elim
  .split at hv
   .rename_i e;rw[Z0d e];exact⟨hv.1,hv.2.1,on _ _ _ (λa h=>hk _ _ h) hv.2.2⟩
   .rename_i e;rw[Z0e e];exact⟨hv.1,d _ _ _ _ _ hk hv.2⟩
  .split at hv
   .rename_i e;rw[Z0d e];exact on _ _ _ (λa h=>hk _ _ h) hv
   .rename_i e;rw[Z0e e];split at hv
    .rename_i e1;rw[Z0d e1];exact⟨hv.1,on _ _ _ (λa h=>hk _ _ h) hv.2⟩
    .rename_i e1;rw[Z0e e1];split at hv
     .rename_i e2;rw[Z0d e2];exact⟨hv.1,on _ _ _ (λa h=>hk _ _ h) hv.2⟩
     .rename_i e2;rw[Z0e e2];exact⟨hv.1,d _ _ _ _ _ hk hv.2⟩
 intro l;induction l with
 |nil=>intro k T M hv;exact hk _ _ hv
 |cons o rest ih=>intro k T M hv;simp only[A3c]at hv|-;exact A4h (λh1=>j _ _ _ _ _ _ _ _ _ (λv m h2=>⟨h2.1,ih _ _ _ h2.2⟩) h1) (λh1=>ih _ _ _ h1) hv
def A6w{call}{C}(b:C.P.follows .mixedOrders=true)(hc:B4X C call){fuel base N}:∀(c:Code) (t:BT) (M:Mem) (ws:List Nat) (e:Exit) (t':BT) (M':Mem) (a:List Nat),A7g N c=true->base<=M.length->
 A2h call C fuel base c t M ws=some (e,t',M',a)->AWp C N c (At2 e t' M') t.fn M/\B3z base (λm=>A2h call C fuel base c t m ws) (λm=>(e,t',m,a)) M M' ws a
 |.skip,t,M,ws,e,t',M',a,_,_,h=>by simp only[A2h,Z0a,Z0b]at h;obtain⟨rfl,rfl,rfl,rfl⟩:=h;exact⟨C3q ⟨rfl,rfl,rfl⟩,.same λ_ _ _=>by simp only[A2h]⟩
 |.label l,t,M,ws,e,t',M',a,_,_,h=>by simp only[A2h,Z0a,Z0b]at h;obtain⟨rfl,rfl,rfl,rfl⟩:=h;exact⟨C0w ⟨rfl,rfl,rfl⟩,.same λ_ _ _=>by simp only[A2h]⟩
 |.region id ops draw,t,M,ws,e,t',M',a,hin,hb,h=>by
  simp only[A7g]at hin;simp only[A2h]at h;cases draw with
  |true=>
   simp only at h;split at h;(case h_2=>simp at h);rename_i t1 M1 fs hd;split at h;(case h_2=>simp at h);rename_i hok;simp only[Z0a,Z0b]at h;obtain⟨rfl,rfl,rfl,rfl⟩:=h;have u:=hd;rw[B0D]at hd;(have f:M.length<=(M++List.replicate (A3M ops.toList) A1q).length:=by simp);obtain⟨i1,i2,i3,i4,i5,i6,i7,i8⟩:=B8W hc hb ops.toList t _ M.length t1 M1 fs hd (Z0u _) f;obtain⟨L,o,d,r⟩:=D3b hok i7 i8;(have j:∀s,s<M.length->M[s]?=some A1q->(M++List.replicate (A3M ops.toList) A1q)[s]?=some A1q:=λs h1 h2=>by rw[Z0j h1];exact h2);refine⟨C5o (A3M ops.toList) (B1v (h:=HX) b L hin o ?_ ?_),⟨Z0T f i2,λs hs=>i3 s (A0r hs) (j s (A0r hs) hs),λhb M0 h0=>i4 M0 ws (λi hi hn=>?_),λs X hs=>?_⟩⟩
   .intro k _ hk;have q:(A0v fs k).cls=4/\L.slot k=(A0v fs k).slot:=by
     have:=(d k).2.2;rw[Z0K]at this;rcases this with⟨q1,q2⟩|⟨q1,_⟩
     .exact⟨q1.symm.trans hk,q2⟩
     .omega
    obtain⟨j1,j2⟩:=i6 k q.1;rw[q.2];rw[Z1m j1,List.getElem?_replicate,Z0d (by omega)]
   .exact C0d (λT m h=>⟨rfl,h⟩) _ _ _ _ (i1 L 0 d r)
   .rw[Z0j (by omega)];exact h0 i hi hn
   .have hl:=A0r hs;have h5:=i5 s X hl (j s hl hs);simp only[A2h,B0D,Z1C];rw[<-List.set_append_left _ _ hl,h5];simp only[hok]
  |false=>simp only at h;split at h;(case h_2=>simp at h);rename_i s hd;simp only[Z0a,Z0b]at h;obtain⟨rfl,rfl⟩:=h;obtain⟨h1,h2⟩:=C2c hc ops.toList t M ws t' M' a hd;refine⟨B8Q (h:=HX) hin ?_,h2.turn (λA B e=>by simp only[A2h,e])⟩;exact B3l (λT m h=>⟨rfl,h⟩) _ _ _ h1
 |.seq x y,t,M,ws,e,t',M',a,hin,hb,h=>by
  simp only[A7g,Z0f]at hin;simp only[A2h]at h;split at h
  .rename_i t1 M1 ws1 h1;obtain⟨q1,q2⟩:=A6w b hc x t M ws _ t1 M1 ws1 hin.1 hb h1;obtain⟨r1,r2⟩:=A6w b hc y t1 M1 ws1 e t' M' a hin.2 (Z0T hb q2.grow) h;refine⟨C2a (q1.mono ?_),q2.trans r2 (λA B e=>by simp only[A2h,e])⟩;rintro e2 T m ⟨rfl,rfl,rfl⟩;exact r1
  .rename_i hne;obtain⟨q1,q2⟩:=A6w b hc x t M ws e t' M' a hin.1 hb h;(have p:e≠.normal:=by intro e1;subst e1;exact hne _ _ _ h);refine⟨C2a (q1.mono ?_),q2.turn (λA B e2=>?_)⟩
   .rintro e2 T m ⟨rfl,rfl,rfl⟩;cases e2 with
    |normal=>exact absurd rfl p
    |_=>exact⟨rfl,rfl,rfl⟩
   .simp only[A2h,e2];cases e with
    |normal=>exact absurd rfl p
    |_=>rfl
 |.cond c x y,t,M,ws,e,t',M',a,hin,hb,h=>by
  simp only[A7g,Z0f]at hin;simp only[A2h]at h;split at h
  .rename_i hv;obtain⟨q1,q2⟩:=A6w b hc x t M ws e t' M' a hin.1.2 hb h;exact⟨B9r hin.1.1 hv (λ_=>q1) (λe=>by simp at e),q2.turn (λA B e=>by simp only[A2h,hv];exact e)⟩
  .rename_i hv;obtain⟨q1,q2⟩:=A6w b hc y t M ws e t' M' a hin.2 hb h;exact⟨B9r hin.1.1 hv (λe=>by simp at e) (λ_=>q1),q2.turn (λA B e=>by simp only[A2h,hv];exact e)⟩
  .simp at h
 |.block id c,t,M,ws,e,t',M',a,hin,hb,h=>by
  simp only[A7g]at hin;simp only[A2h]at h;split at h
  .rename_i i s hx;obtain⟨t1,M1,ws1⟩:=s;obtain⟨q1,q2⟩:=A6w b hc c t M ws _ t1 M1 ws1 hin hb hx;split at h
   .rename_i hi;have g:=Z1I hi;simp only[Z0a,Z0b]at h;obtain⟨rfl,rfl,rfl,rfl⟩:=h;refine⟨B2q (q1.mono ?_),q2.turn (λA B e=>by simp only[A2h,e,hi])⟩;rintro e2 T m ⟨rfl,rfl,rfl⟩;simp only[A7y,g,Z0G];exact⟨rfl,rfl,rfl⟩
   .rename_i hi;(have g:i≠id:=by intro e;subst e;rw[Z4z]at hi;simp at hi);simp only[Z0a,Z0b]at h;obtain⟨rfl,rfl,rfl,rfl⟩:=h;refine⟨B2q (q1.mono ?_),q2.turn (λA B e=>by simp only[A2h,e,hi])⟩;rintro e2 T m ⟨rfl,rfl,rfl⟩;simp only[A7y,g,Z0Y];exact⟨rfl,rfl,rfl⟩
  .rename_i hne;obtain⟨q1,q2⟩:=A6w b hc c t M ws e t' M' a hin hb h;refine⟨B2q (q1.mono ?_),q2.turn (λA B e2=>?_)⟩
   .rintro e2 T m ⟨rfl,rfl,rfl⟩;cases e2 with
    |exit i=>exact absurd h (hne _ _)
    |_=>exact⟨rfl,rfl,rfl⟩
   .simp only[A2h,e2];cases e with
    |exit i=>exact absurd h (hne _ _)
    |_=>rfl
 |.loop c,t,M,ws,e,t',M',a,hin,hb,h=>by simp only[A7g]at hin;simp only[A2h]at h;obtain⟨q1,q2⟩:=D2w (λt M ws e t' M' a hb h=>A6w b hc c t M ws e t' M' a hin hb h) hb h;exact⟨q1,q2.turn (λA B e=>by simp only[A2h];exact e)⟩
 |.exit id,t,M,ws,e,t',M',a,_,_,h=>by simp only[A2h,Z0a,Z0b]at h;obtain⟨rfl,rfl,rfl,rfl⟩:=h;exact⟨C4O ⟨rfl,rfl,rfl⟩,.same λ_ _ _=>by simp only[A2h]⟩
 |.ret,t,M,ws,e,t',M',a,_,_,h=>by simp only[A2h,Z0a,Z0b]at h;obtain⟨rfl,rfl,rfl,rfl⟩:=h;exact⟨C8v ⟨rfl,rfl,rfl⟩,.same λ_ _ _=>by simp only[A2h]⟩
 |.rangeFunc _ _ _ _,t,M,ws,e,t',M',a,_,_,h=>by simp[A2h]at h
 |.scope _,t,M,ws,e,t',M',a,_,_,h=>by simp[A2h]at h
 |.goto _,t,M,ws,e,t',M',a,_,_,h=>by simp[A2h]at h
 |.refuse _,t,M,ws,e,t',M',a,_,_,h=>by simp[A2h]at h
def B4y{C}{T}{M}{s}{X}(hs:M[s]?=some A1q):∀(rs:List ResultVar) (vs:List AV),A5l C T M rs=some vs->A5l C T (M.set s X) rs=some vs
 |[],vs,h=>h
 |r::rs,vs,h=>by
  simp only[A5l]at h|-;split at h;case h_2=>simp at h
  rename_i v vs' h1 h2;rw[B4y hs rs vs' h2];have:B6f C T (M.set s X) r=some v:=by
   cases r with
   |tmp t=>exact h1
   |cell a ty=>simp only[B6f,Z1M]at h1|-;obtain⟨cs,h3,h4⟩:=h1;exact⟨cs,B3G hs h3,h4⟩
  rw[this];exact h
def B2P{C}{T}{M}{s}{X}(hs:M[s]?=some A1q){rs}{v}(h:A3x C rs T M=some v):A3x C rs T (M.set s X)=some v:=by
 unfold A3x at h|-;cases hl:A5l C T M rs with
 |none=>rw[hl]at h;simp at h
 |some vs=>rw[B4y hs rs vs hl];rw[hl]at h;exact h
abbrev D6I:=FuncId->Option (List AV->Mem->Option XR)
def C6u(C:Ctx)(intr:D6I):Prop:=∀f g,intr f=some g->∀args M v M1 ws,g args M=some (v,M1,ws)->A5q C f args M (λr m=>r=v/\m=M1)/\A9u (g args) M v M1 ws
def B9Y(C:Ctx)(fn:Func)(t:BT)(M M':Mem)(ws:List Nat):Option XR:=match A3x C fn.results.toList t.fn M' with
 |some v=>match ws,flat v with
  |[],true=>some (v,M,[])
  |_,_=>some (v,M',ws)
 |none=>none
def B2Y(C:Ctx)(intr:D6I)(fuel:Nat):Nat->B4k
 |0,_,_,_=>none
 |n+1,f,args,M=>match intr f with
  |some g=>g args M
  |none=>match C.P.funcs[f]? with
   |some fn=>match fn.body with
    |some c=>match Nat.ble args.length fn.ntmps,BT.args args 0 (BT.mk (Nat.log2 fn.ntmps+1))with
     |true,some t=>match A2h (B2Y C intr fuel n) C fuel M.length c t M []with
      |some (.normal,t,M',ws)=>B9Y C fn t M M' ws
      |some (.ret,t,M',ws)=>B9Y C fn t M M' ws
      |_=>none
     |_,_=>none
    |none=>none
   |none=>none
def B8Y(fn:Func):Bool:=match fn.body with
 |some c=>A7g fn.ntmps c&&A5D fn.ntmps fn.results.toList&&!(fn.name== "runtime.NumGoroutine")
 |none=>true
def A9G{P}{f}{fn}{c}(hf:P.funcs[f]?=some fn)(hb:fn.body=some c)(hn:(fn.name== "runtime.NumGoroutine")=false):D0Q P f:=by
 intro args w;have a:¬fn.name= "runtime.NumGoroutine":=by simpa using hn
 simp[callFunc,hf,hb,a]
def D3W{C}{fn}{t}{M M' M1}{ws ws'}{v}(hg:M.length<=M'.length)(hk:A4V M M')(ho:∀i,i<M.length->i∉ws->M'[i]?=M[i]?)(h:B9Y C fn t M M' ws=some (v,M1,ws')):
 (∃v0,A3x C fn.results.toList t.fn M'=some v0/\((v=v0/\M1=M'/\ws'=ws)\/(v=v0/\M1=M/\ws'=[]/\ws=[]/\flat v0=true)))/\
 M.length<=M1.length/\(∀i,i<M.length->i∉ws'->M1[i]?=M[i]?)/\A4V M M1/\∀(s:Nat) (X:A0p),M[s]?=some A1q->B9Y C fn t (M.set s X) (M'.set s X) ws=some (v,M1.set s X,ws'):=by
 unfold B9Y at h
 split at h
 case h_2=>simp at h
 rename_i v0 hv
 split at h
 .rename_i hfl;simp only[Z0a,Z0b]at h;obtain⟨rfl,rfl,rfl⟩:=h;exact⟨⟨v0,hv,.inr ⟨rfl,rfl,rfl,rfl,hfl⟩⟩,Z0u _,λ_ _ _=>rfl,λ_ h=>h,λs X hs=>by simp only[B9Y,B2P (hk s hs) hv,hfl]⟩
 .rename_i hne;simp only[Z0a,Z0b]at h;obtain⟨rfl,rfl,rfl⟩:=h;refine⟨⟨v0,hv,.inl ⟨rfl,rfl,rfl⟩⟩,hg,ho,hk,λs X hs=>?_⟩;simp only[B9Y,B2P (hk s hs) hv]
def C4X{C}(b:C.P.follows .mixedOrders=true){intr}(a:C6u C intr)(o:∀(f:Nat) (fn:Func),C.P.funcs[f]?=some fn->B8Y fn=true)(fuel:Nat):∀n,B4X C (B2Y C intr fuel n)
 |0=>by intro g args M v M' ws h;simp[B2Y]at h
 |n+1=>by
  intro g args M v M' ws h;simp only[B2Y]at h;split at h
  .rename_i gi hr;obtain⟨h1,h2⟩:=a g gi hr _ _ _ _ _ h;exact⟨h1,h2.grow,h2.old,h2.keep,λs X hs=>by simp only[B2Y,hr];exact h2.fill s X hs⟩
  rename_i hin;split at h;case h_2=>simp at h
  rename_i fn hf;split at h;case h_2=>simp at h
  rename_i c hb;have q:=o g fn hf;simp only[B8Y,hb,Z0f,Z1U]at q;obtain⟨⟨y,u⟩,a1⟩:=q;split at h;case h_2=>simp at h
  rename_i t hlen ht;have ih:=C4X b a o fuel n;have fin:∀e t1 M1 ws1,(e=.normal\/e=.ret)->A2h (B2Y C intr fuel n) C fuel M.length c t M []=some (e,t1,M1,ws1)->B9Y C fn t1 M M1 ws1=some (v,M',ws)->
   A5q C g args M (λr m=>r=v/\m=M')/\A9u (B2Y C intr fuel (n+1) g args) M v M' ws:=by
   intro e t1 M1 ws1 he hx p
   obtain⟨q1,q2⟩:=A6w b ih c t M [] e t1 M1 ws1 y (Z0u _) hx
   rw[BT.args_of ht]at q1
   have j:∀i,i<M.length->i∉ws1->M1[i]?=M[i]?:=λi hi hn=>q2.old (Z0u _) M (λ_ _ _=>rfl) i hi hn
   obtain⟨⟨v0,z,k⟩,r1,r2,r3,r4⟩:=D3W q2.grow q2.keep j p
   have d:A0e C g args M (λr m=>r=v0/\m=M1):=by refine B1R hf hb rfl (by simp) (by simpa using Nat.le_of_ble_eq_true hlen) u (q1.mono ?_);rintro e2 T m ⟨rfl,rfl,rfl⟩;rcases he with rfl|rfl<;>(unfold B4K;simp only;rw[z];exact⟨rfl,trivial⟩)
   refine⟨.inl ⟨A9G hf hb a1,?_⟩,r1,r2,r3,λs X hs=>?_⟩
   .rcases k with⟨rfl,rfl,rfl⟩|⟨rfl,rfl,rfl,rfl,a0⟩
    .exact d
    .refine d.cut ?_;rintro r m ⟨rfl,rfl⟩;obtain⟨Y,hY⟩:∃Y,m=M'++Y:=by
      refine⟨m.drop M'.length,?_⟩;apply Z1J;intro i;by_cases hi:i<M'.length
      .rw[Z0j hi];exact j i hi (by simp)
      .rw[Z1m (by omega),Z1a];congr 1;omega
     exact⟨Y,hY,B9k _ a0,rfl,rfl⟩
   .have l:=q2.fill s X hs;have w:=r4 s X hs;simp only[B2Y,hin,hf,hb,hlen,ht,Z1C,l];rcases he with rfl|rfl<;>exact w
  split at h
  .rename_i t1 M1 ws1 hx;exact fin _ _ _ _ (.inl rfl) hx h
  .rename_i t1 M1 ws1 hx;exact fin _ _ _ _ (.inr rfl) hx h
  .simp at h
end Go.Abs
