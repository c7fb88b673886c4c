/- A part of the proof. -/
import Derived.Test.YtmpdkagfplajjaaGreatDoorFG15
set_option linter.all false
namespace Go.Abs
def B4r{C}{T}{M}{s}{X}(hs:M[s]?=some A1m):∀(rs:List ResultVar) (vs:List AV),A5g C T M rs=some vs->A5g C T (M.set s X) rs=some vs
 |[],vs,h=>h
 |r::rs,vs,h=>by
  simp only[A5g]at h|-;split at h;case h_2=>simp at h
  rename_i v vs' h1 h2;rw[B4r hs rs vs' h2];have:B6E C T (M.set s X) r=some v:=by
   cases r with
   |tmp t=>exact h1
   |cell a ty=>simp only[B6E,Z1S]at h1|-;obtain⟨cs,h3,h4⟩:=h1;exact⟨cs,B3I hs h3,h4⟩
  rw[this];exact h
def B2K{C}{T}{M}{s}{X}(hs:M[s]?=some A1m){rs}{v}(h:A3D C rs T M=some v):A3D C rs T (M.set s X)=some v:=by
 unfold A3D at h|-;cases hl:A5g C T M rs with
 |none=>rw[hl]at h;simp at h
 |some vs=>rw[B4r hs rs vs hl];rw[hl]at h;exact h
abbrev D9x:=FuncId->Option (List AV->Mem->Option XR)
def C8v(C:Ctx)(intr:D9x):Prop:=∀f g,intr f=some g->∀args M v M1 ws,g args M=some (v,M1,ws)->A4d C f args M (λr m=>r=v/\m=M1)/\A9H (g args) M v M1 ws
def C0H(C:Ctx)(fn:Func)(t:BT)(M M':Mem)(ws:List Nat):Option XR:=match A3D C fn.results.toList t.fn M' with
 |some v=>match ws,flat v with
  |[],true=>some (v,M,[])
  |_,_=>some (v,M',ws)
 |none=>none
def B2Q(C:Ctx)(intr:D9x)(fuel:Nat):Nat->B4H
 |0,_,_,_=>none
 |n+1,f,args,M=>match intr f with
  |some g=>g args M
  |none=>match C.P.funcs[f]? with
   |some fn=>match fn.body with
    |some c=>match Nat.ble args.length fn.ntmps,BT.args args 0 (BT.mk (Nat.log2 fn.ntmps+1))with
     |true,some t=>match A2p (B2Q C intr fuel n) C fuel M.length c t M []with
      |some (.normal,t,M',ws)=>C0H C fn t M M' ws
      |some (.ret,t,M',ws)=>C0H C fn t M M' ws
      |_=>none
     |_,_=>none
    |none=>none
   |none=>none
def B8z(fn:Func):Bool:=match fn.body with
 |some c=>A7a fn.ntmps c&&A5v fn.ntmps fn.results.toList&&!(fn.name== "runtime.NumGoroutine")
 |none=>true
def A9I{P}{f}{fn}{c}(hf:P.funcs[f]?=some fn)(hb:fn.body=some c)(hn:(fn.name== "runtime.NumGoroutine")=false):D5p P f:=by
 intro args w;have a:¬fn.name= "runtime.NumGoroutine":=by simpa using hn
 simp[callFunc,hf,hb,a]
def D6X{C}{fn}{t}{M M' M1}{ws ws'}{v}(hg:M.length<=M'.length)(hk:A4O M M')(ho:∀i,i<M.length->i∉ws->M'[i]?=M[i]?)(h:C0H C fn t M M' ws=some (v,M1,ws')):
 (∃v0,A3D C fn.results.toList t.fn M'=some v0/\((v=v0/\M1=M'/\ws'=ws)\/(v=v0/\M1=M/\ws'=[]/\ws=[]/\flat v0=true)))/\
 M.length<=M1.length/\(∀i,i<M.length->i∉ws'->M1[i]?=M[i]?)/\A4O M M1/\∀(s:Nat) (X:A0l),M[s]?=some A1m->C0H C fn t (M.set s X) (M'.set s X) ws=some (v,M1.set s X,ws'):=by
 unfold C0H at h
 split at h
 case h_2=>simp at h
 rename_i v0 hv
 split at h
 .rename_i hfl;simp only[Z0a,Z0c]at h;obtain⟨rfl,rfl,rfl⟩:=h;exact⟨⟨v0,hv,.inr ⟨rfl,rfl,rfl,rfl,hfl⟩⟩,Z0o _,λ_ _ _=>rfl,λ_ h=>h,λs X hs=>by simp only[C0H,B2K (hk s hs) hv,hfl]⟩
 .rename_i hne;simp only[Z0a,Z0c]at h;obtain⟨rfl,rfl,rfl⟩:=h;refine⟨⟨v0,hv,.inl ⟨rfl,rfl,rfl⟩⟩,hg,ho,hk,λs X hs=>?_⟩;simp only[C0H,B2K (hk s hs) hv]
def C7s{C}(b:C.P.follows .mixedOrders=true){intr}(a:C8v C intr)(q:∀(f:Nat) (fn:Func),C.P.funcs[f]?=some fn->B8z fn=true)(fuel:Nat):∀n,B5l C (B2Q C intr fuel n)
 |0=>by intro g args M v M' ws h;simp[B2Q]at h
 |n+1=>by
  intro g args M v M' ws h;simp only[B2Q]at h;split at h
  .rename_i gi hr;obtain⟨h1,h2⟩:=a g gi hr _ _ _ _ _ h;exact⟨h1,h2.grow,h2.old,h2.keep,λs X hs=>by simp only[B2Q,hr];exact h2.fill s X hs⟩
  rename_i hin;split at h;case h_2=>simp at h
  rename_i fn hf;split at h;case h_2=>simp at h
  rename_i c hb;have p:=q g fn hf;simp only[B8z,hb,Z0g,Z1Q]at p;obtain⟨⟨z,a1⟩,a0⟩:=p;split at h;case h_2=>simp at h
  rename_i t hlen ht;have ih:=C7s b a q fuel n;have fin:∀e t1 M1 ws1,(e=.normal\/e=.ret)->A2p (B2Q C intr fuel n) C fuel M.length c t M []=some (e,t1,M1,ws1)->C0H C fn t1 M M1 ws1=some (v,M',ws)->
   A4d C g args M (λr m=>r=v/\m=M')/\A9H (B2Q C intr fuel (n+1) g args) M v M' ws:=by
   intro e t1 M1 ws1 he hx o
   obtain⟨q1,q2⟩:=A6J b ih c t M [] e t1 M1 ws1 z (Z0o _) hx
   rw[BT.args_of ht]at q1
   have j:∀i,i<M.length->i∉ws1->M1[i]?=M[i]?:=λi hi hn=>q2.old (Z0o _) M (λ_ _ _=>rfl) i hi hn
   obtain⟨⟨v0,w,k⟩,r1,r2,r3,r4⟩:=D6X q2.grow q2.keep j o
   have d:A0d C g args M (λr m=>r=v0/\m=M1):=by refine B1I hf hb rfl (by simp) (by simpa using Nat.le_of_ble_eq_true hlen) a1 (q1.mono ?_);rintro e2 T m ⟨rfl,rfl,rfl⟩;rcases he with rfl|rfl<;>(unfold B4m;simp only;rw[w];exact⟨rfl,trivial⟩)
   refine⟨.inl ⟨A9I hf hb a0,?_⟩,r1,r2,r3,λs X hs=>?_⟩
   .rcases k with⟨rfl,rfl,rfl⟩|⟨rfl,rfl,rfl,rfl,y⟩
    .exact d
    .refine d.cut ?_;rintro r m ⟨rfl,rfl⟩;obtain⟨Y,hY⟩:∃Y,m=M'++Y:=by
      refine⟨m.drop M'.length,?_⟩;apply Z1K;intro i;by_cases hi:i<M'.length
      .rw[Z0h hi];exact j i hi (by simp)
      .rw[Z1n (by omega),Z1a];congr 1;omega
     exact⟨Y,hY,C0h _ y,rfl,rfl⟩
   .have l:=q2.fill s X hs;have u:=r4 s X hs;simp only[B2Q,hin,hf,hb,hlen,ht,Z1o,l];rcases he with rfl|rfl<;>exact u
  split at h
  .rename_i t1 M1 ws1 hx;exact fin _ _ _ _ (.inl rfl) hx h
  .rename_i t1 M1 ws1 hx;exact fin _ _ _ _ (.inr rfl) hx h
  .simp at h
end Go.Abs
