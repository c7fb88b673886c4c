/- The texts AbsZ5, AbsZ6, AbsZ7. -/
import Derived.Test.YtmpdkagfplajjaaGreatDoorFG17
set_option linter.all false
namespace Go.Abs
abbrev YR:=AV×HT×Nat×List Nat
abbrev A9v:=FuncId->List AV->HT->Nat->Option YR
def YOK(call:B4H)(yc:A9v):Prop:=∀g args h n M v h' n' ws,Hp h n M->yc g args h n=some (v,h',n',ws)->∃M',call g args M=some (v,M',ws)/\Hp h' n' M'
structure FO where
 o:Oper
 f:FOp
noncomputable def fos(C:Ctx)(l:List Oper):List FO:=List.rec (motive:=λ_=>List FO) [] (λo _ r=>⟨o,A3r C o⟩::r) l
def D0O{C}:fos C []=[]:=rfl
def C7k{C}{o}{l}:fos C (o::l)=⟨o,A3r C o⟩::fos C l:=rfl
noncomputable def B7i(yc:A9v)(t:BT)(f:Arg)(as:List Arg)(h:HT)(n:Nat):Option YR:=match rd t f with
 |.func (.func g) first captured=>yc g (first++as.map (rd t)++captured) h n
 |_=>none
noncomputable def eff(h:HT)(n:Nat):Option FR->Option YR
 |some (v,.non,k)=>some (v,h,n,k.ws)
 |some (v,.put b o,k)=>some (v,h.put b o,n,k.ws)
 |some (v,.push o,k)=>some (v,h.put n o,n+1,k.ws)
 |none=>none
noncomputable def D7Q(h:HT)(n:Nat)(ws:List Nat):Option (AV×Ef)->Option YR
 |some (v,.non)=>some (v,h,n,ws)
 |some (v,.put b o)=>some (v,h.put b o,n,ws)
 |some (v,.push o)=>some (v,h.put n o,n+1,ws)
 |none=>none
noncomputable def yOp(yc:A9v)(C:Ctx)(fo:FO)(t:BT)(h:HT)(n:Nat):Option YR:=match fo.f with
 |.call f as=>B7i yc t f as h n
 |.app ty u s x=>D7Q h n (A5w (rd t s)) (B7m C.P ty u (rd t s) (rd t x) h.get n)
 |f=>eff h n (A4M C fo.o f t h.get n)
def C4I{h}{n}{r}{v}{h'}{n'}{ws}(hr:eff h n r=some (v,h',n',ws)):∃e k,r=some (v,e,k)/\h'=e.ht h n/\n'=e.n n/\ws=k.ws:=by
 unfold eff at hr;split at hr
 .simp only[Z0a,Z0c]at hr;obtain⟨rfl,rfl,rfl,rfl⟩:=hr;exact⟨_,_,rfl,rfl,rfl,rfl⟩
 .simp only[Z0a,Z0c]at hr;obtain⟨rfl,rfl,rfl,rfl⟩:=hr;exact⟨_,_,rfl,rfl,rfl,rfl⟩
 .simp only[Z0a,Z0c]at hr;obtain⟨rfl,rfl,rfl,rfl⟩:=hr;exact⟨_,_,rfl,rfl,rfl,rfl⟩
 .simp at hr
def C1l{h}{n}{ws0}{r}{v}{h'}{n'}{ws}(hr:D7Q h n ws0 r=some (v,h',n',ws)):∃e,r=some (v,e)/\h'=e.ht h n/\n'=e.n n/\ws=ws0:=by
 unfold D7Q at hr;split at hr
 .simp only[Z0a,Z0c]at hr;obtain⟨rfl,rfl,rfl,rfl⟩:=hr;exact⟨_,rfl,rfl,rfl,rfl⟩
 .simp only[Z0a,Z0c]at hr;obtain⟨rfl,rfl,rfl,rfl⟩:=hr;exact⟨_,rfl,rfl,rfl,rfl⟩
 .simp only[Z0a,Z0c]at hr;obtain⟨rfl,rfl,rfl,rfl⟩:=hr;exact⟨_,rfl,rfl,rfl,rfl⟩
 .simp at hr
def B0e(o:Oper):Prop:=(∀f args ts,o.op≠.call {callee:=.value f,args:=args,argTypes:=ts})/\(∀args ts,o.op≠.call {callee:=.builtin .append,args:=args,argTypes:=ts})
def D9y:FOp->Bool
 |.call _ _=>true
 |.app _ _ _ _=>true
 |_=>false
def C8K{C}{o}(hp:B0e o):D9y (A3r C o)=false:=by
 unfold A3r;split<;>try rfl
 .split
  .split<;>rfl
  .rfl
 .rename_i heq;exact absurd heq (hp.1 _ _ _)
 .rename_i heq;exact absurd heq (hp.2 _ _)
 .split
  .split<;>rfl
  .rfl
def C5j{C}{o}(hp:B0e o):(∀f as,A3r C o≠.call f as)/\(∀t u s x,A3r C o≠.app t u s x):=by have h:=C8K (C:=C) hp;exact⟨λf as e=>by rw[e]at h;simp[D9y]at h,λt u s x e=>by rw[e]at h;simp[D9y]at h⟩
def B6a{C}(o:Oper):(∃f args ts,o.op=.call {callee:=.value f,args:=args,argTypes:=ts}/\A3r C o=.call (A3M C f) (args.toList.map (A3M C)))\/
 (∃args ts,o.op=.call {callee:=.builtin .append,args:=args,argTypes:=ts}/\((∃s x t u d,args.toList=[s,x]/\ts.toList=[t,u]/\o.dst=some d/\A3r C o=.app t u (A3M C s) (A3M C x))\/A3r C o=.gen))\/
 (B0e o/\(∀f as,A3r C o≠.call f as)/\∀t u s x,A3r C o≠.app t u s x):=by
 by_cases h1:∃f args ts,o.op=.call {callee:=.value f,args:=args,argTypes:=ts}
 .obtain⟨f,args,ts,a⟩:=h1;refine .inl ⟨f,args,ts,a,?_⟩;obtain⟨d,op,ty,p,af,g⟩:=o;simp only at a;subst a;rfl
 by_cases h2:∃args ts,o.op=.call {callee:=.builtin .append,args:=args,argTypes:=ts}
 .obtain⟨args,ts,a⟩:=h2;refine .inr (.inl ⟨args,ts,a,?_⟩);obtain⟨d,op,ty,p,af,g⟩:=o;simp only at a;subst a;simp only[A3r];split
  .rename_i s x t u ha ht;cases d with
   |none=>right;rfl
   |some d=>left;exact⟨s,x,t,u,d,ha,ht,rfl,rfl⟩
  .right;rfl
 .have hp:B0e o:=⟨λf args ts h=>h1 ⟨f,args,ts,h⟩,λargs ts h=>h2 ⟨args,ts,h⟩⟩;exact .inr (.inr ⟨hp,C5j hp⟩)
def D2A{call}{C}{o}{ρ:Operand->AV}{M}{v}{e}{k}(hp:B0e o)(h:B4G C o ρ M v e k):xOp call C o ρ M=some (v,e.mem M,k.ws):=by
 have xo:xOp call C o ρ M=(match A0q C HX o ρ with
  |some v=>some (v,M,[])
  |none=>match A0A C HX o ρ M with
   |some (v,M')=>some (v,M',A2c o ρ)
   |none=>none):=by
  unfold xOp
  split
  .rename_i heq;exact absurd heq (hp.1 _ _ _)
  .rename_i heq;exact absurd heq (hp.2 _ _)
  .rfl
 rw[xo];have hk:=h.kind;cases k with
 |pure=>
  obtain⟨h1,rfl⟩:=hk;rcases Z3z.1 h1 with h2|⟨h2,h3⟩
  .simp only[h2,Ef.mem,FK.ws]
  .simp only[h2,h.eval,Ef.mem,FK.ws];(have:A2c o ρ=[]:=by obtain⟨d,op,t,p,af,g⟩:=o;cases op<;>first|rfl|(simp[A0E]at h3;done));rw[this]
 |read r=>obtain⟨h1,h2,h3,rfl,h4⟩:=hk;simp only[Z2Z]at h1;simp only[h1.1,h.eval,Ef.mem,FK.ws,h4]
 |write ws=>obtain⟨h1,h2,rfl⟩:=hk;simp only[Z2Z]at h1;simp only[h1.1,h.eval,FK.ws]
def D9V{call}{yc}{C}(hc:YOK call yc){o}{t}{h h'}{n n'}{M}{v}{ws}(hp:Hp h n M)(hy:yOp yc C ⟨o,A3r C o⟩ t h n=some (v,h',n',ws)):∃M',xOp call C o (t.fn.ev C) M=some (v,M',ws)/\Hp h' n' M':=by
 have l:=hp.fn
 have hn:=hp.len
 have b:B0e o->eff h n (A4M C o (A3r C o) t h.get n)=some (v,h',n',ws)->∃M',xOp call C o (t.fn.ev C) M=some (v,M',ws)/\Hp h' n' M':=by intro c he;obtain⟨e,k,hr,rfl,rfl,rfl⟩:=C4I he;rw[l,<-hn]at hr;have i:=C5C hr;exact⟨_,D2A c i,hp.ef (hn▸i.ok)⟩
 rcases B6a (C:=C) o with⟨f,args,ts,a,hf⟩|⟨args,ts,a,hf⟩|⟨c,q,m⟩
 .simp only[yOp,hf]at hy;unfold B7i at hy;rw[A4Y]at hy;split at hy;case h_2=>simp at hy
  rename_i g first captured hfv
  have j:(args.toList.map (A3M C)).map (rd t)=args.toList.map (t.fn.ev C):=by rw[Z1O];exact Z1P λx _=>A4Y x
  rw[j]at hy;obtain⟨M',q1,q2⟩:=hc _ _ _ _ _ _ _ _ _ hp hy;refine⟨M',?_,q2⟩;unfold xOp;simp only[a,hfv];exact q1
 .rcases hf with⟨s,x,ty,u,d,ha,ht,hd,hf⟩|hf
  .simp only[yOp,hf]at hy;obtain⟨e,hr,rfl,rfl,rfl⟩:=C1l hy;rw[l,<-hn,A4Y,A4Y]at hr;obtain⟨k1,k2⟩:=C5O hr;refine⟨e.mem M,?_,hp.ef (hn▸k2)⟩;unfold xOp;simp only[a,ha,ht,hd,k1,A4Y]
  .exfalso;simp only[yOp,hf]at hy;obtain⟨e,k,hr,_⟩:=C4I hy;simp only[A4M]at hr;obtain⟨d,op,ty,p,af,g⟩:=o;simp only at a;subst a;simp[B0y,A0q,A6M,A0E,A0M,A5n,B4b]at hr
 .have e:yOp yc C ⟨o,A3r C o⟩ t h n=eff h n (A4M C o (A3r C o) t h.get n):=by unfold yOp;simp only
  rw[e]at hy;exact b c hy
noncomputable def C4d(ops:Array Oper)(o:Oper)(t:BT):Option Bool:=match o.guard with
 |none=>some true
 |some (j,want)=>match(ops[j]?).bind (·.dst)with
  |some d=>match t.getR d with
   |.val (.bool b)=>some (b==want)
   |.val (.tuple _)=>some false
   |_=>none
  |none=>none
def C2O(ops:Array Oper)(o:Oper)(t:BT):C4d ops o t=B1q ops o t:=by unfold C4d B1q;simp only[BT.getR_eq];rfl
noncomputable def C9q(yc:A9v)(C:Ctx)(base:Nat)(ops:Array Oper)(l:List FO):BT->HT->Nat->List Nat->Option (BT×HT×Nat×List Nat):=
 List.rec (motive:=λ_=>BT->HT->Nat->List Nat->Option (BT×HT×Nat×List Nat)) (λt h n ws=>some (t,h,n,ws))
  (λfo _ ih t h n ws=>match C4d ops fo.o t with
   |some true=>match yOp yc C fo t h n with
    |some (v,h',n',l)=>match t.setR fo.o.dst v with
     |some t'=>ih t' h' n' (B0W base l ws)
     |none=>none
    |none=>none
   |some false=>match t.setR fo.o.dst (.val undef)with
    |some t'=>ih t' h n ws
    |none=>none
   |none=>none) l
def D3C{yc}{C}{base}{ops}{t}{h}{n}{ws}:C9q yc C base ops [] t h n ws=some (t,h,n,ws):=rfl
def D2j{yc}{C}{base}{ops}{fo}{rest}{t}{h}{n}{ws}:C9q yc C base ops (fo::rest) t h n ws=match B1q ops fo.o t with
 |some true=>match yOp yc C fo t h n with
  |some (v,h',n',l)=>match t.set fo.o.dst v with
   |some t'=>C9q yc C base ops rest t' h' n' (B0W base l ws)
   |none=>none
  |none=>none
 |some false=>match t.set fo.o.dst (.val undef)with
  |some t'=>C9q yc C base ops rest t' h n ws
  |none=>none
 |none=>none:=by
 rw[<-C2O]
 simp only[<-BT.setR_eq]
 rfl
def C3q{call}{yc}{C}(hc:YOK call yc){base}{ops}:∀(l:List Oper) (t:BT) (h:HT) (n:Nat) (M:Mem) (ws:List Nat) (t':BT) (h':HT) (n':Nat) (a:List Nat),Hp h n M->C9q yc C base ops (fos C l) t h n ws=some (t',h',n',a)->
 ∃M',B9N call C base ops l t M ws=some (t',M',a)/\Hp h' n' M'
 |[],t,h,n,M,ws,t',h',n',a,hp,hy=>by rw[D0O,D3C]at hy;simp only[Z0a,Z0c]at hy;obtain⟨rfl,rfl,rfl,rfl⟩:=hy;exact⟨M,rfl,hp⟩
 |o::rest,t,h,n,M,ws,t',h',n',a,hp,hy=>by
  rw[C7k,D2j]at hy;simp only at hy;simp only[B9N];split at hy
  .rename_i hgd;split at hy;(case h_2=>simp at hy);rename_i v h1 n1 l ho;split at hy;(case h_2=>simp at hy);rename_i t1 ht;obtain⟨M1,q1,q2⟩:=D9V hc hp ho;obtain⟨M2,q3,q4⟩:=C3q hc rest t1 h1 n1 M1 (B0W base l ws) t' h' n' a q2 hy;exact⟨M2,by simp only[hgd,q1,ht,q3],q4⟩
  .rename_i hgd;split at hy;(case h_2=>simp at hy);rename_i t1 ht;obtain⟨M2,q3,q4⟩:=C3q hc rest t1 h n M ws t' h' n' a hp hy;exact⟨M2,by simp only[hgd,ht,q3],q4⟩
  .simp at hy
noncomputable def D7Y(h:HT)(n:Nat):Option FR->Option (A4V×AV×HT×Nat)
 |some (v,.non,k)=>some (k.foot n,v,h,n)
 |some (v,.put b o,k)=>some (k.foot n,v,h.put b o,n)
 |some (v,.push o,k)=>some (k.foot n,v,h.put n o,n+1)
 |none=>none
def D5W(P:Program)(o:Oper):Option A0l:=match o.op with
 |.alloc e=>A8M P e
 |_=>none
noncomputable def B7p(yc:A9v)(C:Ctx)(fo:FO)(t:BT)(h:HT)(n slot:Nat):Option (A4V×AV×HT×Nat):=match B2d fo.o with
 |true=>match D5W C.P fo.o,h.get slot with
  |some X,some (.vec 0 1 [] 0 [])=>some (⟨4,0,slot,[slot],n⟩,.vptr slot 1 0,h.put slot X,n)
  |_,_=>none
 |false=>match fo.f with
  |.call f as=>match B7i yc t f as h n with
   |some (v,h',n',l)=>some (⟨2,0,0,l,n⟩,v,h',n')
   |none=>none
  |.app ty u s x=>match D7Q h n (A5w (rd t s)) (B7m C.P ty u (rd t s) (rd t x) h.get n)with
   |some (v,h',n',l)=>some (⟨2,0,0,l,n⟩,v,h',n')
   |none=>none
  |f=>D7Y h n (A4M C fo.o f t h.get n)
def C1f{h}{n}{r}{v}{h'}{n'}{f}(hr:D7Y h n r=some (f,v,h',n')):∃e k,r=some (v,e,k)/\h'=e.ht h n/\n'=e.n n/\f=k.foot n:=by
 unfold D7Y at hr;split at hr
 .simp only[Z0a,Z0c]at hr;obtain⟨rfl,rfl,rfl,rfl⟩:=hr;exact⟨_,_,rfl,rfl,rfl,rfl⟩
 .simp only[Z0a,Z0c]at hr;obtain⟨rfl,rfl,rfl,rfl⟩:=hr;exact⟨_,_,rfl,rfl,rfl,rfl⟩
 .simp only[Z0a,Z0c]at hr;obtain⟨rfl,rfl,rfl,rfl⟩:=hr;exact⟨_,_,rfl,rfl,rfl,rfl⟩
 .simp at hr
def C0O{call}{C}{o}{ρ:Operand->AV}{M}{v}{e}{k}{slot}(hp:B0e o)(ha:B2d o=false)(h:B4G C o ρ M v e k):A4C call C o ρ M slot=some (k.foot M.length,v,e.mem M):=by
 have xo:A4C call C o ρ M slot=(match(A0q C HX o ρ).or (A0E C o ρ)with
  |some v=>some (⟨0,0,0,[],0⟩,v,M)
  |none=>match A0M o ρ with
   |some r=>match A2s C o ρ M with
    |some v=>some (⟨1,r,0,[],0⟩,v,M)
    |none=>none
   |none=>match A0A C HX o ρ M with
    |some (v,M')=>some (⟨2,0,0,A2c o ρ,M.length⟩,v,M')
    |none=>none):=by
  unfold A4C
  split
  .rename_i heq;exact absurd heq (hp.1 _ _ _)
  .rename_i heq;exact absurd heq (hp.2 _ _)
  .rename_i heq;unfold B2d at ha;rw[heq]at ha;simp at ha
  .rfl
 rw[xo];have hk:=h.kind;cases k with
 |pure=>obtain⟨h1,rfl⟩:=hk;simp only[h1,Ef.mem,FK.foot]
 |read r=>obtain⟨h1,h2,h3,rfl,_⟩:=hk;simp only[h1,h2,h3,Ef.mem,FK.foot]
 |write ws=>obtain⟨h1,h2,rfl⟩:=hk;simp only[h1,h2,h.eval,FK.foot]
def D0a{call}{yc}{C}(hc:YOK call yc){o}{t}{h h'}{n n' slot}{M}{v}{f}(hp:Hp h n M)(hy:B7p yc C ⟨o,A3r C o⟩ t h n slot=some (f,v,h',n')):∃M',A4C call C o (t.fn.ev C) M slot=some (f,v,M')/\Hp h' n' M':=by
 have m:=hp.fn
 have hn:=hp.len
 unfold B7p at hy
 simp only at hy
 split at hy
 .rename_i hal;split at hy;case h_2=>simp at hy
  rename_i X hX hM;simp only[Z0a,Z0c]at hy;obtain⟨rfl,rfl,rfl,rfl⟩:=hy;rw[hp.at_]at hM;obtain⟨d,op,ty,p,af,g⟩:=o;cases op<;>first|(simp[B2d]at hal;done)|skip
  simp only[D5W]at hX;refine⟨M.set slot X,?_,hp.put (hn▸A0x hM)⟩;simp only[A4C,hX,hM,hn]
 .rename_i hal;rcases B6a (C:=C) o with⟨fo,args,ts,a,hf⟩|⟨args,ts,a,hf⟩|⟨q,j,c⟩
  .simp only[hf]at hy;unfold B7i at hy;rw[A4Y]at hy;split at hy;(case h_2=>simp at hy);rename_i v1 h1 n1 l hyc;simp only[Z0a,Z0c]at hy;obtain⟨rfl,rfl,rfl,rfl⟩:=hy;split at hyc;(case h_2=>simp at hyc);(rename_i g first captured hfv);(have i:(args.toList.map (A3M C)).map (rd t)=args.toList.map (t.fn.ev C):=by rw[Z1O];exact Z1P λx _=>A4Y x);rw[i]at hyc;obtain⟨M',q1,q2⟩:=hc _ _ _ _ _ _ _ _ _ hp hyc;refine⟨M',?_,q2⟩;unfold A4C;simp only[a,hfv,q1,hn]
  .rcases hf with⟨s,x,ty,u,d,ha,ht,hd,hf⟩|hf
   .simp only[hf]at hy;split at hy;(case h_2=>simp at hy);rename_i v1 h1 n1 l hr0;simp only[Z0a,Z0c]at hy;obtain⟨rfl,rfl,rfl,rfl⟩:=hy;obtain⟨e,hr,rfl,rfl,rfl⟩:=C1l hr0;rw[m,<-hn,A4Y,A4Y]at hr;obtain⟨k1,k2⟩:=C5O hr;refine⟨e.mem M,?_,hp.ef (hn▸k2)⟩;unfold A4C;simp only[a,ha,ht,hd,k1,A4Y,hn]
   .exfalso;simp only[hf]at hy;obtain⟨e,k,hr,_⟩:=C1f hy;simp only[A4M]at hr;obtain⟨d,op,ty,p,af,g⟩:=o;simp only at a;subst a;simp[B0y,A0q,A6M,A0E,A0M,A5n,B4b]at hr
  .have e:D7Y h n (A4M C o (A3r C o) t h.get n)=some (f,v,h',n'):=by
    split at hy
    .rename_i heq;exact absurd heq (j _ _)
    .rename_i heq;exact absurd heq (c _ _ _ _)
    .exact hy
   obtain⟨ef,k,hr,rfl,rfl,rfl⟩:=C1f e;rw[m,<-hn]at hr;have b:=C5C hr;exact⟨_,by rw[C0O q hal b,hn],hp.ef (hn▸b.ok)⟩
noncomputable def B7A(yc:A9v)(C:Ctx)(ops:Array Oper)(l:List FO):BT->HT->Nat->Nat->Option (BT×HT×Nat×List A4V):=
 List.rec (motive:=λ_=>BT->HT->Nat->Nat->Option (BT×HT×Nat×List A4V)) (λt h n _=>some (t,h,n,[]))
  (λfo _ ih t h n slot=>match C4d ops fo.o t with
   |some true=>match B7p yc C fo t h n slot with
    |some (f,v,h',n')=>match t.setR fo.o.dst v with
     |some t'=>match ih t' h' n' (A8o f slot)with
      |some (t2,h2,n2,fs)=>some (t2,h2,n2,f::fs)
      |none=>none
     |none=>none
    |none=>none
   |some false=>match t.setR fo.o.dst (.val undef)with
    |some t'=>match ih t' h n slot with
     |some (t2,h2,n2,fs)=>some (t2,h2,n2,F0::fs)
     |none=>none
    |none=>none
   |none=>none) l
def D2R{yc}{C}{ops}{t}{h}{n slot}:B7A yc C ops [] t h n slot=some (t,h,n,[]):=rfl
def C9D{yc}{C}{ops}{fo}{rest}{t}{h}{n slot}:B7A yc C ops (fo::rest) t h n slot=match B1q ops fo.o t with
 |some true=>match B7p yc C fo t h n slot with
  |some (f,v,h',n')=>match t.set fo.o.dst v with
   |some t'=>match B7A yc C ops rest t' h' n' (A8o f slot)with
    |some (t2,h2,n2,fs)=>some (t2,h2,n2,f::fs)
    |none=>none
   |none=>none
  |none=>none
 |some false=>match t.set fo.o.dst (.val undef)with
  |some t'=>match B7A yc C ops rest t' h n slot with
   |some (t2,h2,n2,fs)=>some (t2,h2,n2,F0::fs)
   |none=>none
  |none=>none
 |none=>none:=by
 rw[<-C2O]
 simp only[<-BT.setR_eq]
 rfl
def B9t{call}{yc}{C}(hc:YOK call yc){ops}:∀(l:List Oper) (t:BT) (h:HT) (n slot:Nat) (M:Mem) (t':BT) (h':HT) (n':Nat) (fs:List A4V),Hp h n M->B7A yc C ops (fos C l) t h n slot=some (t',h',n',fs)->
 ∃M',B1H call C ops l t M slot=some (t',M',fs)/\Hp h' n' M'
 |[],t,h,n,slot,M,t',h',n',fs,hp,hy=>by rw[D0O,D2R]at hy;simp only[Z0a,Z0c]at hy;obtain⟨rfl,rfl,rfl,rfl⟩:=hy;exact⟨M,rfl,hp⟩
 |o::rest,t,h,n,slot,M,t',h',n',fs,hp,hy=>by
  rw[C7k,C9D]at hy;simp only at hy;simp only[B1H];split at hy
  .rename_i hgd;split at hy;(case h_2=>simp at hy);rename_i f v h1 n1 ho;split at hy;(case h_2=>simp at hy);rename_i t1 ht;split at hy;(case h_2=>simp at hy);rename_i t2 h2 n2 fs2 hr;simp only[Z0a,Z0c]at hy;obtain⟨rfl,rfl,rfl,rfl⟩:=hy;obtain⟨M1,q1,q2⟩:=D0a hc hp ho;obtain⟨M2,q3,q4⟩:=B9t hc rest t1 h1 n1 _ M1 _ _ _ _ q2 hr;exact⟨M2,by simp only[hgd,q1,ht,q3],q4⟩
  .rename_i hgd;split at hy;(case h_2=>simp at hy);rename_i t1 ht;split at hy;(case h_2=>simp at hy);rename_i t2 h2 n2 fs2 hr;simp only[Z0a,Z0c]at hy;obtain⟨rfl,rfl,rfl,rfl⟩:=hy;obtain⟨M2,q3,q4⟩:=B9t hc rest t1 h n _ M _ _ _ _ hp hr;exact⟨M2,by simp only[hgd,ht,q3],q4⟩
  .simp at hy
abbrev YC:=Exit×BT×HT×Nat×List Nat
noncomputable def C1w(f:BT->HT->Nat->List Nat->Option YC):Nat->BT->HT->Nat->List Nat->Option YC
 |0,_,_,_,_=>none
 |k+1,t,h,n,ws=>match f t h n ws with
  |some (.normal,t,h,n,ws)=>C1w f k t h n ws
  |r=>r
noncomputable def B7D:Nat->HT->Nat->HT
 |0,h,_=>h
 |k+1,h,n=>B7D k (h.put n A1m) (n+1)
noncomputable def A4u(yc:A9v)(C:Ctx)(fuel base:Nat)(c:Code):BT->HT->Nat->List Nat->Option YC:=
 Code.rec (motive:=λ_=>BT->HT->Nat->List Nat->Option YC)
  (λt h n ws=>some (.normal,t,h,n,ws))
  (λ_ ops draw t h n ws=>match draw with
   |true=>match B7A yc C ops (fos C ops.toList) t (B7D (A3Z ops.toList) h n) (n+A3Z ops.toList) n with
    |some (t',h',n',fs)=>match okF ops fs with
     |true=>some (.normal,t',h',n',B9f base fs ws)
     |false=>none
    |none=>none
   |false=>match C9q yc C base ops (fos C ops.toList) t h n ws with
    |some s=>some (.normal,s)
    |none=>none)
  (λ_ _ x y t h n ws=>match x t h n ws with
   |some (.normal,t,h,n,ws)=>y t h n ws
   |r=>r)
  (λc _ _ x y t h n ws=>match rd t (A3M C c)with
   |.val (.bool true)=>x t h n ws
   |.val (.bool false)=>y t h n ws
   |_=>none)
  (λid _ c t h n ws=>match c t h n ws with
   |some (.exit i,s)=>match Nat.beq i id with
    |true=>some (.normal,s)
    |false=>some (.exit i,s)
   |r=>r)
  (λ_ c t h n ws=>C1w c fuel t h n ws)
  (λ_ _ _ _ _ _ _ _ _ _=>none)
  (λid t h n ws=>some (.exit id,t,h,n,ws))
  (λ_ _ _ _ _ _=>none)
  (λ_ t h n ws=>some (.normal,t,h,n,ws))
  (λ_ _ _ _ _=>none)
  (λt h n ws=>some (.ret,t,h,n,ws))
  (λ_ _ _ _ _=>none) c
section
variable {yc:A9v} {C:Ctx} {fuel base:Nat} {t:BT} {h:HT} {n:Nat} {ws:List Nat}
def B9x:A4u yc C fuel base .skip t h n ws=some (.normal,t,h,n,ws):=rfl
def C5L{l}:A4u yc C fuel base (.label l) t h n ws=some (.normal,t,h,n,ws):=rfl
def D1Z:A4u yc C fuel base .ret t h n ws=some (.ret,t,h,n,ws):=rfl
def C8V{id}:A4u yc C fuel base (.exit id) t h n ws=some (.exit id,t,h,n,ws):=rfl
def C3M{id}{ops}{draw}:A4u yc C fuel base (.region id ops draw) t h n ws=match draw with
 |true=>match B7A yc C ops (fos C ops.toList) t (B7D (A3Z ops.toList) h n) (n+A3Z ops.toList) n with
  |some (t',h',n',fs)=>match okF ops fs with
   |true=>some (.normal,t',h',n',B9f base fs ws)
   |false=>none
  |none=>none
 |false=>match C9q yc C base ops (fos C ops.toList) t h n ws with
  |some s=>some (.normal,s)
  |none=>none:=rfl
def C2A{x y}:A4u yc C fuel base (.seq x y) t h n ws=match A4u yc C fuel base x t h n ws with
 |some (.normal,t,h,n,ws)=>A4u yc C fuel base y t h n ws
 |r=>r:=rfl
def C9e{c}{x y}:A4u yc C fuel base (.cond c x y) t h n ws=match rd t (A3M C c)with
 |.val (.bool true)=>A4u yc C fuel base x t h n ws
 |.val (.bool false)=>A4u yc C fuel base y t h n ws
 |_=>none:=rfl
def C6t{id}{c}:A4u yc C fuel base (.block id c) t h n ws=match A4u yc C fuel base c t h n ws with
 |some (.exit i,s)=>match Nat.beq i id with
  |true=>some (.normal,s)
  |false=>some (.exit i,s)
 |r=>r:=rfl
def C7X{c}:A4u yc C fuel base (.loop c) t h n ws=C1w (A4u yc C fuel base c) fuel t h n ws:=rfl
def B7f{f}{p}{a b}:A4u yc C fuel base (.rangeFunc f p a b) t h n ws=none:=rfl
def C5f{c}:A4u yc C fuel base (.scope c) t h n ws=none:=rfl
def B9J{l}:A4u yc C fuel base (.goto l) t h n ws=none:=rfl
def C3a{s}:A4u yc C fuel base (.refuse s) t h n ws=none:=rfl
end
def C1L:∀(k:Nat) (h:HT) (n:Nat) (M:Mem),Hp h n M->Hp (B7D k h n) (n+k) (B2s k M)
 |0,h,n,M,hp=>hp
 |k+1,h,n,M,hp=>by have ih:=C1L k (h.put n A1m) (n+1) (M++[A1m]) hp.push;rw[B0L]at ih|-;rw[show n+(k+1)=n+1+k from by omega];simp only[B7D];rw[Z2b,<-List.append_cons]at*;exact ih
def C6z{f:BT->HT->Nat->List Nat->Option YC}{fx:BT->Mem->List Nat->Option XC}(hf:∀t h n M ws e t' h' n' a,Hp h n M->f t h n ws=some (e,t',h',n',a)->∃M',fx t M ws=some (e,t',M',a)/\Hp h' n' M'):
 ∀(k:Nat) (t:BT) (h:HT) (n:Nat) (M:Mem) (ws:List Nat) (e:Exit) (t':BT) (h':HT) (n':Nat) (a:List Nat),Hp h n M->C1w f k t h n ws=some (e,t',h',n',a)->∃M',B1b fx k t M ws=some (e,t',M',a)/\Hp h' n' M'
 |0,t,h,n,M,ws,e,t',h',n',a,hp,hy=>by simp[C1w]at hy
 |k+1,t,h,n,M,ws,e,t',h',n',a,hp,hy=>by
  simp only[C1w]at hy;simp only[B1b];split at hy
  .rename_i t1 h1 n1 ws1 hr;obtain⟨M1,q1,q2⟩:=hf _ _ _ _ _ _ _ _ _ _ hp hr;obtain⟨M2,q3,q4⟩:=C6z hf k t1 h1 n1 M1 ws1 e t' h' n' a q2 hy;exact⟨M2,by simp only[q1,q3],q4⟩
  .rename_i hne;obtain⟨M1,q1,q2⟩:=hf _ _ _ _ _ _ _ _ _ _ hp hy;refine⟨M1,?_,q2⟩;rw[q1];cases e with
   |normal=>exact absurd hy (hne _ _ _ _)
   |_=>rfl
def A5S{call}{yc}{C}(hc:YOK call yc){fuel base}:∀(c:Code) (t:BT) (h:HT) (n:Nat) (M:Mem) (ws:List Nat) (e:Exit) (t':BT) (h':HT) (n':Nat) (a:List Nat),Hp h n M->A4u yc C fuel base c t h n ws=some (e,t',h',n',a)->
 ∃M',A2p call C fuel base c t M ws=some (e,t',M',a)/\Hp h' n' M'
 |.skip,t,h,n,M,ws,e,t',h',n',a,hp,hy=>by rw[B9x]at hy;simp only[Z0a,Z0c]at hy;obtain⟨rfl,rfl,rfl,rfl,rfl⟩:=hy;exact⟨M,by simp only[A2p],hp⟩
 |.label l,t,h,n,M,ws,e,t',h',n',a,hp,hy=>by rw[C5L]at hy;simp only[Z0a,Z0c]at hy;obtain⟨rfl,rfl,rfl,rfl,rfl⟩:=hy;exact⟨M,by simp only[A2p],hp⟩
 |.region id ops draw,t,h,n,M,ws,e,t',h',n',a,hp,hy=>by
  rw[C3M]at hy;simp only[A2p];cases draw with
  |true=>simp only at hy|-;split at hy;(case h_2=>simp at hy);rename_i t1 h1 n1 fs hd;split at hy;(case h_2=>simp at hy);rename_i hok;simp only[Z0a,Z0c]at hy;obtain⟨rfl,rfl,rfl,rfl,rfl⟩:=hy;obtain⟨M1,q1,q2⟩:=B9t hc ops.toList t _ _ _ _ _ _ _ _ (C1L (A3Z ops.toList) h n M hp) hd;exact⟨M1,by rw[hp.len];simp only[q1,hok],q2⟩
  |false=>simp only at hy|-;split at hy;(case h_2=>simp at hy);rename_i s hd;simp only[Z0a,Z0c]at hy;obtain⟨rfl,rfl⟩:=hy;obtain⟨M1,q1,q2⟩:=C3q hc ops.toList t h n M ws _ _ _ _ hp hd;exact⟨M1,by simp only[q1],q2⟩
 |.seq x y,t,h,n,M,ws,e,t',h',n',a,hp,hy=>by
  rw[C2A]at hy;simp only[A2p];split at hy
  .rename_i t1 h1 n1 ws1 hr;obtain⟨M1,q1,q2⟩:=A5S hc x t h n M ws _ _ _ _ _ hp hr;obtain⟨M2,q3,q4⟩:=A5S hc y t1 h1 n1 M1 ws1 e t' h' n' a q2 hy;exact⟨M2,by simp only[q1,q3],q4⟩
  .rename_i hne;obtain⟨M1,q1,q2⟩:=A5S hc x t h n M ws _ _ _ _ _ hp hy;refine⟨M1,?_,q2⟩;rw[q1];cases e with
   |normal=>exact absurd hy (hne _ _ _ _)
   |_=>rfl
 |.cond c x y,t,h,n,M,ws,e,t',h',n',a,hp,hy=>by
  rw[C9e]at hy;simp only[A4Y]at hy;simp only[A2p];split at hy
  .rename_i hv;obtain⟨M1,q1,q2⟩:=A5S hc x t h n M ws _ _ _ _ _ hp hy;exact⟨M1,by simp only[hv,q1],q2⟩
  .rename_i hv;obtain⟨M1,q1,q2⟩:=A5S hc y t h n M ws _ _ _ _ _ hp hy;exact⟨M1,by simp only[hv,q1],q2⟩
  .simp at hy
 |.block id c,t,h,n,M,ws,e,t',h',n',a,hp,hy=>by
  rw[C6t]at hy;simp only[A2p];split at hy
  .rename_i i s hr;obtain⟨t1,h1,n1,ws1⟩:=s;obtain⟨M1,q1,q2⟩:=A5S hc c t h n M ws _ _ _ _ _ hp hr;split at hy
   .rename_i hi;simp only[Z0a,Z0c]at hy;obtain⟨rfl,rfl,rfl,rfl,rfl⟩:=hy;exact⟨M1,by simp only[q1,hi],q2⟩
   .rename_i hi;simp only[Z0a,Z0c]at hy;obtain⟨rfl,rfl,rfl,rfl,rfl⟩:=hy;exact⟨M1,by simp only[q1,hi],q2⟩
  .rename_i hne;obtain⟨M1,q1,q2⟩:=A5S hc c t h n M ws _ _ _ _ _ hp hy;refine⟨M1,?_,q2⟩;rw[q1];cases e with
   |exit i=>exact absurd hy (hne _ _)
   |_=>rfl
 |.loop c,t,h,n,M,ws,e,t',h',n',a,hp,hy=>by rw[C7X]at hy;simp only[A2p];exact C6z (λt h n M ws e t' h' n' a hp hy=>A5S hc c t h n M ws e t' h' n' a hp hy) fuel t h n M ws e t' h' n' a hp hy
 |.exit id,t,h,n,M,ws,e,t',h',n',a,hp,hy=>by rw[C8V]at hy;simp only[Z0a,Z0c]at hy;obtain⟨rfl,rfl,rfl,rfl,rfl⟩:=hy;exact⟨M,by simp only[A2p],hp⟩
 |.ret,t,h,n,M,ws,e,t',h',n',a,hp,hy=>by rw[D1Z]at hy;simp only[Z0a,Z0c]at hy;obtain⟨rfl,rfl,rfl,rfl,rfl⟩:=hy;exact⟨M,by simp only[A2p],hp⟩
 |.rangeFunc _ _ _ _,t,h,n,M,ws,e,t',h',n',a,hp,hy=>by rw[B7f]at hy;simp at hy
 |.scope _,t,h,n,M,ws,e,t',h',n',a,hp,hy=>by rw[C5f]at hy;simp at hy
 |.goto _,t,h,n,M,ws,e,t',h',n',a,hp,hy=>by rw[B9J]at hy;simp at hy
 |.refuse _,t,h,n,M,ws,e,t',h',n',a,hp,hy=>by rw[C3a]at hy;simp at hy
noncomputable def C8F(C:Ctx)(t:BT)(g:GT):ResultVar->Option AV
 |.tmp i=>some (t.get i)
 |.cell a ty=>(B9L g (t.get a)).bind (A1g C.P ty)
noncomputable def B4i(C:Ctx)(t:BT)(g:GT):List ResultVar->Option (List AV)
 |[]=>some []
 |r::rs=>match C8F C t g r,B4i C t g rs with
  |some v,some vs=>some (v::vs)
  |_,_=>none
noncomputable def C3Z(C:Ctx)(rs:List ResultVar)(t:BT)(g:GT):Option AV:=match B4i C t g rs with
 |some [v]=>some v
 |some vs=>some (.tuple vs)
 |none=>none
def C1O{C}{t}{M}:∀rs:List ResultVar,A5g C t.fn M rs=B4i C t (λi=>M[i]?) rs
 |[]=>rfl
 |r::rs=>by
  simp only[A5g,B4i,C1O rs];have:B6E C t.fn M r=C8F C t (λi=>M[i]?) r:=by
   cases r with
   |tmp i=>rfl
   |cell a ty=>simp only[B6E,C8F,D0X];rfl
  rw[this];rfl
def D3R{C}{t}{M}(rs:List ResultVar):A3D C rs t.fn M=C3Z C rs t (λi=>M[i]?):=by unfold A3D C3Z;rw[C1O];rfl
abbrev C5N:=FuncId->Option (List AV->(Nat->Option A0l)->Option AV)
def B2X(yi:C5N):D9x:=λf=>match yi f with
 |some g=>some (λargs M=>match g args (λi=>M[i]?)with|some v=>some (v,M,[])|none=>none)
 |none=>none
noncomputable def D5n(C:Ctx)(fn:Func)(t:BT)(h0:HT)(n0:Nat)(h:HT)(n:Nat)(ws:List Nat):Option YR:=match C3Z C fn.results.toList t h.get with
 |some v=>match ws,flat v with
  |[],true=>some (v,h0,n0,[])
  |_,_=>some (v,h,n,ws)
 |none=>none
noncomputable def B2R(C:Ctx)(yi:C5N)(fuel:Nat):Nat->A9v
 |0,_,_,_,_=>none
 |k+1,f,args,h,n=>match yi f with
  |some g=>match g args h.get with
   |some v=>some (v,h,n,[])
   |none=>none
  |none=>match C.P.funcs[f]? with
   |some fn=>match fn.body with
    |some c=>match Nat.ble args.length fn.ntmps,BT.args args 0 (BT.mk (Nat.log2 fn.ntmps+1))with
     |true,some t=>match A4u (B2R C yi fuel k) C fuel n c t h n []with
      |some (.normal,t,h',n',ws)=>D5n C fn t h n h' n' ws
      |some (.ret,t,h',n',ws)=>D5n C fn t h n h' n' ws
      |_=>none
     |_,_=>none
    |none=>none
   |none=>none
def D0R{C}{fn}{t}{h0 h h'}{n0 n n'}{M0 M}{ws ws'}{v}(a:Hp h0 n0 M0)(hp:Hp h n M)(hy:D5n C fn t h0 n0 h n ws=some (v,h',n',ws')):∃M',C0H C fn t M0 M ws=some (v,M',ws')/\Hp h' n' M':=by
 unfold D5n at hy;unfold C0H;rw[D3R,<-hp.fn];split at hy;case h_2=>simp at hy
 rename_i v0 hv;rw[hv];simp only;split at hy
 .rename_i hfl;simp only[Z0a,Z0c]at hy;obtain⟨rfl,rfl,rfl,rfl⟩:=hy;exact⟨M0,by simp only[hfl],a⟩
 .rename_i hne;simp only[Z0a,Z0c]at hy;obtain⟨rfl,rfl,rfl,rfl⟩:=hy;refine⟨M,?_,hp⟩;split
  .rename_i hfl;exact(hne rfl hfl).elim
  .rfl
def B9O{C}{yi}{fuel}:∀k,YOK (B2Q C (B2X yi) fuel k) (B2R C yi fuel k)
 |0=>by intro g args h n M v h' n' ws hp hy;simp[B2R]at hy
 |k+1=>by
  intro g args h n M v h' n' ws hp hy;simp only[B2R]at hy;simp only[B2Q];split at hy
  .rename_i gi hg;split at hy;(case h_2=>simp at hy);rename_i u hu;rw[hp.fn]at hu;simp only[Z0a,Z0c]at hy;obtain⟨rfl,rfl,rfl,rfl⟩:=hy;exact⟨M,by simp only[B2X,hg,hu],hp⟩
  rename_i hg;have hi:B2X yi g=none:=by simp only[B2X,hg]
  rw[hi];simp only;split at hy;case h_2=>simp at hy
  rename_i fn hf;rw[hf];simp only;split at hy;case h_2=>simp at hy
  rename_i c hb;rw[hb];simp only;split at hy;case h_2=>simp at hy
  rename_i t hlen ht;rw[hlen,ht];simp only;split at hy
  .rename_i t1 h1 n1 ws1 hc;obtain⟨M1,q1,q2⟩:=A5S (B9O k) c t h n M [] _ _ _ _ _ hp hc;obtain⟨M2,q3,q4⟩:=D0R hp q2 hy;exact⟨M2,by rw[hp.len,q1];exact q3,q4⟩
  .rename_i t1 h1 n1 ws1 hc;obtain⟨M1,q1,q2⟩:=A5S (B9O k) c t h n M [] _ _ _ _ _ hp hc;obtain⟨M2,q3,q4⟩:=D0R hp q2 hy;exact⟨M2,by rw[hp.len,q1];exact q3,q4⟩
  .simp at hy
noncomputable def D0A(C:Ctx)(yi:C5N)(fuel k:Nat)(f:FuncId):Bool:=match B2R C yi fuel k f [] .nil 0 with
 |some (.val (.bool true),_,0,_)=>true
 |_=>false
def C6O{C}(b:C.P.follows .mixedOrders=true){yi}(a:C8v C (B2X yi))(c:∀(f:Nat) (fn:Func),C.P.funcs[f]?=some fn->B8z fn=true){fuel k}{f}(h:D0A C yi fuel k f=true):A4d C f [] [] (λr m=>r=.val (.bool true)/\m=[]):=by
 unfold D0A at h
 split at h
 case h_2=>simp at h
 rename_i h' ws hr
 obtain⟨M',q1,q2⟩:=B9O k f [] .nil 0 [] _ _ _ _ ⟨rfl,λi=>by simp[HT.get]⟩ hr
 have:M'=[]:=Z0z q2.len
 subst this
 exact(C7s b a c fuel k _ _ _ _ _ _ q1).1
def C8A:Nat->Code->Code
 |0,_=>.skip
 |k+1,.seq x y=>.seq x (C8A k y)
 |_+1,_=>.goto 0
def C2i:Nat->Code->Code
 |0,c=>c
 |k+1,.seq _ y=>C2i k y
 |_+1,c=>c
def C2w{yc}{C}{fuel base}{r}:∀(k:Nat) (c:Code) (t:BT) (h:HT) (n:Nat) (ws:List Nat) (t1:BT) (h1:HT) (n1:Nat) (ws1:List Nat),
 A4u yc C fuel base (C8A k c) t h n ws=some (.normal,t1,h1,n1,ws1)->A4u yc C fuel base (C2i k c) t1 h1 n1 ws1=some r->A4u yc C fuel base c t h n ws=some r
 |0,c,t,h,n,ws,t1,h1,n1,ws1,e1,e2=>by simp only[C8A]at e1;rw[B9x]at e1;simp only[Z0a,Z0c]at e1;obtain⟨_,rfl,rfl,rfl,rfl⟩:=e1;exact e2
 |k+1,c,t,h,n,ws,t1,h1,n1,ws1,e1,e2=>by
  cases c with
  |seq x y=>
   simp only[C8A]at e1;simp only[C2i]at e2;rw[C2A]at e1|-;split at e1
   .rename_i t2 h2 n2 ws2 hx;exact C2w k y t2 h2 n2 ws2 t1 h1 n1 ws1 e1 e2
   .rename_i hne;exact absurd e1 (hne _ _ _ _)
  |_=>simp only[C8A]at e1;rw[B9J]at e1;simp at e1
noncomputable def mkT(k:Nat)(l:List (Nat×AV)):BT:=List.rec (motive:=λ_=>BT) (BT.mk k) (λp _ t=>match t.putR p.1 p.2 with|some t=>t|none=>t) l
noncomputable def E6B(l:List A0l):Nat->HT->HT:=List.rec (motive:=λ_=>Nat->HT->HT) (λ_ h=>h) (λo _ ih n h=>ih (n+1) (h.put n o)) l
noncomputable def mkH(l:List A0l):HT:=E6B l 0 .nil
noncomputable def B1P(C:Ctx)(fn:Func):Option YC->Bool
 |some (.ret,t,h,n,ws)=>match D5n C fn t .nil 0 h n ws with
  |some (.val (.bool true),_,0,_)=>true
  |_=>false
 |_=>false
def D3a{C:Ctx}{yi:C5N}{fuel k f:Nat}{fn:Func}{c:Code}{t0 t1:BT}{h1:HT}{n1:Nat}{ws1:List Nat}(j:Nat)(hi:yi f=none)(hf:C.P.funcs[f]?=some fn)(hb:fn.body=some c)
 (ht:BT.args [] 0 (BT.mk (Nat.log2 fn.ntmps+1))=some t0)(e1:A4u (B2R C yi fuel k) C fuel 0 (C8A j c) t0 .nil 0 []=some (.normal,t1,h1,n1,ws1))
 (e2:B1P C fn (A4u (B2R C yi fuel k) C fuel 0 (C2i j c) t1 h1 n1 ws1)=true):D0A C yi fuel (k+1) f=true:=by
 cases hr:A4u (B2R C yi fuel k) C fuel 0 (C2i j c) t1 h1 n1 ws1 with
 |none=>rw[hr]at e2;simp[B1P]at e2
 |some r=>
  have hc:=C2w j c t0 .nil 0 [] t1 h1 n1 ws1 e1 hr
  rw[hr]at e2
  obtain⟨e,t,h,n,ws⟩:=r
  cases e<;>first|(simp[B1P]at e2;done)|skip
  simp only[B1P]at e2
  have hl:Nat.ble (List.length ([]:List AV)) fn.ntmps=true:=Z4m (Z3f _)
  unfold D0A B2R
  simp only[hi,hf,hb,hl,ht,hc]
  exact e2
end Go.Abs
