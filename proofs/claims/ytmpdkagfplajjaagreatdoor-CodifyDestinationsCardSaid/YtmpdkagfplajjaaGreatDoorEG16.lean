/- The texts AbsV3, AbsV4. -/
import Derived.Test.YtmpdkagfplajjaaGreatDoorEG15
set_option linter.all false
namespace Go.Abs
def A7Q(f:A4M)(slot:Nat):Nat:=match f.cls with
 |4=>slot+1
 |_=>slot
def B0T(f:A4M)(slot:Nat):A7Q f slot=if f.cls=4 then slot+1 else slot:=by
 unfold A7Q;split
 .rename_i h;rw[Z0d h]
 .rename_i h;rw[Z0e (λe=>h e)]
def B1v(call:B4C)(C:Ctx)(ops:Array Oper):List Oper->BT->Mem->Nat->Option (BT×Mem×List A4M)
 |[],t,M,_=>some (t,M,[])
 |o::rest,t,M,slot=>match B1e ops o t with
  |some true=>match A4q call C o (t.fn.ev C) M slot with
   |some (f,v,M')=>match t.set o.dst v with
    |some t'=>match B1v call C ops rest t' M' (A7Q f slot)with
     |some (t2,M2,fs)=>some (t2,M2,f::fs)
     |none=>none
    |none=>none
   |none=>none
  |some false=>match t.set o.dst (.val undef)with
   |some t'=>match B1v call C ops rest t' M slot with
    |some (t2,M2,fs)=>some (t2,M2,F0::fs)
    |none=>none
   |none=>none
  |none=>none
def C8c(L:B0O)(k:Nat)(l:List Oper)(fs:List A4M):Prop:=∀j,L.rob (k+j)=(A0y fs j).rob/\(∀i,L.aff i (k+j)=(B7t (L.rob i) (A0y fs j).ws||Nat.ble (A0y fs j).len (L.rob i)))/\((L.cls (k+j)=(A0y fs j).cls/\L.slot (k+j)=(A0y fs j).slot)\/(L.cls (k+j)=5/\(A0y fs j).cls=2/\(A0y fs j).ws=[L.slot (k+j)]/\∃o,l[j]?=some o/\A7y o=true))
def D1Z(l:List Oper)(fs:List A4M):C8c (A6O fs) 0 l fs:=λj=>by simp[A6O]
def B3d:∀(l:List Oper) (fs:List A4M) (j:Nat),A0y (A5J l fs) j=A0y fs j\/∃(o:Oper) (rob sl r len:Nat),l[j]?=some o/\A7y o=true/\A0y fs j=⟨2,rob,sl,[r],len⟩/\A0y (A5J l fs) j=⟨5,rob,r,[r],len⟩
 |[],fs,j=>.inl rfl
 |o::l,[],j=>.inl rfl
 |o::l,f::fs,j=>by
  cases j with
  |zero=>
   simp only[A0y,A5J,Z2x];unfold D3q;split
   .rename_i rob sl r len hs;exact .inr ⟨o,rob,sl,r,len,rfl,hs,rfl,rfl⟩
   .exact .inl rfl
  |succ j=>have:=B3d l fs j;simpa[A0y,A5J]using this
def C8i(l:List Oper)(fs:List A4M):C8c (A6O (A5J l fs)) 0 l fs:=λj=>by
 have key:∀i,(A0y (A5J l fs) i).rob=(A0y fs i).rob/\(A0y (A5J l fs) i).ws=(A0y fs i).ws/\(A0y (A5J l fs) i).len=(A0y fs i).len:=λi=>by
  rcases B3d l fs i with h|⟨o,rob,sl,r,len,_,_,h1,h2⟩
  .rw[h];exact⟨rfl,rfl,rfl⟩
  .rw[h1,h2];exact⟨rfl,rfl,rfl⟩
 simp only[A6O,Z0G];refine⟨(key j).1,λi=>by rw[(key j).2.1,(key j).2.2],?_⟩;rcases B3d l fs j with h|⟨o,rob,sl,r,len,h0,hs,h1,h2⟩
 .rw[h];exact .inl ⟨rfl,rfl⟩
 .rw[h1,h2];exact .inr ⟨rfl,rfl,rfl,o,h0,hs⟩
def C8c.tail{L}{k}{o}{l}{f}{fs}(h:C8c L k (o::l) (f::fs)):C8c L (k+1) l fs:=λj=>by have:=h (j+1);rw[show k+(j+1)=k+1+j from by omega]at this;simpa[A0y]using this
def B8A(base:Nat):List A4M->List Nat->List Nat
 |[],ws=>ws
 |f::fs,ws=>B8A base fs (B0G base f.ws ws)
def A3O:List Oper->Nat
 |[]=>0
 |o::l=>match B1S o with
  |true=>A3O l+1
  |false=>A3O l
def B9F{call}{C}(hc:B5c C call){base R}(b:base<=R){ops}:∀(l:List Oper) (t:BT) (M:Mem) (slot:Nat) (t':BT) (M':Mem) (fs:List A4M),B1v call C ops l t M slot=some (t',M',fs)->R<=slot->R<=M.length->
 (∀L k,C8c L k l fs->L.fl=true->A1u C HX ops L k l t.fn M (λT m=>T=t'.fn/\m=M'))/\M.length<=M'.length/\(∀s,s<R->M[s]?=some A1h->M'[s]?=some A1h)/\(∀M0 ws,Old base ws M0 M->Old base (B8A base fs ws) M0 M')/\
 (∀(s:Nat) (X:A0j),s<R->M[s]?=some A1h->B1v call C ops l t (M.set s X) slot=some (t',M'.set s X,fs))/\(∀j,(A0y fs j).cls=4->slot<=(A0y fs j).slot/\(A0y fs j).slot<slot+A3O l)/\(∀j i,j<i->(A0y fs j).cls=4->(A0y fs i).cls=4->(A0y fs j).slot≠(A0y fs i).slot)/\(∀j,(A0y fs j).cls≠5)
 |[],t,M,slot,t',M',fs,h,hs,hM=>by simp only[B1v,Z0a,Z0c]at h;obtain⟨rfl,rfl,rfl⟩:=h;exact⟨λ_ _ _ _=>⟨rfl,rfl⟩,Z0n _,λ_ _ h=>h,λ_ _ h=>h,λ_ _ _ _=>rfl,λj hj=>by simp[A0y,F0]at hj,λj i _ hj=>by simp[A0y,F0]at hj,λj=>by simp[A0y,F0]⟩
 |o::rest,t,M,slot,t',M',fs,h,hs,hM=>by
  simp only[B1v]at h;split at h
  .rename_i hgd;split at h;(case h_2=>simp at h);rename_i f v M1 ho;split at h;(case h_2=>simp at h);rename_i t1 ht;split at h;(case h_2=>simp at h);rename_i t2 M2 fs1 hr;simp only[Z0a,Z0c]at h;obtain⟨rfl,rfl,rfl⟩:=h;have hD:=C6O hc hs ho;(have e:slot<=A7Q f slot:=by rw[B0T];split<;>omega);obtain⟨i1,i2,i3,i4,i5,i6,i7,i8⟩:=B9F hc b rest t1 M1 (A7Q f slot) t2 M2 fs1 hr (by omega) (by have:=hD.grow;omega);refine⟨λL k hL hfl=>?_,Z0Q hD.grow i2,λs h1 h2=>i3 s h1 (hD.keep s h1 h2),λM0 ws h0=>i4 M0 _ (h0.add (by omega) hD.old),λs X h1 h2=>?_,λj hj=>?_,λj i hji hj hi=>?_,λj=>?_⟩
   .obtain⟨e2,e4,c⟩:=hL 0;simp only[A0y,Z2x,Z0U]at e2 e4 c;simp only[A1u];rw[B1V hgd,Z0d rfl,e2,hfl];have a:∀K:AV->Mem->Prop,K v M1->dOp C HX true (L.cls k) f.rob (L.slot k) o (t.fn.ev C) M K:=λK hk=>by
     rcases c with⟨e1,e3⟩|⟨e1,q1,q2,o',q3,q4⟩
     .rw[e1,e3];exact hD.run K hk
     .simp only[Z2P,Z0a]at q3;subst q3;rw[e1];exact hD.run5 _ q4 q1 q2 K hk
    refine a _ ⟨λi hi ha=>?_,?_⟩
    .rcases hD.len with h1|h1
     .rw[h1]
     .rw[e4 i]at ha;simp only[Z2e]at ha;refine hD.old _ ?_ (λhm=>?_)
      ·(have:¬(f.len<=L.rob i):=λd=>by rw[Z4h d]at ha;simp at ha);omega
      .rw[B3H.2 hm]at ha;simp at ha
    .rw[<-BT.set_fn ht];exact i1 L (k+1) hL.tail hfl
   .simp only[B1v,hgd,hD.fill s X h1 h2,ht,i5 s X h1 (hD.keep s h1 h2)]
   .cases j with
    |zero=>simp only[A0y,Z2x]at hj|-;obtain⟨h1,h2,_⟩:=hD.slot hj;simp only[A3O,h2];omega
    |succ j=>
     have:=i6 j (by simpa[A0y]using hj);simp only[A0y,Z3C]at this|-;rw[B0T]at this;simp only[A3O];by_cases h4:f.cls=4
     .rw[Z0d h4]at this;rw[(hD.slot h4).2.1];simp only;omega
     .rw[Z0e h4]at this;split<;>omega
   .cases i with
    |zero=>omega
    |succ i=>
     cases j with
     |zero=>simp only[A0y,Z2x,Z3C]at hj hi|-;obtain⟨h1,_,_⟩:=hD.slot hj;have:=(i6 i (by simpa[A0y]using hi)).1;rw[B0T,Z0d hj]at this;simp only[A0y]at this;omega
     |succ j=>have:=i7 j i (by omega) (by simpa[A0y]using hj) (by simpa[A0y]using hi);simpa[A0y]using this
   .cases j with
    |zero=>exact hD.no5
    |succ j=>have:=i8 j;simpa[A0y]using this
  .rename_i hgd;split at h;(case h_2=>simp at h);rename_i t1 ht;split at h;(case h_2=>simp at h);rename_i t2 M2 fs1 hr;simp only[Z0a,Z0c]at h;obtain⟨rfl,rfl,rfl⟩:=h;obtain⟨i1,i2,i3,i4,i5,i6,i7,i8⟩:=B9F hc b rest t1 M slot t2 M2 fs1 hr hs hM;refine⟨λL k hL hfl=>?_,i2,i3,λM0 ws h0=>i4 M0 _ h0,λs X h1 h2=>?_,λj hj=>?_,λj i hji hj hi=>?_,λj=>?_⟩
   .simp only[A1u];rw[B1V hgd,Z0e (by simp),<-BT.set_fn ht];exact i1 L (k+1) hL.tail hfl
   .simp only[B1v,hgd,ht,i5 s X h1 h2]
   .cases j with
    |zero=>simp[A0y,F0]at hj
    |succ j=>have:=i6 j (by simpa[A0y]using hj);simp only[A0y,Z3C,A3O]at this|-;split<;>omega
   .cases i with
    |zero=>omega
    |succ i=>
     cases j with
     |zero=>simp[A0y,F0]at hj
     |succ j=>have:=i7 j i (by omega) (by simpa[A0y]using hj) (by simpa[A0y]using hi);simpa[A0y]using this
   .cases j with
    |zero=>simp[A0y,F0]
    |succ j=>have:=i8 j;simpa[A0y]using this
  .simp at h
def D2I{ops}{fs}(h:okF ops fs=true)(h7:∀j i,j<i->(A0y fs j).cls=4->(A0y fs i).cls=4->(A0y fs j).slot≠(A0y fs i).slot)(h8:∀j,(A0y fs j).cls≠5):∃L:B0O,A4x ops L=true/\C8c L 0 ops.toList fs/\L.fl=true:=by
 unfold okF at h
 split at h
 .rename_i h0;exact⟨A6O fs,D0a h0 (λj i hji h1 h2=>h7 j i hji (h1.resolve_right (h8 j)) (h2.resolve_right (h8 i))),D1Z _ fs,rfl⟩
 .simp only[Z0g]at h;exact⟨A6O (A5J ops.toList fs),D0a h.1 (D0d h.2),C8i _ fs,rfl⟩
def B2i:Nat->Mem->Mem
 |0,M=>M
 |n+1,M=>M++List.replicate (n+1) A1h
def B0u(n:Nat)(M:Mem):B2i n M=M++List.replicate n A1h:=by
 cases n with
 |zero=>simp[B2i]
 |succ n=>rfl
abbrev XC:=Exit×BT×Mem×List Nat
def B0M(f:BT->Mem->List Nat->Option XC):Nat->BT->Mem->List Nat->Option XC
 |0,_,_,_=>none
 |n+1,t,M,ws=>match f t M ws with
  |some (.normal,t,M,ws)=>B0M f n t M ws
  |r=>r
def A2j(call:B4C)(C:Ctx)(fuel base:Nat):Code->BT->Mem->List Nat->Option XC
 |.skip,t,M,ws=>some (.normal,t,M,ws)
 |.label _,t,M,ws=>some (.normal,t,M,ws)
 |.region _ ops draw,t,M,ws=>match draw with
  |true=>match B1v call C ops ops.toList t (B2i (A3O ops.toList) M) M.length with
   |some (t',M',fs)=>match okF ops fs with
    |true=>some (.normal,t',M',B8A base fs ws)
    |false=>none
   |none=>none
  |false=>match B9i call C base ops ops.toList t M ws with
   |some s=>some (.normal,s)
   |none=>none
 |.seq x y,t,M,ws=>match A2j call C fuel base x t M ws with
  |some (.normal,t,M,ws)=>A2j call C fuel base y t M ws
  |r=>r
 |.cond c x y,t,M,ws=>match t.fn.ev C c with
  |.val (.bool true)=>A2j call C fuel base x t M ws
  |.val (.bool false)=>A2j call C fuel base y t M ws
  |_=>none
 |.block id c,t,M,ws=>match A2j call C fuel base c t M ws with
  |some (.exit i,s)=>match Nat.beq i id with
   |true=>some (.normal,s)
   |false=>some (.exit i,s)
  |r=>r
 |.loop c,t,M,ws=>B0M (A2j call C fuel base c) fuel t M ws
 |.exit id,t,M,ws=>some (.exit id,t,M,ws)
 |.ret,t,M,ws=>some (.ret,t,M,ws)
 |_,_,_,_=>none
def A6G(N:Nat):Code->Bool
 |.region _ ops _=>A2g N ops ops.toList
 |.seq x y=>A6G N x&&A6G N y
 |.cond c x y=>Operand.inside N c&&A6G N x&&A6G N y
 |.block _ c=>A6G N c
 |.loop c=>A6G N c
 |_=>true
def A4e{ops}{o}{T}{r r' s s':Prop}(hr:r->r')(hs:s->s')(h:A2i ops o T r s):A2i ops o T r' s':=by
 unfold A2i at h|-;split at h
 .exact hr h
 .split at h
  .split at h
   .split at h
    .rename_i e;rw[Z0d e];exact hr h
    .rename_i e;rw[Z0e e];exact hs h
   .exact hs h
   .exact h.elim
  .exact h.elim
def C1R{C}{h}{o}{K K':AV->Mem->Prop}{ρ:Operand->AV}{M}(hk:∀v m,K v m->K' v m)(hv:A4n C h o K ρ M):A4n C h o K' ρ M:=by
 unfold A4n at hv|-;split at hv
 .split at hv
  .exact hv.mono hk
  .exact hv.elim
 .split at hv
  .obtain⟨e,sz,bytes,h1,h2⟩:=hv;refine⟨e,sz,bytes,h1,?_⟩;split at h2
   .exact hk _ _ h2
   .exact h2.elim
  .exact hv.elim
 .split at hv
  .exact hk _ _ hv
  .exact⟨hv.1,λb=>hk _ _ (hv.2 b)⟩
def B3e{C}{h}{ops}{K K':Env->Mem->Prop}(hk:∀T m,K T m->K' T m):∀(l:List Oper) (T:Env) (M:Mem),A9p C h ops l K T M->A9p C h ops l K' T M
 |[],T,M,hv=>hk _ _ hv
 |o::rest,T,M,hv=>by simp only[A9p]at hv|-;exact A4e (λh1=>C1R (λv m h2=>B3e hk rest _ _ h2) h1) (λh1=>B3e hk rest _ _ h1) hv
def At2(e:Exit)(t:BT)(M:Mem):Exit->Env->Mem->Prop:=λe2 T m=>e2=e/\T=t.fn/\m=M
def D3w{C}{N base}{c}{f:BT->Mem->List Nat->Option XC}(hf:∀t M ws e t' M' ws',base<=M.length->f t M ws=some (e,t',M',ws')->AWp C N c (At2 e t' M') t.fn M/\B3b base (λm=>f t m ws) (λm=>(e,t',m,ws')) M M' ws ws')
 {n}{t}{M}{ws}{e}{t'}{M'}{ws'}(hb:base<=M.length)(h:B0M f n t M ws=some (e,t',M',ws')):AWp C N (.loop c) (At2 e t' M') t.fn M/\B3b base (λm=>B0M f n t m ws) (λm=>(e,t',m,ws')) M M' ws ws':=by
 have key:∀n t M ws,base<=M.length->B0M f n t M ws=some (e,t',M',ws')->B3b base (λm=>B0M f n t m ws) (λm=>(e,t',m,ws')) M M' ws ws'/\∀G w a,Inv C G M w->A2R G N t.fn a->∀b k cs,
  ∃e2 a' w',B3g C N (At2 e t' M') G w e2 a' w'/\Arrives C.P (lone (b.at a (.code c::.inLoop c::k)) cs w) b k cs e2 a' w':=by
  intro n
  induction n with
  |zero=>intro t M ws _ h;simp[B0M]at h
  |succ n ih=>
   intro t M ws hb h
   simp only[B0M]at h
   split at h
   .rename_i t1 M1 ws1 h1;obtain⟨q1,q2⟩:=hf _ _ _ _ _ _ _ hb h1;obtain⟨r1,r2⟩:=ih t1 M1 ws1 (Z0Q hb q2.grow) h;refine⟨q2.trans r1 (λA B e=>by simp only[B0M,e]),λG w a hi he b k cs=>?_⟩;obtain⟨e1,a1,w1,⟨T1,m1,G1,⟨rfl,rfl,rfl⟩,g1,i1,g,x1⟩,d⟩:=q1 G w a hi he b (.inLoop c::k) cs;obtain⟨e₂,a₂,w₂,l,i⟩:=r2 G1 w1 a1 i1 g b k cs;exact⟨e₂,a₂,w₂,B3g.mono g1 x1 l,.of_steps (Steps.trans d (.one step_inLoop)) i⟩
   .rename_i hne;obtain⟨q1,q2⟩:=hf _ _ _ _ _ _ _ hb h;(have j:e≠.normal:=by intro e1;subst e1;exact hne _ _ _ h);refine⟨q2.turn (λA B e2=>?_),λG w a hi he b k cs=>?_⟩
    .simp only[B0M,e2];cases e with
     |normal=>exact absurd rfl j
     |_=>rfl
    obtain⟨e1,a1,w1,hq,d⟩:=q1 G w a hi he b (.inLoop c::k) cs;(have g:e1=e:=by obtain⟨T1,m1,G1,⟨h1,_,_⟩,_⟩:=hq;exact h1);subst g;refine⟨_,a1,w1,hq,?_⟩;cases e1 with
    |normal=>exact absurd rfl j
    |_=>exact .pass (x:=.inLoop c) rfl (λ_ _=>.inl (by simp)) d
 obtain⟨k1,k2⟩:=key n t M ws hb h
 refine⟨λG w a hi he b k cs=>?_,k1⟩
 obtain⟨e2,a',w',hq,d⟩:=k2 G w a hi he b k cs
 exact⟨e2,a',w',hq,.of_steps (.one step_loop) d⟩
def C0k{C}{h}{ops}{L}{K K':Env->Mem->Prop}(hk:∀T m,K T m->K' T m):∀(l:List Oper) (k:Nat) (T:Env) (M:Mem),A1u C h ops L k l T M K->A1u C h ops L k l T M K':=by
 have on:∀{α:Type} (o:Option α) (f g:α->Prop),(∀a,f a->g a)->A0J o f->A0J o g:=by
  intro α o f g d ho;cases o with
  |none=>exact ho
  |some a=>exact d a ho
 have b:∀(fl:Bool) (f:Mem->Option (AV×Mem)) (M:Mem) (K K':AV->Mem->Prop),(∀v m,K v m->K' v m)->A5k fl f M K->A5k fl f M K':=by
  intro fl f M K K' hk h;unfold A5k at h|-;split at h
  .exact⟨h.1,hk _ _ h.2⟩
  .exact h
 have j:∀(fl:Bool) (c r s:Nat) (o:Oper) (ρ:Operand->AV) (M:Mem) (K K':AV->Mem->Prop),(∀v m,K v m->K' v m)->dOp C h fl c r s o ρ M K->dOp C h fl c r s o ρ M K':=by
  intro fl c r s o ρ M K K' hk hv;unfold dOp at hv|-;split at hv
  .split at hv
   .split at hv
    .rename_i e;rw[Z0d e];obtain⟨r,q1,q2⟩:=hv;exact⟨r,q1,hk _ _ q2⟩
    .rename_i e;rw[Z0e e];obtain⟨r,M1,q1,q2,q3,q4⟩:=hv;exact⟨r,M1,q1,q2,q3,hk _ _ q4⟩
   .exact hv.elim
  .split at hv
   .obtain⟨e,sz,bytes,h1,i,h2⟩:=hv;exact⟨e,sz,bytes,h1,i,b _ _ _ _ _ hk h2⟩
   .exact hv.elim
  .split at hv
   .rename_i e;rw[Z0d e];exact⟨hv.1,hv.2.1,on _ _ _ (λa h=>hk _ _ h) hv.2.2⟩
   .rename_i e;rw[Z0e e];exact⟨hv.1,b _ _ _ _ _ hk hv.2⟩
  .split at hv
   .rename_i e;rw[Z0d e];exact on _ _ _ (λa h=>hk _ _ h) hv
   .rename_i e;rw[Z0e e];split at hv
    .rename_i e1;rw[Z0d e1];exact⟨hv.1,on _ _ _ (λa h=>hk _ _ h) hv.2⟩
    .rename_i e1;rw[Z0e e1];split at hv
     .rename_i e2;rw[Z0d e2];exact⟨hv.1,on _ _ _ (λa h=>hk _ _ h) hv.2⟩
     .rename_i e2;rw[Z0e e2];exact⟨hv.1,b _ _ _ _ _ hk hv.2⟩
 intro l;induction l with
 |nil=>intro k T M hv;exact hk _ _ hv
 |cons o rest ih=>intro k T M hv;simp only[A1u]at hv|-;exact A4e (λh1=>j _ _ _ _ _ _ _ _ _ (λv m h2=>⟨h2.1,ih _ _ _ h2.2⟩) h1) (λh1=>ih _ _ _ h1) hv
def A6p{call}{C}(b:C.P.follows .mixedOrders=true)(hc:B5c C call){fuel base N}:∀(c:Code) (t:BT) (M:Mem) (ws:List Nat) (e:Exit) (t':BT) (M':Mem) (a:List Nat),A6G N c=true->base<=M.length->
 A2j call C fuel base c t M ws=some (e,t',M',a)->AWp C N c (At2 e t' M') t.fn M/\B3b base (λm=>A2j call C fuel base c t m ws) (λm=>(e,t',m,a)) M M' ws a
 |.skip,t,M,ws,e,t',M',a,_,_,h=>by simp only[A2j,Z0a,Z0c]at h;obtain⟨rfl,rfl,rfl,rfl⟩:=h;exact⟨C5n ⟨rfl,rfl,rfl⟩,.same λ_ _ _=>by simp only[A2j]⟩
 |.label l,t,M,ws,e,t',M',a,_,_,h=>by simp only[A2j,Z0a,Z0c]at h;obtain⟨rfl,rfl,rfl,rfl⟩:=h;exact⟨C1o ⟨rfl,rfl,rfl⟩,.same λ_ _ _=>by simp only[A2j]⟩
 |.region id ops draw,t,M,ws,e,t',M',a,hin,hb,h=>by
  simp only[A6G]at hin;simp only[A2j]at h;cases draw with
  |true=>
   simp only at h;split at h;(case h_2=>simp at h);rename_i t1 M1 fs hd;split at h;(case h_2=>simp at h);rename_i hok;simp only[Z0a,Z0c]at h;obtain⟨rfl,rfl,rfl,rfl⟩:=h;have u:=hd;rw[B0u]at hd;(have d:M.length<=(M++List.replicate (A3O ops.toList) A1h).length:=by simp);obtain⟨i1,i2,i3,i4,i5,i6,i7,i8⟩:=B9F hc hb ops.toList t _ M.length t1 M1 fs hd (Z0n _) d;obtain⟨L,o,f,r⟩:=D2I hok i7 i8;(have q:∀s,s<M.length->M[s]?=some A1h->(M++List.replicate (A3O ops.toList) A1h)[s]?=some A1h:=λs h1 h2=>by rw[Z0h h1];exact h2);refine⟨B1Q (A3O ops.toList) (A7G (h:=HX) b L hin o ?_ ?_),⟨Z0Q d i2,λs hs=>i3 s (A0t hs) (q s (A0t hs) hs),λhb M0 h0=>i4 M0 ws (λi hi hn=>?_),λs X hs=>?_⟩⟩
   .intro k _ hk;have j:(A0y fs k).cls=4/\L.slot k=(A0y fs k).slot:=by
     have:=(f k).2.2;rw[Z0G]at this;rcases this with⟨q1,q2⟩|⟨q1,_⟩
     .exact⟨q1.symm.trans hk,q2⟩
     .omega
    obtain⟨j1,j2⟩:=i6 k j.1;rw[j.2];rw[Z1e j1,List.getElem?_replicate,Z0d (by omega)]
   .exact C0k (λT m h=>⟨rfl,h⟩) _ _ _ _ (i1 L 0 f r)
   .rw[Z0h (by omega)];exact h0 i hi hn
   .have hl:=A0t hs;have h5:=i5 s X hl (q s hl hs);simp only[A2j,B0u,Z1l];rw[<-Z3A _ _ hl,h5];simp only[hok]
  |false=>simp only at h;split at h;(case h_2=>simp at h);rename_i s hd;simp only[Z0a,Z0c]at h;obtain⟨rfl,rfl⟩:=h;obtain⟨h1,h2⟩:=C3n hc ops.toList t M ws t' M' a hd;refine⟨B9m (h:=HX) hin ?_,h2.turn (λA B e=>by simp only[A2j,e])⟩;exact B3e (λT m h=>⟨rfl,h⟩) _ _ _ h1
 |.seq x y,t,M,ws,e,t',M',a,hin,hb,h=>by
  simp only[A6G,Z0g]at hin;simp only[A2j]at h;split at h
  .rename_i t1 M1 ws1 h1;obtain⟨q1,q2⟩:=A6p b hc x t M ws _ t1 M1 ws1 hin.1 hb h1;obtain⟨r1,r2⟩:=A6p b hc y t1 M1 ws1 e t' M' a hin.2 (Z0Q hb q2.grow) h;refine⟨C2B (q1.mono ?_),q2.trans r2 (λA B e=>by simp only[A2j,e])⟩;rintro e2 T m ⟨rfl,rfl,rfl⟩;exact r1
  .rename_i hne;obtain⟨q1,q2⟩:=A6p b hc x t M ws e t' M' a hin.1 hb h;(have p:e≠.normal:=by intro e1;subst e1;exact hne _ _ _ h);refine⟨C2B (q1.mono ?_),q2.turn (λA B e2=>?_)⟩
   .rintro e2 T m ⟨rfl,rfl,rfl⟩;cases e2 with
    |normal=>exact absurd rfl p
    |_=>exact⟨rfl,rfl,rfl⟩
   .simp only[A2j,e2];cases e with
    |normal=>exact absurd rfl p
    |_=>rfl
 |.cond c x y,t,M,ws,e,t',M',a,hin,hb,h=>by
  simp only[A6G,Z0g]at hin;simp only[A2j]at h;split at h
  .rename_i hv;obtain⟨q1,q2⟩:=A6p b hc x t M ws e t' M' a hin.1.2 hb h;exact⟨B8P hin.1.1 hv (λ_=>q1) (λe=>by simp at e),q2.turn (λA B e=>by simp only[A2j,hv];exact e)⟩
  .rename_i hv;obtain⟨q1,q2⟩:=A6p b hc y t M ws e t' M' a hin.2 hb h;exact⟨B8P hin.1.1 hv (λe=>by simp at e) (λ_=>q1),q2.turn (λA B e=>by simp only[A2j,hv];exact e)⟩
  .simp at h
 |.block id c,t,M,ws,e,t',M',a,hin,hb,h=>by
  simp only[A6G]at hin;simp only[A2j]at h;split at h
  .rename_i i s hx;obtain⟨t1,M1,ws1⟩:=s;obtain⟨q1,q2⟩:=A6p b hc c t M ws _ t1 M1 ws1 hin hb hx;split at h
   .rename_i hi;have g:=Z1E hi;simp only[Z0a,Z0c]at h;obtain⟨rfl,rfl,rfl,rfl⟩:=h;refine⟨B2o (q1.mono ?_),q2.turn (λA B e=>by simp only[A2j,e,hi])⟩;rintro e2 T m ⟨rfl,rfl,rfl⟩;simp only[A7e,g,Z0F];exact⟨rfl,rfl,rfl⟩
   .rename_i hi;(have g:i≠id:=by intro e;subst e;rw[Z4o]at hi;simp at hi);simp only[Z0a,Z0c]at h;obtain⟨rfl,rfl,rfl,rfl⟩:=h;refine⟨B2o (q1.mono ?_),q2.turn (λA B e=>by simp only[A2j,e,hi])⟩;rintro e2 T m ⟨rfl,rfl,rfl⟩;simp only[A7e,g,Z1j];exact⟨rfl,rfl,rfl⟩
  .rename_i hne;obtain⟨q1,q2⟩:=A6p b hc c t M ws e t' M' a hin hb h;refine⟨B2o (q1.mono ?_),q2.turn (λA B e2=>?_)⟩
   .rintro e2 T m ⟨rfl,rfl,rfl⟩;cases e2 with
    |exit i=>exact absurd h (hne _ _)
    |_=>exact⟨rfl,rfl,rfl⟩
   .simp only[A2j,e2];cases e with
    |exit i=>exact absurd h (hne _ _)
    |_=>rfl
 |.loop c,t,M,ws,e,t',M',a,hin,hb,h=>by simp only[A6G]at hin;simp only[A2j]at h;obtain⟨q1,q2⟩:=D3w (λt M ws e t' M' a hb h=>A6p b hc c t M ws e t' M' a hin hb h) hb h;exact⟨q1,q2.turn (λA B e=>by simp only[A2j];exact e)⟩
 |.exit id,t,M,ws,e,t',M',a,_,_,h=>by simp only[A2j,Z0a,Z0c]at h;obtain⟨rfl,rfl,rfl,rfl⟩:=h;exact⟨C5C ⟨rfl,rfl,rfl⟩,.same λ_ _ _=>by simp only[A2j]⟩
 |.ret,t,M,ws,e,t',M',a,_,_,h=>by simp only[A2j,Z0a,Z0c]at h;obtain⟨rfl,rfl,rfl,rfl⟩:=h;exact⟨C9i ⟨rfl,rfl,rfl⟩,.same λ_ _ _=>by simp only[A2j]⟩
 |.rangeFunc _ _ _ _,t,M,ws,e,t',M',a,_,_,h=>by simp[A2j]at h
 |.scope _,t,M,ws,e,t',M',a,_,_,h=>by simp[A2j]at h
 |.goto _,t,M,ws,e,t',M',a,_,_,h=>by simp[A2j]at h
 |.refuse _,t,M,ws,e,t',M',a,_,_,h=>by simp[A2j]at h
def B4l{C}{T}{M}{s}{X}(hs:M[s]?=some A1h):∀(rs:List ResultVar) (vs:List AV),A4U C T M rs=some vs->A4U C T (M.set s X) rs=some vs
 |[],vs,h=>h
 |r::rs,vs,h=>by
  simp only[A4U]at h|-;split at h;case h_2=>simp at h
  rename_i v vs' h1 h2;rw[B4l hs rs vs' h2];have:B6i C T (M.set s X) r=some v:=by
   cases r with
   |tmp t=>exact h1
   |cell a ty=>simp only[B6i,Z1M]at h1|-;obtain⟨cs,h3,h4⟩:=h1;exact⟨cs,B3A hs h3,h4⟩
  rw[this];exact h
def B2B{C}{T}{M}{s}{X}(hs:M[s]?=some A1h){rs}{v}(h:A3p C rs T M=some v):A3p C rs T (M.set s X)=some v:=by
 unfold A3p at h|-;cases hl:A4U C T M rs with
 |none=>rw[hl]at h;simp at h
 |some vs=>rw[B4l hs rs vs hl];rw[hl]at h;exact h
abbrev D8h:=FuncId->Option (List AV->Mem->Option XR)
def C7s(C:Ctx)(intr:D8h):Prop:=∀f g,intr f=some g->∀args M v M1 ws,g args M=some (v,M1,ws)->A3V C f args M (λr m=>r=v/\m=M1)/\A9l (g args) M v M1 ws
def B9Y(C:Ctx)(fn:Func)(t:BT)(M M':Mem)(ws:List Nat):Option XR:=match A3p C fn.results.toList t.fn M' with
 |some v=>match ws,flat v with
  |[],true=>some (v,M,[])
  |_,_=>some (v,M',ws)
 |none=>none
def B2I(C:Ctx)(intr:D8h)(fuel:Nat):Nat->B4C
 |0,_,_,_=>none
 |n+1,f,args,M=>match intr f with
  |some g=>g args M
  |none=>match C.P.funcs[f]? with
   |some fn=>match fn.body with
    |some c=>match Nat.ble args.length fn.ntmps,BT.args args 0 (BT.mk (Nat.log2 fn.ntmps+1))with
     |true,some t=>match A2j (B2I C intr fuel n) C fuel M.length c t M []with
      |some (.normal,t,M',ws)=>B9Y C fn t M M' ws
      |some (.ret,t,M',ws)=>B9Y C fn t M M' ws
      |_=>none
     |_,_=>none
    |none=>none
   |none=>none
def B7W(fn:Func):Bool:=match fn.body with
 |some c=>A6G fn.ntmps c&&A5e fn.ntmps fn.results.toList&&!(fn.name== "runtime.NumGoroutine")
 |none=>true
def A9m{P}{f}{fn}{c}(hf:P.funcs[f]?=some fn)(hb:fn.body=some c)(hn:(fn.name== "runtime.NumGoroutine")=false):D3Z P f:=by
 intro args w;have a:¬fn.name= "runtime.NumGoroutine":=by simpa using hn
 simp[callFunc,hf,hb,a]
def D5N{C}{fn}{t}{M M' M1}{ws ws'}{v}(hg:M.length<=M'.length)(hk:A4G M M')(ho:∀i,i<M.length->i∉ws->M'[i]?=M[i]?)(h:B9Y C fn t M M' ws=some (v,M1,ws')):
 (∃v0,A3p C fn.results.toList t.fn M'=some v0/\((v=v0/\M1=M'/\ws'=ws)\/(v=v0/\M1=M/\ws'=[]/\ws=[]/\flat v0=true)))/\
 M.length<=M1.length/\(∀i,i<M.length->i∉ws'->M1[i]?=M[i]?)/\A4G M M1/\∀(s:Nat) (X:A0j),M[s]?=some A1h->B9Y C fn t (M.set s X) (M'.set s X) ws=some (v,M1.set s X,ws'):=by
 unfold B9Y at h
 split at h
 case h_2=>simp at h
 rename_i v0 hv
 split at h
 .rename_i hfl;simp only[Z0a,Z0c]at h;obtain⟨rfl,rfl,rfl⟩:=h;exact⟨⟨v0,hv,.inr ⟨rfl,rfl,rfl,rfl,hfl⟩⟩,Z0n _,λ_ _ _=>rfl,λ_ h=>h,λs X hs=>by simp only[B9Y,B2B (hk s hs) hv,hfl]⟩
 .rename_i hne;simp only[Z0a,Z0c]at h;obtain⟨rfl,rfl,rfl⟩:=h;refine⟨⟨v0,hv,.inl ⟨rfl,rfl,rfl⟩⟩,hg,ho,hk,λs X hs=>?_⟩;simp only[B9Y,B2B (hk s hs) hv]
def C6r{C}(b:C.P.follows .mixedOrders=true){intr}(a:C7s C intr)(q:∀(f:Nat) (fn:Func),C.P.funcs[f]?=some fn->B7W fn=true)(fuel:Nat):∀n,B5c C (B2I C intr fuel n)
 |0=>by intro g args M v M' ws h;simp[B2I]at h
 |n+1=>by
  intro g args M v M' ws h;simp only[B2I]at h;split at h
  .rename_i gi hr;obtain⟨h1,h2⟩:=a g gi hr _ _ _ _ _ h;exact⟨h1,h2.grow,h2.old,h2.keep,λs X hs=>by simp only[B2I,hr];exact h2.fill s X hs⟩
  rename_i hin;split at h;case h_2=>simp at h
  rename_i fn hf;split at h;case h_2=>simp at h
  rename_i c hb;have p:=q g fn hf;simp only[B7W,hb,Z0g,Z1U]at p;obtain⟨⟨z,a1⟩,a0⟩:=p;split at h;case h_2=>simp at h
  rename_i t hlen ht;have ih:=C6r b a q fuel n;have fin:∀e t1 M1 ws1,(e=.normal\/e=.ret)->A2j (B2I C intr fuel n) C fuel M.length c t M []=some (e,t1,M1,ws1)->B9Y C fn t1 M M1 ws1=some (v,M',ws)->
   A3V C g args M (λr m=>r=v/\m=M')/\A9l (B2I C intr fuel (n+1) g args) M v M' ws:=by
   intro e t1 M1 ws1 he hx o
   obtain⟨q1,q2⟩:=A6p b ih c t M [] e t1 M1 ws1 z (Z0n _) hx
   rw[BT.args_of ht]at q1
   have j:∀i,i<M.length->i∉ws1->M1[i]?=M[i]?:=λi hi hn=>q2.old (Z0n _) M (λ_ _ _=>rfl) i hi hn
   obtain⟨⟨v0,w,k⟩,r1,r2,r3,r4⟩:=D5N q2.grow q2.keep j o
   have d:A0e C g args M (λr m=>r=v0/\m=M1):=by refine B1w hf hb rfl (by simp) (by simpa using Nat.le_of_ble_eq_true hlen) a1 (q1.mono ?_);rintro e2 T m ⟨rfl,rfl,rfl⟩;rcases he with rfl|rfl<;>(unfold B4e;simp only;rw[w];exact⟨rfl,trivial⟩)
   refine⟨.inl ⟨A9m hf hb a0,?_⟩,r1,r2,r3,λs X hs=>?_⟩
   .rcases k with⟨rfl,rfl,rfl⟩|⟨rfl,rfl,rfl,rfl,y⟩
    .exact d
    .refine d.cut ?_;rintro r m ⟨rfl,rfl⟩;obtain⟨Y,hY⟩:∃Y,m=M'++Y:=by
      refine⟨m.drop M'.length,?_⟩;apply Z1F;intro i;by_cases hi:i<M'.length
      .rw[Z0h hi];exact j i hi (by simp)
      .rw[Z1e (by omega),Z0Y];congr 1;omega
     exact⟨Y,hY,B9B _ y,rfl,rfl⟩
   .have l:=q2.fill s X hs;have u:=r4 s X hs;simp only[B2I,hin,hf,hb,hlen,ht,Z1l,l];rcases he with rfl|rfl<;>exact u
  split at h
  .rename_i t1 M1 ws1 hx;exact fin _ _ _ _ (.inl rfl) hx h
  .rename_i t1 M1 ws1 hx;exact fin _ _ _ _ (.inr rfl) hx h
  .simp at h
end Go.Abs
