/- The texts CeY, CeZ, CfC, CfD, CfE, CfF, CfG, CfH, CbX4, CbX5, CbX6. -/
import Derived.Test.YtmpdkagfplajjaaGreatDoorEG36
import Derived.Test.YtmpdkagfplajjaaGreatDoorEG35
import Derived.Test.YtmpdkagfplajjaaGreatDoorEG25
set_option linter.all false
set_option maxRecDepth 100000
namespace Go.Abs
open Go.Proofs TryTypes Tryz
def C5w:∀(l:List (Nat×A0j)) (M:Mem),(fill M l).length=M.length
 |[],M=>rfl
 |p::l,M=>by show(fill (M.set p.1 p.2) l).length=_;rw[C5w l];simp
def C5o:∀(l:List (Nat×A0j)) (M X:Mem),(∀p∈l,p.1<M.length)->fill (M++X) l=fill M l++X
 |[],M,X,_=>rfl
 |p::l,M,X,h=>by show fill ((M++X).set p.1 p.2) l=fill (M.set p.1 p.2) l++X;have hp:=h p (by simp);rw[Z3A _ _ hp,C5o l _ _ λq hq=>by have:=h q (by simp[hq]);simpa using this]
def C1g{C:Ctx}{g:FuncId}{args:List AV}{M X:Mem}{r:Nat->AV}(h:∀M,A3V C g args M (λv M'=>v=r M.length/\M'=M++X)):C7P C g args M (r M.length) (M++X):=by refine⟨λs hs=>by rw[Z0h (Z0b.1 hs).1];exact hs,λl hb=>?_⟩;have:=h (fill M l);rw[C5w]at this;rw[C5o l M X λp hp=>(Z0b.1 (hb.1 p hp)).1];exact this
def C8s{f:Mem->Option (AV×Mem)}(ha:∀M v M1,f M=some (v,M1)->∃ws,A7A f M v M1 ws){M M1:Mem}{v:AV}(h:f M=some (v,M1)):D7W f M v M1:=by
 obtain⟨ws,h1⟩:=ha _ _ _ h;refine⟨h1.keep,λl=>?_⟩;clear h1;induction l generalizing M M1 with
 |nil=>intro _;exact h
 |cons p l ih=>intro hb;obtain⟨b1,b2⟩:=A8F hb;obtain⟨ws,h2⟩:=ha _ _ _ h;exact ih (h2.fill p.1 p.2 b1) b2
def B7l{ops:Array Oper}{cls:Nat->Nat}{aff:Nat->Nat->Bool}{fl:Bool}{r s:Nat}(h:r≠s):A4x ops ⟨cls,λ_=>r,λ_=>s,aff,fl⟩=A4x ops ⟨cls,λ_=>1,λ_=>0,aff,fl⟩:=by
 have e:(r==s)=false:=by simpa using h
 have e2:(s !=s)=false:=by simp
 simp only[A4x,A1J,e,e2];rfl
section
variable {C:Ctx} {h:A2r} {ops:Array Oper} {L:B0O} {k:Nat} {d:Option Tmp} {op:Op} {t:TypeId} {p:String} {af:Array Edge} {rest:List Oper} {T:Env} {M:Mem} {K:Env->Mem->Prop} {v:AV}
def B4S{fl:Bool}{c r s:Nat}{o:Oper}{ρ:Operand->AV}{K:AV->Mem->Prop}(h1:B5F o.op=false)(h3:∀e,o.op≠.alloc e) (hp:if c=0 then A0J ((A0n C h o ρ).or (A0B C o ρ)) (λv=>K v M)else if c=1 then A0R o ρ=some r/\A0J (A2m C o ρ M) (λv=>K v M)else if c=5 then A5D o ρ=some s/\A0J (A0w C h o ρ M) (λr=>K r.1 r.2)else c=2/\A5k fl (A0w C h o ρ) M K):dOp C h fl c r s o ρ M K:=by
 unfold dOp
 split
 .rename_i heq;rw[heq]at h1;simp[B5F]at h1
 .rename_i heq;rw[heq]at h1;simp[B5F]at h1
 .rename_i heq;exact absurd heq (h3 _)
 .exact hp
def A5M(b:B5F op=false)(a:∀e,op≠.alloc e)(hc:L.cls k=0)(he:pOp C h ⟨d,op,t,p,af,none⟩ (T.ev C)=some v)(hk:A1u C h ops L (k+1) rest (T.put d v) M K):A1u C h ops L k (⟨d,op,t,p,af,none⟩::rest) T M K:=by simp only[A1u,A6i];refine B4S b a ?_;rw[Z0d hc,A7U he];exact⟨λi _ _=>rfl,hk⟩
def C9x{mt:TypeId}{m x:Operand}{ok:Bool}(hc:L.cls k=1)(ho:A0R ⟨d,.lookup mt m x ok,t,p,af,none⟩ (T.ev C)=some (L.rob k))(he:A1z C.P mt M (T.ev C m) (T.ev C x) ok=some v)(hk:A1u C h ops L (k+1) rest (T.put d v) M K):A1u C h ops L k (⟨d,.lookup mt m x ok,t,p,af,none⟩::rest) T M K:=by simp only[A1u,A6i];refine B4S rfl (by simp) ?_;rw[Z0e (by omega),Z0d hc];refine⟨ho,?_⟩;simp only[A2m,he];exact⟨λi _ _=>rfl,hk⟩
def C5l{e:TypeId}{X:A0j}{s:Nat}(hc:L.cls k=4)(a:L.fl=true)(hs:L.slot k=s)(hb:M[s]?=some A1h)(hX:A8o C.P e=some X)(hq:∀i,L.rob i≠s)(hk:A1u C h ops L (k+1) rest (T.put d (.vptr s 1 0)) (M.set s X) K):A1u C h ops L k (⟨d,.alloc e,t,p,af,none⟩::rest) T M K:=by simp only[A1u,A6i];simp only[dOp];rw[Z0d hc,hs,hX];exact⟨a,hb,λi _ _=>Z0f (λe=>hq i e.symm),hk⟩
def C4B{st:TypeId}{a x:Operand}{s:Nat}{X:A0j}(hc:L.cls k=2)(he:A0w C h ⟨d,.store st a x,t,p,af,none⟩ (T.ev C) M=some (v,M.set s X))(hq:∀i,L.rob i≠s)(hk:A1u C h ops L (k+1) rest (T.put d v) (M.set s X) K):A1u C h ops L k (⟨d,.store st a x,t,p,af,none⟩::rest) T M K:=by simp only[A1u,A6i];refine B4S rfl (by simp) ?_;rw[Z0e (by omega),Z0e (by omega),Z0e (by omega)];refine⟨hc,?_⟩;unfold A5k;rw[he];exact⟨λ_=>C8s (λM v M1 h1=>⟨_,A8G h1⟩) he,λi _ _=>Z0f (λe=>hq i e.symm),hk⟩
def C9S{f:Operand}{args:List Operand}{ts:Array TypeId}{g:FuncId}{first cap:List AV}{M1:Mem}(hc:L.cls k=2)(hf:T.ev C f=.func (.func g) first cap)(hi:A3V C g (first++args.map (T.ev C)++cap) M (λr m=>r=v/\m=M1))(a:C7P C g (first++args.map (T.ev C)++cap) M v M1)
 (hq:∀i,L.cls i=1->L.aff i k=false->M1[L.rob i]?=M[L.rob i]?)(hk:A1u C h ops L (k+1) rest (T.put d v) M1 K):A1u C h ops L k (⟨d,.call {callee:=.value f,args:=args.toArray,argTypes:=ts},t,p,af,none⟩::rest) T M K:=by
 simp only[A1u,A6i]
 simp only[dOp,hf]
 rw[Z0e (by omega)]
 exact⟨v,M1,hc,hi,λ_=>a,hq,hk⟩
end
def C9G:A8o prog 260=some (.vec 260 2 [.val .nilFunc,.val .nilFunc] 1 [(1,1)]):=by kernel_rfl
def C9w{M:Mem}{b:Nat}{k:Int}{i:Nat}{v:AV}(h0:M[b]?=some (.map ruE 12))(h4:A2I prog 3 (I k) ruE=some (some (i,v))):A1z prog 262 M (.mapr b) (I k) true=some (.tuple [v,B true]):=C3U h0 (kt:=3) (et:=260) (by kernel_rfl) (by kernel_rfl) rfl h4
section
variable (gl:Nat->AV)
def C3u(aa:gl 3=.cptr [fnV 444,fnV 445])(p:List A0G)(M:Mem)(hl:p.length<=9)(hp:∀i (h:i<p.length),B8f i p[i]):A0e (WC gl) 190 [.agg (A1y.rep p).row] M (λv M'=>v=B true/\M'=M):=by
 refine A3Z (λ_=>trivial) ?_;obtain⟨s,hs⟩:∃s,s=M.length:=⟨_,rfl⟩;obtain⟨M1,d⟩:∃M1,M1=M++List.replicate 1 A1h:=⟨_,rfl⟩;have a7:M1[s]?=some A1h:=by rw[d,hs];simp
 have o:M1.length=s+1:=by rw[d,hs];simp
 obtain⟨M2,a⟩:∃M2,M2=M1++[A0j.map ruE 12]:=⟨_,rfl⟩;have ab:M2[s+1]?=some (.map ruE 12):=by rw[a,<-o];simp
 have a3:M2[s]?=some A1h:=by rw[a,Z0h (by omega)];exact a7
 have a2:∀M,A3V (WC gl) 239 [] M (λv M'=>v=.mapr M.length/\M'=M++[.map ruE 12]):=λM=>A1T func239 rfl rfl (B5P gl aa M);have t:=a2 M1;have a6:=C1g (r:=λn=>.mapr n) (λM=>a2 M) (M:=M1);rw[<-a,o]at t a6;refine A0m hB func190 ?_;simp -dsimp -implicitDefEqProofs[A1y.row];refine B1Q 1 ?_;rw[<-d];refine A7G (h:=hB) (A0I gl) ⟨λk=>if k=0\/k=8 then 2 else if k=3 then 1 else if k=7 then 4 else 0,λ_=>s+1,λ_=>s,λ_ j=>j==0,true⟩ (by rfl) (by rw[B7l (by omega)];kernel_rfl) ?_ ?_
 .intro k _ _;exact a7
 refine C9S (args:=[]) rfl rfl t a6 (by simp) ?_;refine A5M rfl (by simp) rfl (by simp[pOp]<;>rfl) ?_;refine A5M rfl (by simp) rfl (by simp[pOp]<;>rfl) ?_;refine C9x rfl (by simp[A0R]<;>rfl) (C9w (i:=1) (v:=rlV 304 305) ab (by kernel_rfl)) ?_;refine A5M rfl (by simp) rfl (by simp[pOp]<;>rfl) ?_;refine A5M rfl (by simp) rfl (by simp[pOp]<;>rfl) ?_;refine A5M rfl (by simp) rfl (by simp[pOp]<;>rfl) ?_;refine C5l rfl rfl rfl a3 C9G (by simp) ?_;have a0:s<M2.length:=(Z0b.1 a3).1;have ac:(M2.set s (.vec 260 2 [.val .nilFunc,.val .nilFunc] 1 [(1,1)]))[s]?=some (.vec 260 2 [.val .nilFunc,.val .nilFunc] 1 [(1,1)]):=by simp[a0]
 refine C4B (s:=s) (X:=.vec 260 2 [fnV 304,fnV 305] 1 [(1,1)]) (v:=.val undef) rfl ?_ (by simp) ?_
 .rw[B0o];simp[A0T,ac,rlV,A1s,A0d,AV.cells,AV.storable]
 rw[Z2C];refine A5M rfl (by simp) rfl (by simp[pOp]<;>rfl) ?_;obtain⟨M3,c⟩:∃M3,M3=M2.set s (.vec 260 2 [fnV 304,fnV 305] 1 [(1,1)]):=⟨_,rfl⟩;have h3:M3[s]?=some (.vec 260 2 [fnV 304,fnV 305] 1 [(1,1)]):=by rw[c];simp[a0]
 have f:Grow M M3:=by refine⟨by rw[c,Z1l,a,Z0q,o];omega,λi hi _=>?_⟩;rw[c,Z0f (by omega),a,Z0h (by omega),d,Z0h hi]
 have a5:∀M,M[s]?=some (.vec 260 2 [fnV 304,fnV 305] 1 [(1,1)])->A1D prog 192 M (.vptr s 1 0)=some (fnV 304):=λM h=>by simp[A1D,A2L,h]
 have a1:∀M,M[s]?=some (.vec 260 2 [fnV 304,fnV 305] 1 [(1,1)])->A1D prog 148 M (.vptr s 1 1)=some (fnV 305):=λM h=>by simp[A1D,A2L,h]
 show A1u _ _ _ _ _ [] _ _ _;simp only[A1u];rw[<-c];have hh:=D1z gl M3 (.rep p);simp only[A1y.row,A8R]at hh;simp -dsimp -implicitDefEqProofs[a5 M3 h3];refine A0g func304 hh ?_;obtain⟨q,hq⟩:∃q,q=M3.length:=⟨_,rfl⟩;obtain⟨M5,m⟩:∃M5,M5=M3++[A0j.cells 128 [I 1,A0E,A0E,I 0,I 0,I 0,I 0,I 0,I 0,eS,A0E,A0E,A0E,A0E,A0E,eS,eS,I 0,I 0,eS,I 0,I 0,I 0,eS,A0E]]:=⟨_,rfl⟩;have a4:M5[q]?=some (A0j.cells 128 [I 1,A0E,A0E,I 0,I 0,I 0,I 0,I 0,I 0,eS,A0E,A0E,A0E,A0E,A0E,eS,eS,I 0,I 0,eS,I 0,I 0,I 0,eS,A0E]):=by rw[m,hq];simp
 have w:q<M5.length:=(Z0b.1 a4).1;have z:Grow M3 M5:=by rw[m];exact A0c.app none _ _
 have a9:M.length<=q:=by have:=f.1;omega
 have af:s<q:=by have:=(Z0b.1 h3).1;omega
 simp -dsimp -implicitDefEqProofs[A0k,A0l,A0d,A0L,A0K];rw[<-m,<-hq];refine A0g func132 (B0Y gl M5 1) ?_;simp -dsimp -implicitDefEqProofs;have g:∀X,(M5.set q X)[q]?=some X:=λX=>by simp[w]
 refine A1v hB (A0I gl) (λk=>if k=7\/k=9\/k=11 then 2 else 0) (λ_=>0) (by rfl) (by kernel_rfl) ?_;simp -dsimp -implicitDefEqProofs[A0f a4,A0f (g (A0j.cells 128 [I 1,A8K p,A0E,I 0,I 0,I 0,I 0,I 0,I 0,eS,A0E,A0E,A0E,A0E,A0E,eS,eS,I 0,I 0,eS,I 0,I 0,I 0,eS,A0E])),Z2C];obtain⟨M6,b⟩:∃M6,M6=M5.set q (A0j.cells 128 [I 1,A8K p,A0E,I 0,I 0,I 0,I 0,I 0,I 0,eS,A0E,A0E,A0E,A0E,A0E,eS,eS,I 0,I 0,eS,I 0,I 0,I 0,eS,A0E]):=⟨_,rfl⟩;have ae:M6[q]?=some (A0j.cells 128 [I 1,A8K p,A0E,I 0,I 0,I 0,I 0,I 0,I 0,eS,A0E,A0E,A0E,A0E,A0E,eS,eS,I 0,I 0,eS,I 0,I 0,I 0,eS,A0E]):=by rw[b];exact g _
 have a8:M6[s]?=some (.vec 260 2 [fnV 304,fnV 305] 1 [(1,1)]):=by rw[b,Z0f (by omega)];exact z.get h3 (by simp)
 have ad:Grow M M6:=by rw[b];exact A1g (f.trans z) a9
 rw[<-b];have y:=C1A gl (.rep p) M6 (λp' e=>by cases e;omega) (λu e=>by cases e);have l:=D0X gl M6 (.rep p);simp only[A1y.row]at y l;refine A0g func240 (B6l gl p .no M6 hl hp) ?_;simp -dsimp -implicitDefEqProofs;refine A0g func242 (B3C gl M6) ?_;simp -dsimp -implicitDefEqProofs[A0b ae];refine A0g func243 y ?_;simp -dsimp -implicitDefEqProofs[a1 M6 a8];refine A0g func305 l ?_;simp -dsimp -implicitDefEqProofs;exact ad
def C2g(a5:gl 0=A2u)(a0:gl 1=A2J)(ab:gl 3=.cptr [fnV 444,fnV 445])(u:A0a)(M:Mem)(hf:Fit u)(hb:A2Z u)(hk:u.kind≠0)(hv:B0h u=0):A0e (WC gl) 190 [.agg (A1y.ins u).row] M (λv M'=>v=B true/\M'=M):=by
 refine A3Z (λ_=>trivial) ?_;obtain⟨s,hs⟩:∃s,s=M.length:=⟨_,rfl⟩;obtain⟨M1,d⟩:∃M1,M1=M++List.replicate 1 A1h:=⟨_,rfl⟩;have a8:M1[s]?=some A1h:=by rw[d,hs];simp
 have o:M1.length=s+1:=by rw[d,hs];simp
 obtain⟨M2,a⟩:∃M2,M2=M1++[A0j.map ruE 12]:=⟨_,rfl⟩;have ac:M2[s+1]?=some (.map ruE 12):=by rw[a,<-o];simp
 have a3:M2[s]?=some A1h:=by rw[a,Z0h (by omega)];exact a8
 have a2:∀M,A3V (WC gl) 239 [] M (λv M'=>v=.mapr M.length/\M'=M++[.map ruE 12]):=λM=>A1T func239 rfl rfl (B5P gl ab M);have p:=a2 M1;have a7:=C1g (r:=λn=>.mapr n) (λM=>a2 M) (M:=M1);rw[<-a,o]at p a7;refine A0m hB func190 ?_;simp -dsimp -implicitDefEqProofs[A1y.row];refine B1Q 1 ?_;rw[<-d];refine A7G (h:=hB) (A0I gl) ⟨λk=>if k=0\/k=8 then 2 else if k=3 then 1 else if k=7 then 4 else 0,λ_=>s+1,λ_=>s,λ_ j=>j==0,true⟩ (by rfl) (by rw[B7l (by omega)];kernel_rfl) ?_ ?_
 .intro k _ _;exact a8
 refine C9S (args:=[]) rfl rfl p a7 (by simp) ?_;refine A5M rfl (by simp) rfl (by simp[pOp]<;>rfl) ?_;refine A5M rfl (by simp) rfl (by simp[pOp]<;>rfl) ?_;refine C9x rfl (by simp[A0R]<;>rfl) (C9w (i:=0) (v:=rlV 300 301) ac (by kernel_rfl)) ?_;refine A5M rfl (by simp) rfl (by simp[pOp]<;>rfl) ?_;refine A5M rfl (by simp) rfl (by simp[pOp]<;>rfl) ?_;refine A5M rfl (by simp) rfl (by simp[pOp]<;>rfl) ?_;refine C5l rfl rfl rfl a3 C9G (by simp) ?_;have z:s<M2.length:=(Z0b.1 a3).1;have ad:(M2.set s (.vec 260 2 [.val .nilFunc,.val .nilFunc] 1 [(1,1)]))[s]?=some (.vec 260 2 [.val .nilFunc,.val .nilFunc] 1 [(1,1)]):=by simp[z]
 refine C4B (s:=s) (X:=.vec 260 2 [fnV 300,fnV 301] 1 [(1,1)]) (v:=.val undef) rfl ?_ (by simp) ?_
 .rw[B0o];simp[A0T,ad,rlV,A1s,A0d,AV.cells,AV.storable]
 rw[Z2C];refine A5M rfl (by simp) rfl (by simp[pOp]<;>rfl) ?_;obtain⟨M3,c⟩:∃M3,M3=M2.set s (.vec 260 2 [fnV 300,fnV 301] 1 [(1,1)]):=⟨_,rfl⟩;have h3:M3[s]?=some (.vec 260 2 [fnV 300,fnV 301] 1 [(1,1)]):=by rw[c];simp[z]
 have f:Grow M M3:=by refine⟨by rw[c,Z1l,a,Z0q,o];omega,λi hi _=>?_⟩;rw[c,Z0f (by omega),a,Z0h (by omega),d,Z0h hi]
 have a6:∀M,M[s]?=some (.vec 260 2 [fnV 300,fnV 301] 1 [(1,1)])->A1D prog 192 M (.vptr s 1 0)=some (fnV 300):=λM h=>by simp[A1D,A2L,h]
 have a1:∀M,M[s]?=some (.vec 260 2 [fnV 300,fnV 301] 1 [(1,1)])->A1D prog 148 M (.vptr s 1 1)=some (fnV 301):=λM h=>by simp[A1D,A2L,h]
 show A1u _ _ _ _ _ [] _ _ _;simp only[A1u];rw[<-c];have hh:=D0v gl M3 u;simp only[A1y.row,D0k]at hh;simp -dsimp -implicitDefEqProofs[a6 M3 h3];refine A0g func300 hh ?_;obtain⟨q,hq⟩:∃q,q=M3.length:=⟨_,rfl⟩;obtain⟨M5,m⟩:∃M5,M5=M3++[A0j.cells 128 [I 0,A0E,A0E,I 1,I 0,I u.id.act,I u.id.item,I u.id.n,I u.kind,S u.label,.list 4 (A0i u.head) .no,.list 4 (A0i u.words) .no,.list 8 (A0u u.kids) .no,A0E,A0E,eS,eS,I 0,I 0,eS,I 0,I 0,I 0,eS,A0E]]:=⟨_,rfl⟩;have a4:M5[q]?=some (A0j.cells 128 [I 0,A0E,A0E,I 1,I 0,I u.id.act,I u.id.item,I u.id.n,I u.kind,S u.label,.list 4 (A0i u.head) .no,.list 4 (A0i u.words) .no,.list 8 (A0u u.kids) .no,A0E,A0E,eS,eS,I 0,I 0,eS,I 0,I 0,I 0,eS,A0E]):=by rw[m,hq];simp
 have t:q<M5.length:=(Z0b.1 a4).1;have y:Grow M3 M5:=by rw[m];exact A0c.app none _ _
 have aa:M.length<=q:=by have:=f.1;omega
 have ag:s<q:=by have:=(Z0b.1 h3).1;omega
 simp -dsimp -implicitDefEqProofs[A0k,A0l,A0d,A0L,A0K];rw[<-m,<-hq];refine A0g func132 (B0Y gl M5 0) ?_;simp -dsimp -implicitDefEqProofs;have g:∀X,(M5.set q X)[q]?=some X:=λX=>by simp[t]
 refine A1v hB (A0I gl) (λk=>if k=7\/k=9\/k=11 then 2 else 0) (λ_=>0) (by rfl) (by kernel_rfl) ?_;simp -dsimp -implicitDefEqProofs[A0f a4,A0f (g (A0j.cells 128 [I 0,A0E,A0E,I 1,I 0,I u.id.act,I u.id.item,I u.id.n,I u.kind,S u.label,.list 4 (A0i u.head) .no,.list 4 (A0i u.words) .no,.list 8 (A0u u.kids) .no,A0E,A0E,eS,eS,I 0,I 0,eS,I 0,I 0,I 0,eS,A0E])),Z2C];obtain⟨M6,b⟩:∃M6,M6=M5.set q (A0j.cells 128 [I 0,A0E,A0E,I 1,I 0,I u.id.act,I u.id.item,I u.id.n,I u.kind,S u.label,.list 4 (A0i u.head) .no,.list 4 (A0i u.words) .no,.list 8 (A0u u.kids) .no,A0E,A0E,eS,eS,I 0,I 0,eS,I 0,I 0,I 0,eS,A0E]):=⟨_,rfl⟩;have af:M6[q]?=some (A0j.cells 128 [I 0,A0E,A0E,I 1,I 0,I u.id.act,I u.id.item,I u.id.n,I u.kind,S u.label,.list 4 (A0i u.head) .no,.list 4 (A0i u.words) .no,.list 8 (A0u u.kids) .no,A0E,A0E,eS,eS,I 0,I 0,eS,I 0,I 0,I 0,eS,A0E]):=by rw[b];exact g _
 have a9:M6[s]?=some (.vec 260 2 [fnV 300,fnV 301] 1 [(1,1)]):=by rw[b,Z0f (by omega)];exact y.get h3 (by simp)
 have ae:Grow M M6:=by rw[b];exact A1g (f.trans y) aa
 rw[<-b];have w:=C1A gl (.ins u) M6 (λp' e=>by cases e) (λu e=>by cases e;exact hf.2.1);have l:=D1K gl a5 a0 u M6 hf hb hk hv (C0F gl a5 a0 u M6 hf hb);simp only[A1y.row]at w l;refine A0g func240 (C0N gl M6) ?_;simp -dsimp -implicitDefEqProofs;refine A0g func242 (B3C gl M6) ?_;simp -dsimp -implicitDefEqProofs[A0b af];refine A0g func243 w ?_;simp -dsimp -implicitDefEqProofs[a1 M6 a9];refine A0g func301 l ?_;simp -dsimp -implicitDefEqProofs;exact ae
end
def C6Z(a b:IdD):A1B prog .neq 23 (.agg [I a.act,I a.item,I a.n]) (.agg [I b.act,I b.item,I b.n])=some (B (!decide (a=b))):=by
 have h0:A3I prog .neq 23 (.agg [I a.act,I a.item,I a.n]) (.agg [I b.act,I b.item,I b.n])=none:=by simp[A3I,A4J]
 have:=(A8D 248 4 (by kernel_rfl)).eq a b;simp only[A2C,IdD.row]at this;simp only[A1B,h0,A5h,C1y,this];rfl
def C9L{M:Mem}{b:Nat}{k:Int}{i:Nat}{v:AV}(h0:M[b]?=some (.map doE 7))(h4:A2I prog 3 (I k) doE=some (some (i,v))):A1z prog 227 M (.mapr b) (I k) true=some (.tuple [v,B true]):=C3U h0 (kt:=3) (et:=225) (by kernel_rfl) (by kernel_rfl) rfl h4
section
variable (gl:Nat->AV)
def C1Y(a9:gl 3=.cptr [fnV 444,fnV 445])(u k:A0a)(ks:List A0a)(h:Int)(i:Nat)(a8:Int)(M:Mem)(hk:u.kids=k::ks)(hf:Fit u)(hn:(A0V u).Nodup)
 (a0:B8f 1 ⟨k.kind,k.label⟩)(af:u.kids.filter (A4F ⟨k.kind,k.label⟩)=[k]):
 A0e (WC gl) 133 [.agg u.row,.agg (enR h i a8 (.rep [A3o,⟨k.kind,k.label⟩]))] M (λv M'=>v=.tuple [.agg (A7I u ks).row,I 0]/\M'=M):=by
 refine A0e.dataX ?_
 obtain⟨p,hp⟩:∃p:List A0G,p=[A3o,⟨k.kind,k.label⟩]:=⟨_,rfl⟩
 have a3:k∈A3X u:=by have:=B9q u u (B1F u) k (by rw[hk];simp);exact this
 have g:=λM=>B2j gl u k.id M hf
 rw[C9B hn a3]at g
 have q:=λM=>B2T gl u k (A8K p) M (λM=>by have:=D1F gl u ⟨k.kind,k.label⟩ .no M hf a0;rw[af,<-hp]at this;exact this)
 have a1:=λM=>C3u gl a9 p M (by rw[hp];simp) (by
  intro j hj;subst hp
  match j,hj with
  |0,_=>exact .inl ⟨rfl,rfl⟩
  |1,_=>exact a0)
 have s:=λd M=>C3r gl u k ks d M hk hf hn
 have a7:k.id.row=[I k.id.act,I k.id.item,I k.id.n]:=rfl
 have a6:¬k.id=u.id:=by intro e;obtain⟨a,b,c,d,e',f⟩:=u;rw[A0V,Z1J]at hn;have hk:f=k::ks:=hk;subst hk;refine hn.1 ?_;have e:k.id=a:=e;rw[<-e,A3N];exact Z2d _ (B8T k)
 have a2:=C6Z k.id u.id
 rw[Z0z a6]at a2
 obtain⟨b,hb⟩:∃b,b=M.length:=⟨_,rfl⟩
 obtain⟨M1,o⟩:∃M1,M1=M++[z8]:=⟨_,rfl⟩
 have h1:M1[b]?=some z8:=by rw[o,hb];simp
 have ab:Grow M M1:=by rw[o];exact A0c.app none _ _
 obtain⟨M2,r⟩:∃M2,M2=M1++[A0j.map doE 7]:=⟨_,rfl⟩
 have ac:M2[M1.length]?=some (.map doE 7):=by rw[r];simp
 have ad:Grow M1 M2:=by rw[r];exact A0c.app none _ _
 have w:=A1T (C:=WC gl) func189 rfl rfl (B6k gl M1)
 rw[<-r]at w
 obtain⟨M3,l⟩:∃M3,M3=M2++[A0j.cells 23 [I k.id.act,I k.id.item,I k.id.n]]:=⟨_,rfl⟩
 have a4:M3[M2.length]?=some (A0j.cells 23 [I k.id.act,I k.id.item,I k.id.n]):=by rw[l];simp
 have t:Grow M2 M3:=by rw[l];exact A0c.app none _ _
 obtain⟨M4,m⟩:∃M4,M4=M3++[A0j.cells 27 [I k.id.act,I k.id.item,I k.id.n,I k.kind,S k.label,.list 4 (A0i k.head) .no,.list 4 (A0i k.words) .no,.list 8 (A0u k.kids) .no]]:=⟨_,rfl⟩
 have aa:M4[M3.length]?=some (A0j.cells 27 [I k.id.act,I k.id.item,I k.id.n,I k.kind,S k.label,.list 4 (A0i k.head) .no,.list 4 (A0i k.words) .no,.list 8 (A0u k.kids) .no]):=by rw[m];simp
 have z:Grow M3 M4:=by rw[m];exact A0c.app none _ _
 have a5:=z.get a4 (by simp)
 have y:Grow M1 M4:=ad.trans (t.trans z)
 have h4:=y.get h1 (by simp)
 have ae:b<M4.length:=(Z0b.1 h4).1
 rw[A1Z]at g
 rw[a7]at g q
 rw[<-hp]
 rw[k.row_eq]at g s
 rw[u.row_eq]at g q s|-
 simp only[A1y.row]at a1
 refine A0m hB func133 ?_
 simp -dsimp -implicitDefEqProofs[A0k,enR,A1y.row]
 rw[<-o,<-hb]
 refine A1v hB (A0I gl) (λk=>if k=0 then 2 else if k=4 then 1 else 0) (λ_=>M1.length) (by rfl) (by kernel_rfl) ?_
 simp -dsimp -implicitDefEqProofs
 refine A4T w ?_
 simp -dsimp -implicitDefEqProofs[A0R,C9L (k:=1) (i:=1) (v:=fnV 233) ac (by kernel_rfl)]
 refine A0g func190 (a1 M2) ?_
 simp -dsimp -implicitDefEqProofs
 refine A0g func191 (q M2) ?_
 simp -dsimp -implicitDefEqProofs[A0k,A0l,A0d,A0L,A0K]
 rw[<-l]
 simp -dsimp -implicitDefEqProofs[A0b a4]
 refine A0g func32 (g M3) ?_
 simp -dsimp -implicitDefEqProofs[A0k,A0l,A0d,A0L,A0K]
 rw[<-m]
 simp -dsimp -implicitDefEqProofs[A0b a5,a2,A0b aa]
 refine A0g func233 (s _ M4) ?_
 simp -dsimp -implicitDefEqProofs[A0f h4,A0L,A0K,A0v ae,A0h]
 exact⟨A1g (ab.trans y) (by omega),.tuple (.same (by simp only[bdd];exact A2D _ _) (.same trivial .nil)) .nil⟩
def C3I(a5:gl 0=A2u)(aj:gl 1=A2J)(ae:gl 3=.cptr [fnV 444,fnV 445])(u t:A0a)(g:Int)(i:Nat)(a2:Int)(M:Mem)(hf:Fit u)(a8:Fit t)(af:A2Z t)(ak:t.kind≠0)(aa:B0h t=0)
 (hw:wcU t<=1000000000)(hx:Fit (A1U g i t 0 0))(am:u.kids.length<64)(a9:A1R t<8)
 (ad:A0o u+A0o t<=1024)(ac:B5r u (A1U g i t 0 0)=0)(s:((A0V (A1U g i t 0 0)).any λy=>(A0V u).any λz=>decide (z=y))=false):
 A0e (WC gl) 133 [.agg u.row,.agg (enR g i a2 (.ins t))] M (λv M'=>v=.tuple [.agg (A7I u (u.kids++[A1U g i t 0 0])).row,I 0]/\M'=M):=by
 refine A0e.dataX ?_
 have ao:A0U u.id u=some u:=by obtain⟨a,b,c,d,e,f⟩:=u;rw[A0U];exact Z0d rfl
 have h:=λM=>B2j gl u u.id M hf
 rw[ao]at h
 have p:=λM=>B2T gl u u A0E M (λM=>C9M gl u M)
 have a3:=λM=>C2g gl a5 aj ae t M a8 af ak aa
 have j:=λM=>C3w gl a5 u t g i a2 M hf a8 hw hx am a9 ad ac s
 have ab:u.id.row=[I u.id.act,I u.id.item,I u.id.n]:=rfl
 have a6:=C6Z u.id u.id
 rw[Z0w rfl]at a6
 obtain⟨y,hy⟩:∃y,y=A7I u (u.kids++[A1U g i t 0 0]):=⟨_,rfl⟩
 rw[<-hy]at j|-
 obtain⟨b,hb⟩:∃b,b=M.length:=⟨_,rfl⟩
 obtain⟨M1,o⟩:∃M1,M1=M++[z8]:=⟨_,rfl⟩
 have h1:M1[b]?=some z8:=by rw[o,hb];simp
 have a4:Grow M M1:=by rw[o];exact A0c.app none _ _
 obtain⟨M2,q⟩:∃M2,M2=M1++[A0j.map doE 7]:=⟨_,rfl⟩
 have ah:M2[M1.length]?=some (.map doE 7):=by rw[q];simp
 have ai:Grow M1 M2:=by rw[q];exact A0c.app none _ _
 have w:=A1T (C:=WC gl) func189 rfl rfl (B6k gl M1)
 rw[<-q]at w
 obtain⟨M3,l⟩:∃M3,M3=M2++[A0j.cells 23 [I u.id.act,I u.id.item,I u.id.n]]:=⟨_,rfl⟩
 have a7:M3[M2.length]?=some (A0j.cells 23 [I u.id.act,I u.id.item,I u.id.n]):=by rw[l];simp
 have r:Grow M2 M3:=by rw[l];exact A0c.app none _ _
 obtain⟨M4,m⟩:∃M4,M4=M3++[A0j.cells 27 [I u.id.act,I u.id.item,I u.id.n,I u.kind,S u.label,.list 4 (A0i u.head) .no,.list 4 (A0i u.words) .no,.list 8 (A0u u.kids) .no]]:=⟨_,rfl⟩
 have ag:M4[M3.length]?=some (A0j.cells 27 [I u.id.act,I u.id.item,I u.id.n,I u.kind,S u.label,.list 4 (A0i u.head) .no,.list 4 (A0i u.words) .no,.list 8 (A0u u.kids) .no]):=by rw[m];simp
 have a1:Grow M3 M4:=by rw[m];exact A0c.app none _ _
 have an:=a1.get a7 (by simp)
 have a0:Grow M1 M4:=ai.trans (r.trans a1)
 have h4:=a0.get h1 (by simp)
 have al:b<M4.length:=(Z0b.1 h4).1
 rw[A1Z]at h
 rw[ab]at h p
 rw[u.row_eq]at h p j|-
 simp only[A1y.row,enR,Z1g,Z1Y]at a3 j
 refine A0m hB func133 ?_
 simp -dsimp -implicitDefEqProofs[A0k,enR,A1y.row]
 rw[<-o,<-hb]
 refine A1v hB (A0I gl) (λk=>if k=0 then 2 else if k=4 then 1 else 0) (λ_=>M1.length) (by rfl) (by kernel_rfl) ?_
 simp -dsimp -implicitDefEqProofs
 refine A4T w ?_
 simp -dsimp -implicitDefEqProofs[A0R,C9L (k:=0) (i:=0) (v:=fnV 232) ah (by kernel_rfl)]
 refine A0g func190 (a3 M2) ?_
 simp -dsimp -implicitDefEqProofs
 refine A0g func191 (p M2) ?_
 simp -dsimp -implicitDefEqProofs[A0k,A0l,A0d,A0L,A0K]
 rw[<-l]
 simp -dsimp -implicitDefEqProofs[A0b a7]
 refine A0g func32 (h M3) ?_
 simp -dsimp -implicitDefEqProofs[A0k,A0l,A0d,A0L,A0K]
 rw[<-m]
 simp -dsimp -implicitDefEqProofs[A0b an,a6,A0b ag]
 refine A0g func232 (j M4) ?_
 simp -dsimp -implicitDefEqProofs[A0f h4,A0L,A0K,A0v al,A0h]
 exact⟨A1g (a4.trans a0) (by omega),.tuple (.same (by simp only[bdd];exact A2D _ _) (.same trivial .nil)) .nil⟩
end
structure EnD where
 number:Int
 i:Nat
 day:Int
 it:A1y
def EnD.row(x:EnD):List AV:=enR x.number x.i x.day x.it
@[simp] def EnD.row_len(x:EnD):x.row.length=28:=D6c _ _ _ _
@[simp] def EnD.row_take(x:EnD):List.take 28 x.row=x.row:=Z0j (by simp)
def A1y.kind:A1y->Int
 |.rep _=>1
 |.ins _=>0
def enL(number day:Int)(items:List A1y):List EnD:=items.zipIdx.map λx=>⟨number,x.2,day,x.1⟩
def D6S(b c:Int)(a:List A1y):(enL b c a).length=a.length:=by simp[enL]
def D7h(b c:Int)(a:List A1y)(i:Nat)(h:i<a.length):(enL b c a)[i]?=some ⟨b,i,c,a[i]⟩:=by simp[enL,Z1f,List.getElem?_zipIdx,h]
def hAl:A2r:=⟨λd=>d !=2,λ_=>false,λ_=>false⟩
@[simp] def E3F:hAl.imm=λd=>d !=2:=rfl
section
variable (gl:Nat->AV)
set_option maxHeartbeats 1000000 in
def D3a(L:List EnD)(U:Nat->A0a)(v:AV)(M:Mem)(hl:L.length<=1000)(ho:A1l 143 28 EnD.row M v L)(hU:∀i (h:i<L.length) M,A0e (WC gl) 133 [.agg (U i).row,.agg L[i].row] M (λv M'=>v=.tuple [.agg (U (i+1)).row,I 0]/\M'=M)):
 A0e (WC gl) 79 [.agg (U 0).row,v] M (λr M'=>r=.tuple [.agg (U L.length).row,A0E]/\M'=M):=by
 refine A0e.dataX ?_
 obtain⟨b,hb⟩:∃b,b=M.length:=⟨_,rfl⟩
 obtain⟨M1,j⟩:∃M1,M1=M++[A0j.cells 27 (U 0).row,z8]:=⟨_,rfl⟩
 have h1:M1[b]?=some (.cells 27 (U 0).row):=by rw[j,hb];simp
 have h2:M1[b+1]?=some z8:=by rw[j,hb];simp[Z1h]
 have ae:Grow M M1:=by rw[j];exact A0c.app none _ _
 have a5:=ho.len (P:=prog) underlying141
 refine A0m hAl func79 ?_
 simp -dsimp -implicitDefEqProofs[A0k,A0L,A0K,a5]
 rw[<-j,<-hb]
 refine A0F hAl L.length 13 (λT Mi=>∃i:Nat,i<=L.length/\T 2=.ptr b 0/\T 4=.ptr (b+1) 0/\T 6=A0E/\T 11=v/\T 12=I L.length/\T 13=I i/\Grow M Mi/\Mi[b]?=some (.cells 27 (U i).row)/\Mi[b+1]?=some z8) ?_ ?_
 .exact⟨0,by omega,by simp,by simp,by simp,by simp,by simp,by simp,ae,h1,h2⟩
 rintro T Mi ⟨i,i1,t2,t4,t6,f,d,c,l,g,w⟩
 have aj:b<Mi.length:=(Z0b.1 g).1
 have af:b+1<Mi.length:=(Z0b.1 w).1
 by_cases hi:i<L.length
 case neg=>
  have a1:¬(i:Int)<L.length:=by omega
  have e:i=L.length:=by omega
  subst e;have ah:A1D prog 27 Mi (.ptr b 0)=some (.agg (U L.length).row):=by rw[(U L.length).row_eq]at g|-;rw[A0b g];simp
  simp -dsimp -implicitDefEqProofs[t2,t4,t6,f,d,c,ah,A0f w,A0L,A0K,A0v af,A0h];exact⟨A1g l (by omega),.tuple (.same (by simp only[bdd];exact A2D _ _) (.same trivial .nil)) .nil⟩
 have a1:(i:Int)<L.length:=by omega
 have w1:=A2s (i:=i) (by omega)
 obtain⟨x,hx⟩:∃x,x=L[i]:=⟨_,rfl⟩
 have ai:=ho.keep l (by simp)
 obtain⟨pt,ab,-,a7,-⟩:=ai.at_ (P:=prog) (t:=143) EnD.row_len D8r E1p hi
 rw[<-hx]at a7
 have a:=hU i hi
 rw[<-hx]at a
 obtain⟨q,hq⟩:∃q,q=Mi.length:=⟨_,rfl⟩
 obtain⟨M2,s⟩:∃M2,M2=Mi++[A0j.cells 143 x.row]:=⟨_,rfl⟩
 have z:M2[q]?=some (.cells 143 x.row):=by rw[s,hq];simp
 have p:Grow Mi M2:=by rw[s];exact A0c.app none _ _
 have a6:A1D prog 143 M2 (.ptr q 0)=some (.agg x.row):=by rw[A0b z];simp[A0h,A6X]
 have aa:A1D prog 3 M2 (.ptr q 3)=some (I x.it.kind):=by rw[A0b z];obtain⟨n0,i0,d0,it⟩:=x;cases it<;>simp[EnD.row,enR,A1y.row,A1y.kind]
 have u:=p.get g (by simp)
 have ac:=p.get w (by simp)
 have a3:A1D prog 27 M2 (.ptr b 0)=some (.agg (U i).row):=by rw[(U i).row_eq]at u|-;rw[A0b u];simp
 have ad:(decide (0<=x.it.kind)&&decide (x.it.kind<=6))=true:=by cases x.it<;>simp[A1y.kind]
 have k:=B0Y gl M2 x.it.kind
 rw[ad]at k
 obtain⟨y,hy⟩:∃y,y=U (i+1):=⟨_,rfl⟩
 rw[<-hy]at a
 obtain⟨M3,m⟩:∃M3,M3=M2++[A0j.cells 27 y.row]:=⟨_,rfl⟩
 have a2:M3[M2.length]?=some (.cells 27 y.row):=by rw[m];simp
 have a0:A1D prog 27 M3 (.ptr M2.length 0)=some (.agg y.row):=by rw[y.row_eq]at a2|-;rw[A0b a2];simp
 have o:Grow M2 M3:=by rw[m];exact A0c.app none _ _
 have a8:=o.get u (by simp)
 have ag:=o.get ac (by simp)
 have a9:A0l (some 8) M3 (.ptr b 0) (.agg y.row)=some (M3.set b (.cells 27 y.row)):=by rw[A0f a8];simp[A0L,A0K,A0d,Z1S]
 have a4:b<M3.length:=(Z0b.1 a8).1
 simp -dsimp -implicitDefEqProofs[t2,t4,t6,f,d,c,a1,ab,a7,A0k,A0l,A0d,A0L,A0K]
 rw[<-s,<-hq]
 simp -dsimp -implicitDefEqProofs[t2,t4,t6,f,d,c,aa]
 refine A0g func132 k ?_
 simp -dsimp -implicitDefEqProofs[t2,t4,t6,f,d,c,a6,a3]
 refine A0g func133 (a M2) ?_
 simp -dsimp -implicitDefEqProofs[t2,t4,t6,f,d,c,A0k,A0l,A0d,A0L,A0K]
 rw[<-m]
 simp -dsimp -implicitDefEqProofs[t2,t4,t6,f,d,c,a0,a9,w1]
 refine⟨⟨i+1,by clear w1;omega,rfl,A1g (l.trans (p.trans o)) (by omega),by rw[hy];simp[a4],?_⟩,by clear w1;omega⟩
 exact ag
def D3D{a b:Int}{i:Nat}{it:A1y}:A0D prog 143 [(0,I a),(1,I i),(2,I b),(3,.agg it.row)]=some (.agg (EnD.mk a i b it).row):=by cases it<;>simp[A0D,A1k,A1E,A0d,AV.cells,AV.storable,EnD.row,enR,A1y.row]
@[simp] def A1y.row_take(x:A1y):List.take 25 x.row=x.row:=Z0j (by simp)
set_option maxHeartbeats 1000000 in
def D5c(u:A0a)(c d:Int)(a:List A1y)(U:Nat->A0a)(M:Mem)(hl:a.length<=1000)(h0:U 0=u)(hU:∀i (h:i<a.length) M,A0e (WC gl) 133 [.agg (U i).row,.agg (enR c i d a[i])] M (λv M'=>v=.tuple [.agg (U (i+1)).row,I 0]/\M'=M)):
 A0e (WC gl) 26 [.agg u.row,C8I c d a] M (λr M'=>r=.tuple [.agg (U a.length).row,A0E]/\M'=M):=by
 refine A0e.dataX ?_
 obtain⟨b,hb⟩:∃b,b=M.length:=⟨_,rfl⟩
 obtain⟨M1,q⟩:∃M1,M1=M++[z8]:=⟨_,rfl⟩
 have h1:M1[b]?=some z8:=by rw[q,hb];simp
 have a4:Grow M M1:=by rw[q];exact A0c.app none _ _
 have m:=D7h c d a
 have w:=D6S c d a
 have f:=λv M' (ho:A1l 143 28 EnD.row M' v (enL c d a))=>D3a gl (enL c d a) U v M' (by omega) ho (λi h M=>by
  have hi:i<a.length:=by omega
  have e:=m i hi;rw[Z0k h]at e;rw[Z1Q e];exact hU i hi M)
 rw[w,h0]at f
 have a5:∀i (h:i<a.length),(a.map A1y.row)[i]?=some a[i].row:=λi h=>by simp[h]
 rw[u.row_eq]at f|-
 rw[C8I]
 refine A0m (hQ [26]) func26 ?_
 simp -dsimp -implicitDefEqProofs[A0k]
 rw[<-q,<-hb]
 refine A0F (hQ [26]) a.length 12 (λT Mi=>∃i:Nat,i<=a.length/\T 2=.cptr [I u.id.act,I u.id.item,I u.id.n,I u.kind,S u.label,.list 4 (A0i u.head) .no,.list 4 (A0i u.words) .no,.list 8 (A0u u.kids) .no]/\T 3=.cptr [I c,S B1D,I d,I 1,I d,eS,.list 25 (a.map A1y.row) .no]/\T 4=.ptr b 0/\T 10=.list 25 (a.map A1y.row) .no/\T 11=I a.length/\T 12=I i/\Grow M1 Mi/\Arr 143 28 EnD.row M1.length Mi (T 6) ((enL c d a).take i)) ?_ ?_
 .exact⟨0,by omega,by simp,by simp,by simp,by simp,by simp,by simp,Grow.refl _,by simpa using Arr.nil⟩
 rintro T Mi ⟨i,i1,t2,t3,t4,g,k,j,o,ha⟩
 by_cases hi:i<a.length
 case neg=>
  have p:¬(i:Int)<a.length:=by omega
  rw[Z0j (by omega)]at ha;have t:=o.get h1 (by simp);have a1:b<Mi.length:=(Z0b.1 t).1;generalize l:T 6=ov at*;simp -dsimp -implicitDefEqProofs[t2,t3,t4,g,k,j,p,l];refine A0g func79 (f ov Mi ha.own) ?_;simp -dsimp -implicitDefEqProofs[t4,A0f t,A0L,A0K,A0v a1,A0h];exact⟨A1g (a4.trans o) (by omega),.tuple (.same (by simp only[bdd];exact A2D _ _) (.same trivial .nil)) .nil⟩
 have p:(i:Int)<a.length:=by omega
 have w1:=A2s (i:=i) (by omega)
 obtain⟨x,hx⟩:∃x,x=a[i]:=⟨_,rfl⟩
 have a0:=a5 i hi
 rw[<-hx]at a0
 have a2:a[i]=x:=hx.symm
 obtain⟨M2,s⟩:∃M2,M2=Mi++[A0j.cells 128 x.row]:=⟨_,rfl⟩
 have a7:M2[Mi.length]?=some (.cells 128 x.row):=by rw[s];simp
 have y:Grow Mi M2:=by rw[s];exact A0c.app none _ _
 have z:=ha.keep y
 have a6:A1D prog 128 M2 (.ptr Mi.length 0)=some (.agg x.row):=by rw[A0b a7];simp[A0h,A6X]
 have a3:(enL c d a).take (i+1)=(enL c d a).take i++[⟨c,i,d,x⟩]:=by rw[Z1H,m i hi,hx];rfl
 generalize l:T 6=ov at*
 simp -dsimp -implicitDefEqProofs[t2,t3,t4,g,k,j,hi,p,a0,a2,l,A0k,A0l,A0d,A0L,A0K]
 rw[<-s]
 simp -dsimp -implicitDefEqProofs[t2,t3,t4,g,k,j,l,a6,D3D,A0q,A1f,A0L,A0K]
 refine A4C (C:=WC gl) (enc:=EnD.row) (e:=143) (sz:=28) (bytes:=392) (news:=[⟨c,i,d,x⟩]) D6O D9o D8E EnD.row_len z.own (by simp[A0A]) (by simp;omega) rfl ?_
 intro v' M' k1 k2 k3 _
 obtain⟨g1,g2⟩:=A2V (X:=[]) (o.trans y) z.lat (by simpa using k2) (by simpa using k3)
 simp -dsimp -implicitDefEqProofs[t2,t3,t4,g,k,j,w1]
 exact⟨⟨i+1,by clear w1;omega,rfl,g1,by rw[a3];exact⟨k1,g2⟩⟩,by clear w1;omega⟩
end
open Go.Proofs TryTypes
def B7Z{u:A0a}{ks:List A0a}(hf:Fit u)(h1:∀k∈ks,k.good/\k.lims)(h2:1+A0x ks<=1000):Fit (A7I u ks):=by
 obtain⟨g1,g2,g3,g4,g5,g6,g7,g8,g9⟩:=(A0a.good_iff u).1 hf.1;obtain⟨⟨l1,l2,l3,l4⟩,l5⟩:=A3r _ hf.2.1;have hl:=A2q ks;refine⟨(A0a.good_iff _).2 ⟨g1,g2,g3,g4,g5,g6,g7,?_,λk hk=>(h1 k hk).1⟩,?_,?_⟩
 .show ks.length<=9223372036854775807;omega
 .rw[A7I,A0a.lims];exact⟨⟨l1,l2,by show ks.length<=1000;omega,l4⟩,A3E.2 λk hk=>(h1 k hk).2⟩
 .rw[A7I,A0o];exact h2
def C5V:∀(a b:List A0a),A3N (a++b)=A3N a++A3N b
 |[],b=>by rw[A3N];rfl
 |k::a,b=>by rw[Z1g,A3N,A3N,C5V a b,Z0W]
def C6P(u:A0a):A0o u=1+A0x u.kids:=by obtain⟨a,b,c,d,e,f⟩:=u;rw[A0o];rfl
def C4c(u:A0a):A0V u=u.id::A3N u.kids:=by obtain⟨a,b,c,d,e,f⟩:=u;rw[A0V];rfl
def D4w{u:A0a}(hf:Fit u)(i:Nat):Fit (A7I u (u.kids.drop i)):=by have h1:=((A0a.good_iff u).1 hf.1).2.2.2.2.2.2.2.2;have h2:=A3E.1 (A3r _ hf.2.1).2;have h3:=A7J (u.kids.take i) (u.kids.drop i);rw[Z0X]at h3;have h4:=C6P u;have h5:=hf.2.2;exact B7Z hf (λk hk=>⟨h1 k (Z1o hk),h2 k (Z1o hk)⟩) (by omega)
def C8u{u:A0a}(hn:(A0V u).Nodup)(i:Nat):(A0V (A7I u (u.kids.drop i))).Nodup:=by have h:=C5V (u.kids.take i) (u.kids.drop i);rw[Z0X]at h;rw[C4c,h]at hn;rw[A7I,A0V];exact hn.sublist (List.Sublist.cons_cons _ (List.sublist_append_right _ _))
def B3f:∀{kind:Int} {ks b:List A0a},A6o kind ks b=true->∀i (h:i<ks.length),A4v kind ks[i].kind=true/\A2W ks[i]=true/\(∀a∈b,A7l a ks[i]=false)/\∀j (hj:j<i),A7l (ks[j]'(by omega)) ks[i]=false
 |kind,k::ks,b,h,i,hi=>by
  rw[A6o]at h;simp only[Z0g,Z1U]at h;obtain⟨⟨⟨h1,h2⟩,h3⟩,h4⟩:=h;cases i with
  |zero=>refine⟨h1,h2,λa ha=>?_,λj hj=>by omega⟩;exact by simpa using List.any_eq_false.1 h3 a ha
  |succ i=>
   obtain⟨k1,k2,k3,k4⟩:=B3f h4 i (by simpa using hi);refine⟨k1,k2,λa ha=>k3 a (by simp[ha]),λj hj=>?_⟩;cases j with
   |zero=>exact k3 k (by simp)
   |succ j=>exact k4 j (by omega)
def C6V{u:A0a}(h:A2W u=true):A6o u.kind u.kids []=true:=by obtain⟨a,b,c,d,e,f⟩:=u;rw[A2W]at h;simp only[Z0g]at h;exact h.2
def D4f{k:Int}(h:A4v 0 k=true):k=1\/k=2:=by simpa[A4v,A9c]using h
def D1W(a b:A0a):A7l a b=A7l b a:=by simp only[A7l];rw[show decide (a.kind=b.kind)=decide (b.kind=a.kind)by simp[eq_comm],show decide (a.label=b.label)=decide (b.label=a.label)by simp[eq_comm]]
def C0P(a b:A0a):A4F ⟨b.kind,b.label⟩ a=A7l a b:=rfl
def C5f{u:A0a}(h:A5Q u=true)(hk:u.kind≠0):A0X u.label=true/\u.kind<=7:=by unfold A5Q at h;simp only[Z0g,Z0m,Z0e hk]at h;exact⟨h.2,h.1.1.1.1.2⟩
def D2R{u:A0a}(h:A2W u=true)(h0:u.kind=0){i:Nat}(hi:i<u.kids.length):B8f 1 ⟨u.kids[i].kind,u.kids[i].label⟩/\(u.kids.drop i).filter (A4F ⟨u.kids[i].kind,u.kids[i].label⟩)=[u.kids[i]]:=by
 have hr:=C6V h;rw[h0]at hr;obtain⟨k1,k2,-,-⟩:=B3f hr i hi;have hk:=D4f k1;obtain⟨a1,a2⟩:=C5f (A7a k2) (by omega);refine⟨.inr ⟨?_,a2,a1⟩,?_⟩
 .show 0<u.kids[i].kind;omega
 .rw[Z0l hi,Z2Y,C0P,Z0d (by simp[A7l])];congr 1;rw[Z2T];intro a ha;obtain⟨j,hj,rfl⟩:=Z3b ha;have b:i+1+j<u.kids.length:=by simp at hj;omega
  rw[List.getElem_drop,C0P,D1W,(B3f hr (i+1+j) b).2.2.2 i (by omega)];simp
mutual
def C1D(x:IdD):∀u:A0a,x∉A0V u->A9K x u=none
 |.mk id k l h w ks,hn=>by rw[A0V,Z0u,Z2L]at hn;rw[A9K,Z0e (λe=>hn.1 e.symm)];exact C1W x ks hn.2
def C1W(x:IdD):∀ks:List A0a,x∉A3N ks->B2p x ks=none
 |[],_=>by rw[B2p]
 |k::ks,hn=>by rw[A3N,Z0V,Z2L]at hn;rw[B2p,C1D x k hn.1];exact C1W x ks hn.2
end
def C5c{k:A0a}:∀{ks:List A0a},(A3N ks).Nodup->k∈ks->B2p k.id ks=some [⟨k.kind,k.label⟩]
 |a::ks,hn,hk=>by
  rw[A3N]at hn;obtain⟨n1,n2,n3⟩:=Z1V.1 hn;rw[B2p];rcases Z0u.1 hk with rfl|hk
  ·(have:A9K k.id k=some []:=by obtain⟨a,b,c,d,e,f⟩:=k;rw[A9K];exact Z0d rfl);rw[this]
  .rw[C1D k.id a λh=>n3 _ h _ (B3Y (B8T k) hk) rfl];exact C5c n2 hk
def D4u{u k:A0a}(hn:(A0V u).Nodup)(hk:k∈u.kids):B3N u k.id=some [A3o,⟨k.kind,k.label⟩]:=by
 rw[C4c,Z1J]at hn;have hw:A9K k.id u=B2p k.id u.kids:=by
  obtain⟨a,b,c,d,e,f⟩:=u;rw[A9K,Z0e]
  .rfl
  .intro e';exact hn.1 (e'▸B3Y (B8T k) hk)
 rw[B3N,hw,C5c hn.2 hk];rfl
def B4Y{a i:Int}(ha:inI a)(hi:inI i):∀(l:List ByteArray) (n:Nat),(∀t∈l,t.size<=maxLen)->n+l.length<=2000000000->∀w∈A3Q a i n l,w.good
 |[],n,_,_,w,hw=>by simp[A3Q]at hw
 |t::l,n,ht,hn,w,hw=>by
  rw[A3Q]at hw;simp only[Z0v]at hn;rcases Z0u.1 hw with rfl|hw
  .refine⟨ht t (by simp),ha,hi,?_⟩;simp only[inI];omega
  .exact B4Y ha hi l (n+1) (λq hq=>ht q (by simp[hq])) (by omega) w hw
def B8c{l:List A0M}(h:∀w∈l,w.good):∀t∈A0H l,t.size<=maxLen:=by intro t ht;obtain⟨w,hw,rfl⟩:=Z0H.1 ht;exact(h w hw).1
mutual
def B5l{a i:Int}(ha:inI a)(hi:inI i):∀(t:A0a) (n w:Nat),t.good->t.lims->n+A0o t<=1000000->w+wcU t<=1000000000->(A1U a i t n w).good/\(A1U a i t n w).lims
 |.mk id k l h ws ks,n,w,hg,hl,hn,hw=>by
  obtain⟨g1,g2,g3,g4,g5,g6,g7,g8,g9⟩:=(A0a.good_iff _).1 hg;obtain⟨⟨l1,l2,l3,l4⟩,l5⟩:=A3r _ hl;rw[A0o]at hn;rw[wcU]at hw;have g5:∀w∈h,w.good:=g5;have g7:∀w∈ws,w.good:=g7;have g9:∀k∈ks,k.good:=g9;have l3:ks.length<=1000:=l3;have l1:h.length<=100000000:=l1;have l2:ws.length<=100000000:=l2;have g8:ks.length<=maxLen:=g8;have hk:=B8U ha hi ks (n+1) (w+h.length+ws.length) g9 (A3E.1 l5) (by omega) (by omega);have t1:(A0H h).length=h.length:=by simp[A0H]
  have t2:(A0H ws).length=ws.length:=by simp[A0H]
  rw[A1U];have hm:∀n:Nat,n<=100000000->n<=maxLen:=λn h=>by show n<=9223372036854775807;omega
  refine⟨(A0a.good_iff _).2 ⟨⟨ha,hi,?_⟩,g2,g3,?_,?_,?_,?_,?_,λk hk'=>(hk k hk').1⟩,?_⟩
  .show inI ((n+1:Nat):Int);simp only[inI];omega
  .show(A3Q _ _ _ _).length<=maxLen;rw[A9w,t1];exact hm _ l1
  .exact B4Y ha hi _ _ (B8c g5) (by rw[t1];omega)
  .show(A3Q _ _ _ _).length<=maxLen;rw[A9w,t2];exact hm _ l2
  .exact B4Y ha hi _ _ (B8c g7) (by rw[t2];omega)
  .show(A2f _ _ _ _ _).length<=maxLen;rw[A9P];exact g8
  .rw[A0a.lims];refine⟨⟨?_,?_,?_,l4⟩,A3E.2 λk hk'=>(hk k hk').2⟩
   .show(A3Q _ _ _ _).length<=_;rw[A9w,t1];exact l1
   .show(A3Q _ _ _ _).length<=_;rw[A9w,t2];exact l2
   .show(A2f _ _ _ _ _).length<=_;rw[A9P];exact l3
def B8U{a i:Int}(ha:inI a)(hi:inI i):∀(ks:List A0a) (n w:Nat),(∀k∈ks,k.good)->(∀k∈ks,k.lims)->n+A0x ks<=1000000->w+wcL ks<=1000000000->∀k∈A2f a i ks n w,k.good/\k.lims
 |[],n,w,_,_,_,_,k,hk=>by rw[A2f]at hk;simp at hk
 |t::ks,n,w,hg,hl,hn,hw,k,hk=>by
  rw[A0x]at hn;rw[wcL]at hw;rw[A2f]at hk;rcases Z0u.1 hk with rfl|hk
  .exact B5l ha hi t n w (hg t (by simp)) (hl t (by simp)) (by omega) (by omega)
  .exact B8U ha hi ks _ _ (λq hq=>hg q (by simp[hq])) (λq hq=>hl q (by simp[hq])) (by omega) (by omega) k hk
end
mutual
def B8E:∀t:A0a,A2W t=true->wcU t<=512*A0o t
 |.mk id k l h ws ks,hr=>by obtain⟨_,h1,h2⟩:=A8x (A7a hr);have h1:A5F h=true:=h1;have h2:A5F ws=true:=h2;have:=(A7j h1).1;have:=(A7j h2).1;have hk:=C1r ks (λq hq=>B4X hr q hq);rw[wcU,A0o];omega
def C1r:∀ks:List A0a,(∀k∈ks,A2W k=true)->wcL ks<=512*A0x ks
 |[],_=>by rw[wcL];omega
 |k::ks,h=>by have:=B8E k (h k (by simp));have:=C1r ks λq hq=>h q (by simp[hq]);rw[wcL,A0x];omega
end
def C0z{t:A0a}(h:B0h t=0):A2W t=true/\A0o t<=1024:=by
 unfold B0h at h;split at h;case isFalse=>simp at h
 rename_i h1;simp only[B0E,Z0g,Z0m]at h1;exact⟨h1.1.1,h1.2⟩
def A8t(a:Int):∀(ts:List A5z) (j:Nat) (x:A0a),x∈A1F a ts j->∃t∈ts,∃j',j<=j'/\j'<j+ts.length/\x=A1U a (j':Nat) t.1 0 0
 |[],j,x,h=>by simp[A1F]at h
 |t::ts,j,x,h=>by
  rw[A1F]at h;rcases Z0u.1 h with rfl|h
  .exact⟨t,by simp,j,Z0n _,by simp,rfl⟩
  .obtain⟨t',h1,j',h2,h3,h4⟩:=A8t a ts (j+1) x h;exact⟨t',by simp[h1],j',by omega,by simp;omega,h4⟩
def B7w(a:Int):∀(ts:List A5z) (j:Nat),∀x∈A3N (A1F a ts j),x.item<((j+ts.length:Nat):Int)
 |[],j,x,h=>by rw[A1F,A3N]at h;simp at h
 |t::ts,j,x,h=>by
  rw[A1F,A3N,A9g]at h;rcases Z0V.1 h with h|h
  .rw[(B3M h).2];simp;omega
  .have:=B7w a ts (j+1) x h;simp at this|-;omega
section
variable {F:IdD->Option A0a} {l:List A0Q} {s:List A1P}
def D0N(hp:∀j:Nat,j<l.length->A2w l j<j):∀(n f g:Nat),n<l.length->n<f->n<g->A2Q l f n=A2Q l g n:=by
 intro n;induction n using Nat.strongRecOn with
 |ind n ih=>
  intro f g hn hf hg;obtain⟨f,rfl⟩:∃f',f=f'+1:=⟨f-1,by omega⟩;obtain⟨g,rfl⟩:∃g',g=g'+1:=⟨g-1,by omega⟩;rw[A2Q,A2Q,Z0e (by omega),Z0e (by omega)];congr 1;have h1:=hp n hn;by_cases hneg:A2w l n<0
  .have z:∀f,A2Q l f (A2w l n)=0:=λf=>by
    cases f with
    |zero=>rw[A2Q]
    |succ f=>rw[A2Q,Z0d hneg]
   rw[z,z]
  .obtain⟨p,a⟩:∃p:Nat,A2w l n=p:=⟨(A2w l n).toNat,by omega⟩;rw[a];exact ih p (by omega) f g (by omega) (by omega) (by omega)
def C7g{ks:List A0a}{m:Nat}(h:∀k∈ks,1+A1R k<=m):A3i ks<=m:=by
 induction ks with
 |nil=>rw[A3i];omega
 |cons k ks ih=>rw[A3i];have:=h k (by simp);have:=ih λq hq=>h q (by simp[hq]);omega
def B6m(a:∀j,j<l.length->B0C l j)(h8:∀n,n<l.length->A2Q l (n+1) n<=8):∀f n,n<l.length->l.length<=f+n->A1R (A2l F l s f n).1+A2Q l (n+1) n<=8
 |0,n,h1,h2=>by omega
 |f+1,n,h1,h2=>by
  have hp:∀j:Nat,j<l.length->A2w l j<j:=λj hj=>by have:=(a j hj j hj (Z0n _)).2;simpa[A2w,hj]using this
  have c:=h8 n h1;rw[A2l];simp only;rw[A1R];have:A3i (((A3T l n l.length).map (A2l F l s f)).map (·.1))<=8-A2Q l (n+1) n:=by
   refine C7g λk hk=>?_;rw[Z1G]at hk;obtain⟨q,hq,rfl⟩:=Z0H.1 hk;obtain⟨h3,h4⟩:=B2e a hq;have ih:=B6m a h8 f q h4 (by omega);have b:A2w l q=(n:Int):=by simp only[A3T,Z1t,Z1i,Z0m]at hq;exact hq.2
   (have e:A2Q l (q+1) q=A2Q l (n+1) n+1:=by rw[A2Q,Z0e (by omega),b,D0N hp n q (n+1) h1 h3 (by omega)]);show 1+A1R (A2l F l s f q).1<=_
   omega
  omega
end
structure D3z (u:A0a) (l:List A0Q):Prop where
 deep:∀n,n<l.length->A2Q l (n+1) n<=8
 nest:∀n,n<l.length->A4v (A4L (λx=>A0U x u) l (A2w l n)) (A3J (λx=>A0U x u) l n).kind=true
 dup:∀n (h:n<l.length),∀k∈A3T l (A2w l n) n,¬(A9I l k=A9I l n/\(A3J (λx=>A0U x u) l k).kind=(A3J (λx=>A0U x u) l n).kind)
def B3c{u:A0a}{l:List A0Q}(hS:A6m u l){n:Nat}(hn:n<l.length):A4L (λx=>A0U x u) l n=(A3J (λx=>A0U x u) l n).kind:=by
 obtain⟨x,hx,_⟩:=hS.fd n hn;have h1:A3J (λx=>A0U x u) l n=x:=by simp[A3J,hn,hx]
 rw[h1];have:¬((n:Int)<0):=by omega
 simp[A4L,hn,hx,B9E,this]
def D4D{u:A0a}{l:List A0Q}(hS:A6m u l)(h:A7F (λx=>A0U x u) u l=0):D3z u l:=by
 unfold A7F at h;split at h
 .simp at h
 split at h;case isFalse hne=>exact absurd h hne
 rename_i hfe;have he:=λn (hn:n<l.length)=>B1u _ _ hfe n (Z3a _) (by omega);have key:∀n (h:n<l.length),A4v (A4L (λx=>A0U x u) l l[n].parent) (A4L (λx=>A0U x u) l n)=true/\(A3T l l[n].parent n).any (C2Z (λx=>A0U x u) l n l[n].label)=false/\A2Q l (n+1) n<=8:=by
  intro n hn;have h:=he n hn;simp only[B5m,Z0k hn]at h;split at h
  .simp at h
  split at h
  .simp at h
  split at h
  .simp at h
  split at h
  .simp at h
  split at h
  .simp at h
  rename_i h5;split at h
  .simp at h
  rename_i h6;split at h
  .simp at h
  rename_i h7;simp only[Z1A,Z0m,Z2L]at h7;exact⟨by simpa using h5,by simpa using h6,by omega⟩
 have a:∀n (h:n<l.length),A2w l n=l[n].parent:=λn hn=>by simp[A2w,hn]
 have b:∀n (h:n<l.length),A9I l n=l[n].label:=λn hn=>by simp[A9I,hn]
 refine⟨λn hn=>(key n hn).2.2,λn hn=>?_,λn hn k hk hc=>?_⟩
 .rw[a n hn,<-B3c hS hn];exact(key n hn).1
 .rw[a n hn]at hk;have:=List.any_eq_false.1 (key n hn).2.1 k hk;refine this ?_;have c:=A7z hk;simp only[C2Z,Z0g,Z0m];rw[B3c hS hn,B3c hS (by omega:k<l.length),<-b n hn];exact hc
def C2m(l:List A0Q):(A2T l).Pairwise (·<·):=by unfold A2T A3T;exact List.Pairwise.filter _ List.pairwise_lt_range
def B7B{l:List A0Q}{n:Nat}(h:n∈A2T l):n<l.length/\A2w l n=-1:=by simp only[A2T,A3T,Z1t,Z1i,Z0m]at h;exact h
def C0Q{F:IdD->Option A0a}{l:List A0Q}{s:List A1P}{f n:Nat}:(A2l F l s (f+1) n).1.kind=(A3J F l n).kind/\(A2l F l s (f+1) n).1.label=A9I l n:=⟨rfl,rfl⟩
def C3W(a i:Int)(t:A0a)(n w:Nat):(A1U a i t n w).kind=t.kind/\(A1U a i t n w).label=t.label:=by obtain⟨x1,x2,x3,x4,x5,x6⟩:=t;rw[A1U];exact⟨rfl,rfl⟩
section
variable {u:A0a} {l:List A0Q} {s:List A1P}
abbrev A2z(u:A0a)(l:List A0Q)(s:List A1P):List A5z:=A1G (λx=>A0U x u) l s
def B4V(u:A0a)(number:Int)(ts:List A5z)(i:Nat):A0a:=if i<=u.kids.length then A7I u (u.kids.drop i)else A7I u (A1F number (ts.take (i-u.kids.length)) u.kids.length)
def C3q(a:Int)(ts:List A5z){i:Nat}(h:i<=u.kids.length):B4V u a ts i=A7I u (u.kids.drop i):=Z0d h
def B6U(a:Int)(ts:List A5z)(j:Nat):B4V u a ts (u.kids.length+j)=A7I u (A1F a (ts.take j) u.kids.length):=by
 unfold B4V;by_cases h:j=0
 .subst h;rw[Z0d (by omega)];simp[A1F]
 .rw[Z0e (by omega),Z2h]
def D2D(g:Int)(ts:List A5z):B4V u g ts 0=u:=by rw[C3q g ts (Z3a _),Z1m];obtain⟨a,b,c,d,e,f⟩:=u;rfl
def D5E(a:Int)(ts:List A5z):B4V u a ts (u.kids.length+ts.length)=A2N u a ts:=by rw[B6U,List.take_length];rfl
structure E1z (u t:A0a) (number:Int) (i:Nat):Prop where
 hf:Fit u
 hft:Fit t
 hbt:A2Z t
 hkt:t.kind≠0
 hvt:B0h t=0
 hw:wcU t<=1000000000
 hx:Fit (A1U number i t 0 0)
 h64:u.kids.length<64
 hdp:A1R t<8
 hcn:A0o u+A0o t<=1024
 htk:B5r u (A1U number i t 0 0)=0
 hids:((A0V (A1U number i t 0 0)).any λy=>(A0V u).any λz=>decide (z=y))=false
def C3J(ts:List A5z)(j:Nat)(h:j<ts.length):A0x ((ts.take j).map (·.1))+A0o ts[j].1<=A0x (ts.map (·.1)):=by
 have h1:ts.map (·.1)=(ts.take j).map (·.1)++(ts.drop j).map (·.1):=by rw[<-Z0S,Z0X]
 rw[h1,A7J,Z0l h,Z0t,A0x];omega
def D8H(a9:Fit u)(hS:A6m u l)(hl:l.length<=500)(ai:∀s∈l,s.good)(ht:∀m∈s,m.to.length<=40)(hP:D3z u l)(am:u.kind=0)(ag:u.id=idZ)(b:Int)(ap:1<=b)(ar:b<=1048576) (af:u.kids.length+(A2z u l s).length<=32)(a0:∀t∈A2z u l s,B0h t.1=0){j:Nat}(hj:j<(A2z u l s).length):E1z (B4V u b (A2z u l s) (u.kids.length+j)) (A2z u l s)[j].1 b (u.kids.length+j):=by
 obtain⟨ts,d⟩:∃ts,ts=A2z u l s:=⟨_,rfl⟩
 have a6:=B4Q (s:=s) hS b
 rw[A2N,A0o,A5u]at a6
 have aq:ts.length=(A2T l).length:=by rw[d];simp[A1G]
 have a8:∀q,(h:q<ts.length)->∃f,(A2T l)[q]'(by omega)<l.length/\ts[q]=A2l (λx=>A0U x u) l s (f+1) ((A2T l)[q]'(by omega))/\l.length=f+1:=λq h=>by have hr:=(B7B (Z0y (show q<(A2T l).length by omega))).1;refine⟨l.length-1,hr,?_,by omega⟩;subst d;rw[show l.length-1+1=l.length by omega];simp[A2z,A1G]
 have g:∀t∈ts,Fit t.1/\A2Z t.1:=λt h=>by rw[d]at h;obtain⟨n,hn,rfl⟩:=Z0H.1 h;exact⟨B4P hS (by omega) ai ht (A7z hn) (by omega),B2V _ _ _ _ _⟩
 have a6:1+A0x (ts.map (·.1))=l.length+1:=by rw[d];exact a6
 rw[<-d]at af a0 hj
 have al:inI b:=by simp only[inI];omega
 have aa:∀t∈ts,∀i:Nat,i<=1000->Fit (A1U b i t.1 0 0)/\wcU t.1<=1000000000:=λt h i hi=>by obtain⟨r1,r2⟩:=C0z (a0 t h);have hw:=B8E t.1 r1;obtain⟨f1,f2⟩:=g t h;have hc:=f1.2.2;obtain⟨g1,g2⟩:=B5l (a:=b) (i:=i) al (by simp only[inI];omega) t.1 0 0 f1.1 f1.2.1 (by omega) (by omega);exact⟨⟨g1,g2,by rw[A8p];exact hc⟩,by omega⟩
 have e:(A2z u l s)[j]'(by rw[<-d];exact hj)=ts[j]:=by subst d;rfl
 rw[e,<-d,B6U]
 have k:ts[j]∈ts:=Z0y hj
 obtain⟨f,a4,a7,au⟩:=a8 j hj
 have p:=C0Q (F:=λx=>A0U x u) (l:=l) (s:=s) (f:=f) (n:=(A2T l)[j]'(by omega))
 rw[<-a7]at p
 have ah:(A2T l)[j]'(by omega)∈A2T l:=Z0y _
 have a2:=(B7B ah).2
 have c:=hP.nest _ a4
 rw[a2]at c
 have ak:A4L (λx=>A0U x u) l (-1)=0:=rfl
 rw[ak]at c
 have ao:=C3J ts j hj
 have a5:∀x∈A1F b (ts.take j) u.kids.length,x.good/\x.lims:=λx hx=>by obtain⟨t,h1,j',h2,h3,rfl⟩:=A8t b _ _ x hx;have:=(aa t (Z1p h1) j' (by have:=List.length_take_le j ts;omega)).1;exact⟨this.1,this.2.1⟩
 obtain⟨s1,s2⟩:=aa _ k (u.kids.length+j) (by omega)
 have a1:=C3W b (u.kids.length+j:Nat) ts[j].1 0 0
 refine⟨B7Z a9 a5 (by rw[A5u];omega),(g _ k).1,(g _ k).2,?_,a0 _ k,s2,s1,?_,?_,?_,?_,?_⟩
 .rw[p.1];have:=D4f c;omega
 .show(A1F _ _ _).length<64;rw[B5S,Z0B];omega
 .have hd:=B6m (F:=λx=>A0U x u) (s:=s) hS.ord hP.deep (f+1) _ a4 (by omega);rw[<-a7]at hd;have h1:A2Q l ((A2T l)[j]'(by omega)+1) ((A2T l)[j]'(by omega):Nat)=1:=by
   rw[A2Q,Z0e (by omega),a2];cases(A2T l)[j]'(by omega)with
   |zero=>rw[A2Q]
   |succ q=>rw[A2Q,Z0d (by omega)]
  omega
 .rw[A7I,A0o,A5u];omega
 .unfold B5r;have ad:(A7I u (A1F b (ts.take j) u.kids.length)).kind=0:=am;rw[ad,a1.1,p.1,c,Z0e (by simp),Z0e];intro ab;obtain⟨x,hx,o⟩:=Z2o.1 ab;obtain⟨t,h1,j',h2,h3,rfl⟩:=A8t b _ _ x hx;obtain⟨q,hq,rfl⟩:=Z3b h1;have an:q<j:=by simp at hq;omega
  have ac:q<ts.length:=by omega
  obtain⟨f',r1,r2,r3⟩:=a8 q ac;have r:=C0Q (F:=λx=>A0U x u) (l:=l) (s:=s) (f:=f') (n:=(A2T l)[q]'(by omega));rw[<-r2]at r;have w:=C3W b (j':Nat) ts[q].1 0 0;rw[List.getElem_take]at o;simp only[kl2,Z0g,Z0m]at o;rw[w.1,w.2,a1.1,a1.2,p.1,p.2,r.1,r.2]at o;have aj:(A2T l)[q]'(by omega)<(A2T l)[j]'(by omega):=Z2s.1 (C2m l) q j (by omega) (by omega) an;have ae:=(B7B (Z0y (show q<(A2T l).length by omega))).2;exact hP.dup _ a4 _ (by rw[a2];exact D2Y aj ae) ⟨o.2,o.1⟩
 .rw[List.any_eq_false];intro y hy hc;obtain⟨z,hz,a3⟩:=Z2o.1 hc;have a3:z=y:=by simpa using a3
  subst a3;rw[A9g]at hy;obtain⟨y1,y2⟩:=B3M hy;rw[A7I,A0V]at hz;rcases Z0u.1 hz with hz|hz
  .rw[hz,ag]at y1;simp[idZ]at y1;omega
  .have:=B7w b _ _ z hz;rw[y2,Z0B]at this;omega
end
def C0i(u:A0a)(l:List A0Q)(s:List A1P)(number day:Int):Int:=
 if A7F (λx=>A0U x u) u l≠0 then A7F (λx=>A0U x u) u l
 else if C2j number day=true then 1
 else if((A0V u).tail.any λx=>decide (x.act=number))=true then 5
 else C4U u (A2z u l s)
def D5Q(u:A0a)(l:List A0Q)(s:List A1P)(number day:Int):D6U u l s number day=if C0i u l s number day=0 then .tuple [C8I number day (A2x u++A3k (A2z u l s)),.list 6 ((A5a number u (A2z u l s)).map A4E) .no,I 0]else A5v (C0i u l s number day):=by
 unfold D6U C0i
 simp only
 split
 .rfl
 split
 .rw[Z0e (by omega)]
 split
 .rw[Z0e (by omega)]
 split
 .rfl
 .rename_i h;rw[Z0d (by simpa using h)]
structure B5L (u:A0a) (l:List A0Q) (s:List A1P) (number day:Int):Prop where
 plan:A7F (λx=>A0U x u) u l=0
 n1:1<=number
 n2:number<=1048576
 new:∀x∈(A0V u).tail,x.act≠number
 len:u.kids.length+(A2z u l s).length<=32
 fmt:∀t∈A2z u l s,B0h t.1=0
 sound:A6m u l
 slots:D3z u l
 kind:u.kind=0
 id:u.id=idZ
 right:A2W u=true
def C8v{a b:Int}(h:A9f a b=0):a=0/\b=0:=by
 unfold A9f at h;split at h
 .rename_i h1;rcases h1 with rfl|h1
  .simp at h
  .exact⟨h1,h⟩
 .rename_i h1;omega
def B7K:∀(ts:List A5z) (e:Int),A7r ts e=0->e=0/\∀t∈ts,C6H t=0
 |[],e,h=>⟨h,by simp⟩
 |t::ts,e,h=>by
  have h2:A7r ts (A9f e (C6H t))=0:=h;obtain⟨h3,h4⟩:=B7K ts _ h2;obtain⟨h5,h6⟩:=C8v h3;refine⟨h5,λq hq=>?_⟩;rcases Z0u.1 hq with rfl|hq
  .exact h6
  .exact h4 q hq
def D7i{u:A0a}(h:B2A u=true):u.id=idZ:=by
 simp only[B2A,D4q,Z0g,Z0m]at h;obtain⟨⟨c,⟨⟨hr,d⟩,hc⟩,a⟩,b⟩:=h;have e:(A0V u).Nodup:=by have:=A8H (A0V u) [] List.nodup_nil b;simpa using this
 unfold D4z at a;simp only[Z1A,Z0g,Z0p,Z0m,Z2Q]at a;rcases a with h|h
 .exact h _ (B8T u)
 .have:=h.1;rw[Z0w c]at this;simpa using this
def C1t{u:A0a}{l:List A0Q}{s:List A1P}{number day:Int}(hf:Fit u)(h:C0i u l s number day=0):B5L u l s number day:=by
 unfold C0i at h;split at h
 .rename_i h1;exact absurd h h1
 rename_i hp;simp only[ne_eq,Decidable.not_not]at hp;split at h
 .simp at h
 rename_i hb;split at h
 .simp at h
 rename_i hn;have hS:=C4j hf hp;have b:B2A u=true:=by
  unfold A7F at hp;split at hp
  .simp at hp
  .rename_i h1;simpa using h1
 have a:=b;simp only[B2A,D4q,Z0g,Z0m]at a;simp only[C2j,Z1A,Z0m,Z2L]at hb;unfold C4U at h;split at h
 .simp at h
 rename_i h32;have c:=(B7K _ _ h).2;refine⟨hp,by omega,by omega,λx hx e=>?_,by omega,λt ht=>?_,hS,D4D hS hp,a.1.1,D7i b,a.1.2.1.1.1⟩
 .refine hn (Z2o.2 ⟨x,hx,by simpa using e⟩)
 .have:=c t ht;unfold C6H at this;split at this
  .assumption
  .simp at this
section
variable {u:A0a} {l:List A0Q} {s:List A1P} {number day:Int}
def D0Q(hA:B5L u l s number day):(A0V u).Nodup:=hA.sound.nu
def D4x(gl:Nat->AV)(f:gl 0=A2u)(o:gl 1=A2J)(b:gl 3=.cptr [fnV 444,fnV 445])(hf:Fit u)(hl:l.length<=500)(k:∀s∈l,s.good)(ht:∀m∈s,m.to.length<=40)(hA:B5L u l s number day)(d:Int):∀i (h:i<(A2x u++A3k (A2z u l s)).length) M,A0e (WC gl) 133 [.agg (B4V u number (A2z u l s) i).row,.agg (enR number i d (A2x u++A3k (A2z u l s))[i])] M (λv M'=>v=.tuple [.agg (B4V u number (A2z u l s) (i+1)).row,I 0]/\M'=M):=by
 intro i h M
 have a:(A2x u).length=u.kids.length:=by simp[A2x]
 have e:(A3k (A2z u l s)).length=(A2z u l s).length:=by simp[A3k]
 rw[Z0q,a,e]at h
 have hn:=D0Q hA
 by_cases hi:i<u.kids.length
 .have e1:(A2x u++A3k (A2z u l s))[i]'(by rw[Z0q];omega)=.rep [A3o,⟨u.kids[i].kind,u.kids[i].label⟩]:=by rw[List.getElem_append_left (by omega)];simp only[A2x,Z2b];rw[D4u hn (Z0y hi)];rfl
  rw[e1,C3q _ _ (by omega),C3q _ _ (by omega)];obtain⟨k1,k2⟩:=D2R hA.right hA.kind hi;exact C1Y gl b (A7I u (u.kids.drop i)) u.kids[i] (u.kids.drop (i+1)) number i d M (Z0l hi) (D4w hf i) (C8u hn i) k1 k2
 .obtain⟨j,rfl⟩:∃j,i=u.kids.length+j:=⟨i-u.kids.length,by omega⟩;have hj:j<(A2z u l s).length:=by omega
  have e1:(A2x u++A3k (A2z u l s))[u.kids.length+j]'(by rw[Z0q];omega)=.ins (A2z u l s)[j].1:=by rw[Z3d (by omega)];simp only[a,Z2h,A3k,Z2b]
  have hI:=D8H hf hA.sound hl k ht hA.slots hA.kind hA.id number hA.n1 hA.n2 hA.len hA.fmt hj;have c:=C3I gl f o b (B4V u number (A2z u l s) (u.kids.length+j)) (A2z u l s)[j].1 number (u.kids.length+j) d M hI.hf hI.hft hI.hbt hI.hkt hI.hvt hI.hw hI.hx hI.h64 hI.hdp hI.hcn hI.htk hI.hids;rw[e1];have e2:A7I (B4V u number (A2z u l s) (u.kids.length+j)) ((B4V u number (A2z u l s) (u.kids.length+j)).kids++[A1U number (u.kids.length+j:Nat) (A2z u l s)[j].1 0 0])=B4V u number (A2z u l s) (u.kids.length+j+1):=by rw[show u.kids.length+j+1=u.kids.length+(j+1)by omega,B6U,B6U];have g:(A2z u l s)[j]?=some (A2z u l s)[j]:=Z0k hj;rw[Z1H,g,B5X,Z0B,Z1y (by omega)];rfl
  rw[e2]at c;exact c
def C7F(gl:Nat->AV)(f:gl 0=A2u)(e:gl 1=A2J)(a:gl 3=.cptr [fnV 444,fnV 445])(hf:Fit u)(hl:l.length<=500)(c:∀s∈l,s.good)(ht:∀m∈s,m.to.length<=40)(hA:B5L u l s number day)(d:Int)(M:Mem):A0e (WC gl) 26 [.agg u.row,C8I number d (A2x u++A3k (A2z u l s))] M (λr M'=>r=.tuple [.agg (A2N u number (A2z u l s)).row,A0E]/\M'=M):=by
 have b:(A2x u++A3k (A2z u l s)).length=u.kids.length+(A2z u l s).length:=by simp[A2x,A3k]
 have h:=D5c gl u number d (A2x u++A3k (A2z u l s)) (B4V u number (A2z u l s)) M (by have:=hA.len;omega) (D2D _ _) (D4x gl f e a hf hl c ht hA d)
 rw[b,D5E]at h
 exact h
end
def D5e(u:A0a)(l:List A0Q)(s:List A1P)(number:Int):AV:=if C0i u l s number 0=0 then .tuple [.agg (A2N u number (A2z u l s)).row,.list 6 ((A5a number u (A2z u l s)).map A4E) .no,I 0]else .tuple [.agg zU,A0E,I (C0i u l s number 0)]
def D0W(n:Nat)(D:List (IdD×IdD)):bdd n (.list 6 (D.map A4E) .no):=A7x (λx=>by simp[A4E,A1K,bdd]) D
def D0r:A0D prog 27 []=some (.agg zU):=by simp[A0D,A1k,zU]
section
variable (gl:Nat->AV)
set_option maxHeartbeats 1000000 in
def D2k(q:gl 0=A2u)(p:gl 1=A2J)(z:gl 3=.cptr [fnV 444,fnV 445])(u:A0a)(l:List A0Q)(s:List A1P)(number:Int)(M:Mem)(hf:Fit u)(hl:l.length<=500)(r:∀s∈l,s.good)(hs:s.length<=1000)(ht:∀m∈s,m.to.length<=40):A0e (WC gl) 24 [.agg u.row,.list 5 (A2h l) .no,.list 5 (A3C s) .no,I number] M (λv M'=>v=D5e u l s number/\M'=M):=by
 refine A0e.dataX ?_
 have a:=λM=>D8Y gl q p u l s number 0 M hf (by omega) r hs ht
 rw[D5Q]at a
 obtain⟨b,hb⟩:∃b,b=M.length:=⟨_,rfl⟩
 obtain⟨M1,i⟩:∃M1,M1=M++[z8]:=⟨_,rfl⟩
 have h1:M1[b]?=some z8:=by rw[i,hb];simp
 have k:Grow M M1:=by rw[i];exact A0c.app none _ _
 unfold D5e
 by_cases he:C0i u l s number 0=0
 .have g:=λM=>C7F gl q p z hf hl r ht (C1t hf he) 0 M;rw[Z0d he]at a|-;have a2:=D0W M.length (A5a number u (A2z u l s));obtain⟨y,hy⟩:∃y,y=A2N u number (A2z u l s):=⟨_,rfl⟩;rw[<-hy]at g|-;generalize(A5a number u (A2z u l s)).map A4E=D at*;generalize A2x u++A3k (A2z u l s)=f at*;obtain⟨M2,c⟩:∃M2,M2=M1++[A0j.cells 49 [I number,S B1D,I 0,I 1,I 0,eS,.list 25 (f.map A1y.row) .no]]:=⟨_,rfl⟩;have hq:M2[M1.length]?=some (A0j.cells 49 [I number,S B1D,I 0,I 1,I 0,eS,.list 25 (f.map A1y.row) .no]):=by rw[c];simp
  have d:Grow M1 M2:=by rw[c];exact A0c.app none _ _
  obtain⟨M3,o⟩:∃M3,M3=M2++[A0j.cells 27 y.row]:=⟨_,rfl⟩;have j:Grow M2 M3:=by rw[o];exact A0c.app none _ _
  have hp:A1D prog 27 M3 (.ptr M2.length 0)=some (.agg y.row):=by
   (have h:M3[M2.length]?=some (A0j.cells 27 y.row):=by rw[o];simp);rw[y.row_eq]at h|-
   rw[A0b h];simp
  have h3:=j.get (d.get h1 (by simp)) (by simp);have a0:b<M3.length:=(Z0b.1 h3).1;rw[C8I]at a g;rw[u.row_eq]at a g|-;refine A0m hB func24 ?_;simp -dsimp -implicitDefEqProofs[A0k];rw[<-i,<-hb];refine A0g func20 (a M1) ?_;simp -dsimp -implicitDefEqProofs[A0k,A0l,A0d,A0L,A0K];rw[<-c];simp -dsimp -implicitDefEqProofs[A0b hq];refine A0g func26 (g M2) ?_;simp -dsimp -implicitDefEqProofs[A0k,A0l,A0d,A0L,A0K];rw[<-o];simp -dsimp -implicitDefEqProofs[hp,A0f h3,A0L,A0K,A0v a0,A0h];exact⟨A1g (k.trans (d.trans j)) (by omega),.tuple (.same (by simp only[bdd];exact A2D _ _) (.same (by rw[hb];exact a2) (.same trivial .nil))) .nil⟩
 .rw[Z0e he]at a|-;obtain⟨e,t⟩:∃e,e=C0i u l s number 0:=⟨_,rfl⟩;rw[<-t]at he a|-;obtain⟨M2,c⟩:∃M2,M2=M1++[A0j.cells 49 [I 0,eS,I 0,I 0,I 0,eS,A0E]]:=⟨_,rfl⟩;have d:Grow M1 M2:=by rw[c];exact A0c.app none _ _
  have h2:=d.get h1 (by simp);have w:b<M2.length:=(Z0b.1 h2).1;rw[A5v,A9U]at a;rw[u.row_eq]at a|-;refine A0m hB func24 ?_;simp -dsimp -implicitDefEqProofs[A0k];rw[<-i,<-hb];refine A0g func20 (a M1) ?_;simp -dsimp -implicitDefEqProofs[A0k,A0l,A0d,A0L,A0K,he,D0r];rw[<-c];have a3:A0l (some 8) M2 (.ptr b 0) (.agg zU)=some (M2.set b (.cells 27 zU)):=by rw[A0f h2];rfl
  have a1:A1d prog 27 zU=some (.agg zU):=by kernel_rfl
  simp -dsimp -implicitDefEqProofs[h2,A0v w,a1];exact⟨A1g (k.trans d) (by omega),.tuple (.same (by simp[bdd,A1K,zU]) (.same trivial (.same trivial .nil))) .nil⟩
end
def B2t(x:IdD)(D:List (IdD×IdD)):Option IdD:=(D.find? λy=>decide (y.1=x)).map (·.2)
def idO:Option IdD->IdD
 |some x=>x
 |none=>idZ
section
variable (gl:Nat->AV) (M:Mem)
def D0O(x:IdD)(D:List (IdD×IdD))(o:Own)(hl:D.length<=1000000):A0e (WC gl) 31 [.agg x.row,.list 6 (D.map A4E) o] M (λv M'=>v=.tuple [.agg (idO (B2t x D)).row,B (B2t x D).isSome]/\M'=M):=by
 refine A0e.dataX ?_;have hx:x.row=[I x.act,I x.item,I x.n]:=rfl;obtain⟨b,hb⟩:∃b,b=M.length:=⟨_,rfl⟩;obtain⟨M1,e⟩:∃M1,M1=M++[A0j.cells 23 [I 0,I 0,I 0]]:=⟨_,rfl⟩;have h1:M1[b]?=some (A0j.cells 23 [I 0,I 0,I 0]):=by rw[e,hb];simp
 have h:Grow M M1:=by rw[e];exact A0c.app none _ _
 have f:b<M1.length:=(Z0b.1 h1).1;have hR:∀o:Option IdD,(idO o).row=[I (idO o).act,I (idO o).item,I (idO o).n]:=λ_=>rfl;obtain⟨R,g⟩:∃R,R=B2t x D:=⟨_,rfl⟩;rw[<-g,hx,hR];refine A0m hB func31 ?_;simp -dsimp -implicitDefEqProofs[A0k];rw[<-e,<-hb];refine A0F hB D.length 6 (λT Mi=>∃i:Nat,i<=D.length/\Mi=M1/\T 1=.list 6 (D.map A4E) o/\T 2=.cptr [I x.act,I x.item,I x.n]/\T 4=.ptr b 0/\T 6=I i/\R=B2t x (D.drop i)) ?_ ?_
 .exact⟨0,by omega,rfl,by simp,by simp,by simp,by simp,by simpa using g⟩
 rintro T Mi ⟨i,i1,rfl,t1,t2,t4,t6,hr⟩;by_cases hi:i<D.length;case neg=>
  have a:¬(i:Int)<D.length:=by omega
  rw[Z0x (by omega)]at hr;have hr:R=none:=hr;subst hr;have k:A0D prog 23 []=some (.agg [I 0,I 0,I 0]):=by simp[A0D,A1k]
  simp -dsimp -implicitDefEqProofs[t1,t2,t4,t6,a,k,A0f h1,A0L,A0K,A0v f,A0h,idO,idZ];exact⟨A1g h (by omega),.same (by simp[bdd,A1K]) .nil⟩
 have a:(i:Int)<D.length:=by omega
 have w1:IntKind.i64.wrap ((i:Int)+1)=(i+1:Nat):=by rw[A0Z (by omega) (by omega)];omega
 obtain⟨y,hy⟩:∃y,y=D[i]:=⟨_,rfl⟩;have d:D[i]=y:=hy.symm;have j:(D.map A4E)[i]?=some [I y.1.act,I y.1.item,I y.1.n,I y.2.act,I y.2.item,I y.2.n]:=by rw[hy];simp[hi,A4E]
 have he:=B4h y.1 x;rw[Z0l hi,d,B2t,Z2R]at hr;by_cases c:y.1=x
 .rw[Z0w c]at hr he;have hr:R=some y.2:=hr;subst hr;simp -dsimp -implicitDefEqProofs[t1,t2,t4,t6,a];refine A1v hB (A0I gl) (λ_=>0) (λ_=>0) (by rfl) (by kernel_rfl) ?_;simp -dsimp -implicitDefEqProofs[t1,t2,t4,t6,hi,a,j,d,A4E,he,A0f h1,A0L,A0K,A0v f,A0h,idO];exact⟨A1g h (by omega),.same (by simp[bdd,A1K]) .nil⟩
 .rw[Z0z c]at hr he;simp -dsimp -implicitDefEqProofs[t1,t2,t4,t6,a];refine A1v hB (A0I gl) (λ_=>0) (λ_=>0) (by rfl) (by kernel_rfl) ?_;simp -dsimp -implicitDefEqProofs[t1,t2,t4,t6,hi,a,j,d,A4E,he,w1];exact⟨⟨i+1,by clear w1;omega,rfl,hr⟩,by clear w1;omega⟩
def D4l(D:List (IdD×IdD))(o:Own)(hl:D.length<=1000000)(h1:(D.map (·.1)).Nodup)(h2:(D.map (·.2)).Nodup):A0e (WC gl) 29 [.list 6 (D.map A4E) o] M (λv M'=>v=B true/\M'=M):=by
 refine A0m hB func29 ?_;simp -dsimp -implicitDefEqProofs;refine A0F hB D.length 3 (λT Mi=>∃i:Nat,i<=D.length/\Mi=M/\T 0=.list 6 (D.map A4E) o/\T 3=I i) ?_ ?_
 .exact⟨0,by omega,rfl,by simp,by simp⟩
 rintro T Mi ⟨i,i1,rfl,t0,t3⟩;by_cases hi:i<D.length;case neg=>
  have a:¬(i:Int)<D.length:=by omega
  simp -dsimp -implicitDefEqProofs[t0,t3,a]
 have a:(i:Int)<D.length:=by omega
 have w1:IntKind.i64.wrap ((i:Int)+1)=(i+1:Nat):=by rw[A0Z (by omega) (by omega)];omega
 simp -dsimp -implicitDefEqProofs[t0,t3,a];have g:=t3;refine A6F (.exit 2) (λT Mj=>T 0=.list 6 (D.map A4E) o/\T 3=I i/\Mj=Mi) ?_ ?_;case refine_2=>rintro T Mj ⟨t0,t3,rfl⟩;simp -dsimp -implicitDefEqProofs[t0,t3,w1,g];exact⟨⟨i+1,by clear w1;omega,rfl⟩,by clear w1;omega⟩
 refine A0F hB i 4 (λT Mj=>∃k:Nat,k<=i/\Mj=Mi/\T 0=.list 6 (D.map A4E) o/\T 3=I i/\T 4=I k) ?_ ?_
 .exact⟨0,by omega,rfl,by simp[t0],by simp[t3],by simp⟩
 clear t0 t3 g;rintro T Mj ⟨k,k1,rfl,t0,t3,t4⟩;by_cases hk:k<i;case neg=>
  have f:¬(k:Int)<i:=by omega
  simp -dsimp -implicitDefEqProofs[t0,t3,t4,f]
 have f:(k:Int)<i:=by omega
 have c:k<D.length:=by omega
 have h:(k:Int)<D.length:=by omega
 have w2:IntKind.i64.wrap ((k:Int)+1)=(k+1:Nat):=by rw[A0Z (by omega) (by omega)];omega
 obtain⟨x,hx⟩:∃x,x=D[i]:=⟨_,rfl⟩;obtain⟨y,hy⟩:∃y,y=D[k]:=⟨_,rfl⟩;have b:D[i]=x:=hx.symm;have d:D[k]=y:=hy.symm;have n1:¬x.1=y.1:=λe=>by have:=Z2s.1 h1 k i (by simpa using c) (by simpa using hi) hk;simp only[Z2b]at this;rw[b,d]at this;exact this e.symm
 have n2:¬x.2=y.2:=λe=>by have:=Z2s.1 h2 k i (by simpa using c) (by simpa using hi) hk;simp only[Z2b]at this;rw[b,d]at this;exact this e.symm
 have e1:=B4h x.1 y.1;have e2:=B4h x.2 y.2;rw[Z0z n1]at e1;rw[Z0z n2]at e2;simp -dsimp -implicitDefEqProofs[t0,t3,t4,f];refine A1v hB (A0I gl) (λ_=>0) (λ_=>0) (by rfl) (by kernel_rfl) ?_;simp -dsimp -implicitDefEqProofs[t0,t3,t4,hi,a,c,h,b,d,A4E,e1,e2,w2];exact⟨⟨k+1,by clear w2;omega,rfl⟩,by clear w2;omega⟩
end
section
variable {u:A0a} {l:List A0Q} {s:List A1P} {number day:Int}
def D7c(hf:Fit u)(hl:l.length<=500)(c:∀s∈l,s.good)(ht:∀m∈s,m.to.length<=40)(hA:B5L u l s number day):Fit (A2N u number (A2z u l s)):=by
 have d:A0o (A2N u number (A2z u l s))=l.length+1:=B4Q (s:=s) hA.sound number;have b:inI number:=by have:=hA.n1;have:=hA.n2;simp only[inI];omega
 have e:=hA.len;refine B7Z (u:=u) (ks:=A1F number (A2z u l s) u.kids.length) hf (λx hx=>?_) ?_
 .obtain⟨t,h1,j',h2,h3,rfl⟩:=A8t number _ _ x hx;obtain⟨r1,r2⟩:=C0z (hA.fmt t h1);have hw:=B8E t.1 r1;obtain⟨n,hn,rfl⟩:=Z0H.1 h1;have f1:=B4P hA.sound (by omega) c ht (A7z hn) (f:=l.length) (by omega);have hc:=f1.2.2;exact B5l (a:=number) (i:=j') b (by simp only[inI];omega) _ 0 0 f1.1 f1.2.1 (by omega) (by omega)
 .have:A0o (A2N u number (A2z u l s))=1+A0x (A1F number (A2z u l s) u.kids.length):=by rw[A2N,A0o]
  omega
def C6C{α β:Type}[DecidableEq α](f:α->β):∀(L:List α) (x:α),x∈L->(L.map λy=>(y,f y)).find? (λq=>decide (q.1=x))=some (x,f x)
 |y::L,x,h=>by
  rw[Z0t,Z2R];by_cases c:y=x
  .subst c;simp
  ·(have:decide ((y,f y).1=x)=false:=by simp[c]);rw[this]
   exact C6C f L x (by rcases Z0u.1 h with e|e;exact absurd e.symm c;exact e)
def C8R(hA:B5L u l s number day){x:IdD}(hx:x∈(A0V u).tail):B2t x (A5a number u (A2z u l s))=some (A8L u l s number x):=by have:=B9H (s:=s) hA.sound number;rw[B2t,show A5a number u (A2z u l s)=_ from this,C6C _ _ _ hx];rfl
structure D9w (u v:A0a) (l:List A0Q) (D:List (IdD×IdD)) (i:Nat) (h:i<l.length):Prop where
 ex:∃(d:IdD) (x y p:A0a) (k:Int),B2t l[i].id D=some d/\A0U l[i].id u=some x/\A0U d v=some y/\x.kind=y.kind/\y.label=l[i].label/\A0H x.head=A0H y.head/\x.head.length<=100000000/\y.head.length<=100000000/\D1q d v=.tuple [.agg p.id.row,I k,B true]/\((l[i].parent<0/\p.id=idZ)\/∃(q:Nat) (hq:q<l.length),l[i].parent=(q:Int)/\B2t l[q].id D=some p.id)
def D4p{a b:List A0M}(h:A0H a=A0H b):a.length=b.length:=by have:=congrArg List.length h;simpa[A0H]using this
def D0J(hA:B5L u l s number day){i:Nat}(hi:i<l.length):D9w u (A2N u number (A2z u l s)) l (A5a number u (A2z u l s)) i hi:=by
 have hS:=hA.sound;have b:=D6X (u:=u) (l:=l) (s:=s) number hA.n1 hA.id;obtain⟨y,hy,a,c⟩:=D2Z (s:=s) hS number hi;obtain⟨x,hx,a0,a2,w⟩:=hS.fd i hi;have j:A3J (λy=>A0U y u) l i=x:=by simp[A3J,hi,hx]
 have o:∀k (h:k<l.length),B0K u l s number k=A8L u l s number l[k].id:=λk h=>by rw[B0K,D6Z hS h]
 have f:∀k (h:k<l.length),B2t l[k].id (A5a number u (A2z u l s))=some (B0K u l s number k):=λk h=>by rw[C8R hA (hS.mem _ (Z0y h)),o k h]
 have g:A9I l i=l[i].label:=by simp[A9I,hi]
 have d:A2w l i=l[i].parent:=by simp[A2w,hi]
 have t:A0U (B0K u l s number i) (A2N u number (A2z u l s))=some y:=by rw[<-a.id];exact C9B b hy
 have hh:=a.head;rw[j]at hh;have a1:=D4p hh;have e:=a.kind;rw[j]at e;have key:∃p,D3A (B0K u l s number i) (A2N u number (A2z u l s))=some p/\((l[i].parent<0/\p.id=idZ)\/∃(q:Nat) (hq:q<l.length),l[i].parent=(q:Int)/\B0K u l s number q=p.id):=by
  rw[<-a.id];rcases c with⟨h1,h2⟩|⟨q,h1,z,h2,h3,h4⟩
  .refine⟨_,C7u b (B1F _) h2,.inl ⟨by rw[<-d,h1];decide,hA.id⟩⟩
  ·(have hq:q<l.length:=by have:=(hS.ord i hi i hi (Z0n _)).2;omega);exact⟨z,C7u b h2 h4,.inr ⟨q,hq,by rw[<-d,h1],h3.symm⟩⟩
 obtain⟨p,m,r⟩:=key;refine⟨B0K u l s number i,x,y,p,A3t (λk=>(A0U (B0K u l s number i) k).isSome) p.kids 0,f i hi,hx,t,e.symm,by rw[a.label,g],hh.symm,by omega,by omega,?_,?_⟩
 .rw[D1q,m]
 .rcases r with h|⟨q,hq,h1,h2⟩
  .exact .inl h
  .exact .inr ⟨q,hq,h1,by rw[f q hq,h2]⟩
def C8j(hA:B5L u l s number day):((A5a number u (A2z u l s)).map (·.1)).Nodup/\((A5a number u (A2z u l s)).map (·.2)).Nodup/\(A5a number u (A2z u l s)).length=l.length:=by
 have hS:=hA.sound;have e:=B9H (s:=s) hS number;have hn:(A0V u).tail.Nodup:=hS.nu.sublist (List.tail_sublist _);rw[show A5a number u (A2z u l s)=_ from e,Z1G,Z1G,Z0R];refine⟨?_,?_,hS.len.symm⟩
 .have:((λx:IdD×IdD=>x.1)∘λx=>(x,A8L u l s number x))=id:=rfl;rw[this,List.map_id];exact hn
 .unfold List.Nodup;rw[Z3P];refine Z2N ?_ hn;intro a b ha hb c e;exact c (D3T (s:=s) hS number ha hb e)
end
section
variable (gl:Nat->AV)
end
section
variable (gl:Nat->AV)
end
mutual
def B9s:∀(u:A0a) (b a:Int),A9B u b a<=a->A9B u b a=A0o u
 |.mk _ _ _ _ _ ks,b,a,h=>by
  rw[A9B]at h|-;rw[A0o];by_cases c:20<b
  .rw[Z0d c]at h;omega
  .rw[Z0e c]at h|-;have:=B6d ks b a 1 h;omega
def B6d:∀(ks:List A0a) (b a n:Int),A7M ks b a n<=a->A7M ks b a n=n+A0x ks
 |[],b,a,n,h=>by rw[A7M,A0x];omega
 |k::ks,b,a,n,h=>by
  rw[A7M]at h|-;rw[A0x];by_cases c:n<=a
  .rw[Z0d c]at h|-;have h1:=B6d ks b a _ h;have h2:=B9s k (b+1) (a-n) (by omega);omega
  .rw[Z0e c]at h;omega
end
def B7b{l}(h:A7P l=true):l.length<=300:=by simp only[A7P,Z0g,Z0m]at h;exact h.2
mutual
def B9y:∀u:A0a,B1L u=true->A0o u<=1000->u.lims
 |.mk id k l h w ks,hw,hc=>by rw[B1L]at hw;simp only[Z0g,Z0m]at hw;obtain⟨⟨⟨h1,h2⟩,h3⟩,h4⟩:=hw;rw[A0o]at hc;have:=A2q ks;rw[A0a.lims];exact⟨⟨Z0Q (B7b h2) (by omega),Z0Q (B7b h3) (by omega),by show ks.length<=1000;omega,by show l.size<=1000;omega⟩,B5O ks h4 (by omega)⟩
def B5O:∀ks:List A0a,B0a ks=true->A0x ks<=1000->A6D ks
 |[],_,_=>by rw[A6D];trivial
 |k::ks,hw,hc=>by rw[B0a,Z0g]at hw;rw[A0x]at hc;rw[A6D];exact⟨B9y k hw.1 (by omega),B5O ks hw.2 (by omega)⟩
end
def D6l(u:A0a)(hg:u.good)(h:B6v u 30=true):Fit u/\A0o u<=30:=by
 simp only[B6v,Z0g,Z0m]at h;have:=B9s u 0 30 h.1;have hc:A0o u<=30:=by omega
 exact⟨⟨hg,B9y u h.2 (by omega),by omega⟩,hc⟩
def C2F(u:A0a)(l:List A0Q)(s:List A1P):Bool:=B6v u 30&&decide (l.length<=40)&&decide (s.length<=60)&&(l.all λs=>decide (s.label.size<=100))&&s.all λm=>decide (m.to.length<=40)
section
variable (gl:Nat->AV)
def D0x(u:A0a)(l:List A0Q)(s:List A1P)(M:Mem)(hg:u.good)(hl:l.length<=maxLen)(hs:s.length<=maxLen):A0e (WC gl) 11 [.agg u.row,.list 5 (A2h l) .no,.list 5 (A3C s) .no] M (λv M'=>v=B (C2F u l s)/\M'=M):=by
 have p:l.length<=9223372036854775807:=by simpa[maxLen]using hl
 have o:s.length<=9223372036854775807:=by simpa[maxLen]using hs
 have hf:=D3W gl u 30 M hg (by omega) (by omega);obtain⟨R,hR⟩:∃R,R=C2F u l s:=⟨_,rfl⟩;have a:R=(B6v u 30&&decide (l.length<=40)&&decide (s.length<=60)&&(l.all λs=>decide (s.label.size<=100))&&s.all λm=>decide (m.to.length<=40)):=hR;rw[<-hR];rw[u.row_eq]at hf|-;refine A0m hB func11 ?_;simp -dsimp -implicitDefEqProofs;refine A0g func46 hf ?_;cases c1:B6v u 30 with
 |false=>rw[c1]at a;simp only[Z0L]at a;simp -dsimp -implicitDefEqProofs[a]
 |true=>
 rw[c1,Z0J]at a;by_cases c2:l.length<=40;case neg=>
  have d:(40:Int)<l.length:=by omega
  have g:(l.length:Int)>40:=d;rw[Z0z c2]at a;simp only[Z0L]at a;simp -dsimp -implicitDefEqProofs[d,g,a]
 have d:¬(40:Int)<l.length:=by omega
 have g:¬(l.length:Int)>40:=d;rw[Z0w c2,Z0J]at a;by_cases c4:s.length<=60;case neg=>
  have e:(60:Int)<s.length:=by omega
  have k:(s.length:Int)>60:=e;rw[Z0z c4]at a;simp only[Z0L]at a;simp -dsimp -implicitDefEqProofs[d,g,e,k,a]
 have e:¬(60:Int)<s.length:=by omega
 have k:¬(s.length:Int)>60:=e;rw[Z0w c4,Z0J]at a;simp -dsimp -implicitDefEqProofs[d,g,e,k];refine A0F hB l.length 7 (λT M1=>∃i:Nat,i<=l.length/\M1=M/\T 1=.list 5 (A2h l) .no/\T 2=.list 5 (A3C s) .no/\T 7=I i/\R=(((l.drop i).all λs=>decide (s.label.size<=100))&&s.all λm=>decide (m.to.length<=40))) ?_ ?_
 .exact⟨0,by omega,rfl,by simp,by simp,by simp,by simpa using a⟩
 rintro T M1 ⟨i,i1,rfl,t1,t2,t7,ho⟩;by_cases hi:i<l.length;case neg=>
  have f:¬(i:Int)<l.length:=by omega
  rw[show l.drop i=[]from Z0x (by omega),Z3X,Z0J]at ho;simp -dsimp -implicitDefEqProofs[t1,t2,t7,f];refine A0F hB s.length 8 (λT M2=>∃j:Nat,j<=s.length/\M2=M1/\T 2=.list 5 (A3C s) .no/\T 8=I j/\R=(s.drop j).all λm=>decide (m.to.length<=40)) ?_ ?_
  .exact⟨0,by omega,rfl,by simp[t2],by simp,by simpa using ho⟩
  clear hi f t1 t2 t7 ho;rintro T M2 ⟨j,j1,rfl,t2,t8,ho⟩;by_cases hj:j<s.length;case neg=>
   (have h:¬(j:Int)<s.length:=by omega);rw[show s.drop j=[]from Z0x (by omega),Z3X]at ho
   simp -dsimp -implicitDefEqProofs[t2,t8,h,ho]
  have h:(j:Int)<s.length:=by omega
  have w1:=A2s (i:=j) (by omega);rw[Z0l hj,Z1C]at ho;by_cases c3:s[j].to.length<=40
  ·(have b:¬(40:Int)<s[j].to.length:=by omega);have c:¬(s[j].to.length:Int)>40:=b
   rw[Z0w c3,Z0J]at ho;simp -dsimp -implicitDefEqProofs[t2,t8,hj,h,A1P.row,b,c,w1];exact⟨⟨j+1,by clear w1;omega,rfl,ho⟩,by clear w1;omega⟩
  ·(have b:(40:Int)<s[j].to.length:=by omega);have c:(s[j].to.length:Int)>40:=b
   rw[Z0z c3,Z0L]at ho;simp -dsimp -implicitDefEqProofs[t2,t8,hj,h,A1P.row,b,c,ho]
 have f:(i:Int)<l.length:=by omega
 have w1:=A2s (i:=i) (by omega);rw[Z0l hi,Z1C]at ho;by_cases c3:l[i].label.size<=100
 .have b:¬(100:Int)<l[i].label.size:=by omega
  have c:¬(l[i].label.size:Int)>100:=b;rw[Z0w c3,Z0J]at ho;simp -dsimp -implicitDefEqProofs[t1,t2,t7,hi,f,A0Q.row,b,c,w1];exact⟨⟨i+1,by clear w1;omega,rfl,ho⟩,by clear w1;omega⟩
 .have b:(100:Int)<l[i].label.size:=by omega
  have c:(l[i].label.size:Int)>100:=b;rw[Z0z c3]at ho;simp only[Z0L]at ho;simp -dsimp -implicitDefEqProofs[t1,t2,t7,hi,f,A0Q.row,b,c,ho]
end
end Go.Abs
