/- The texts CeX, CeY, CeZ, CfC, CfD, CfE, CfF, CfG, CfH. -/
import Derived.Test.YtmpdkagfplajjaaGreatDoorGG38
import Derived.Test.YtmpdkagfplajjaaGreatDoorGG37
set_option linter.all false
set_option maxRecDepth 100000
namespace Go.Abs
open Go.Proofs TryTypes Tryz
def D0V{P:Program}{t kt et:TypeId}{k v:AV}{es:List (AV×AV×Nat)}{c:Nat}{M:Mem}(h1:A9B P t=some (kt,et))(h2:(A7z P kt||C0g P kt)=true)(h3:A5V P 30 kt k=true)(h4:A3k P kt k es=some none):A1N P t (M++[.map es c]) (.mapr M.length) k v=some (M++[.map (es++[(k,v,c)]) (c+1)]):=by
 have h:(M++[A0p.map es c])[M.length]?=some (.map es c):=by simp
 simp only[A1N,h1,h,h2,h3,Z3k,Z0M,h4]
 simp
def C5y{P:Program}{t kt et:TypeId}{k v:AV}{es:List (AV×AV×Nat)}{c b i:Nat}{M:Mem}(h0:M[b]?=some (.map es c))(h1:A9B P t=some (kt,et))(h2:(A7z P kt||C0g P kt)=true)(h3:A5V P 30 kt k=true)(h4:A3k P kt k es=some (some (i,v))):A1S P t M (.mapr b) k true=some (.tuple [v,.val (.bool true)]):=by simp only[A1S,h1,A4F,h0,h2,h3,Z3k,Z0M,h4]
def B4a{k:Int}{v:AV}{es:List (AV×AV×Nat)}{c:Nat}{M:Mem}(h4:A3k prog 3 (I k) es=some none):A1N prog 227 (M++[.map es c]) (.mapr M.length) (I k) v=some (M++[.map (es++[(I k,v,c)]) (c+1)]):=D0V (kt:=3) (et:=225) (by kernel_rfl) (by kernel_rfl) rfl h4
def A7M{k:Int}{v:AV}{es:List (AV×AV×Nat)}{c:Nat}{M:Mem}(h4:A3k prog 3 (I k) es=some none):A1N prog 262 (M++[.map es c]) (.mapr M.length) (I k) v=some (M++[.map (es++[(I k,v,c)]) (c+1)]):=D0V (kt:=3) (et:=260) (by kernel_rfl) (by kernel_rfl) rfl h4
def doE:List (AV×AV×Nat):=[(I 0,fnV 232,0),(I 1,fnV 233,1),(I 2,fnV 234,2),(I 3,fnV 235,3),(I 4,fnV 236,4),(I 5,fnV 237,5),(I 6,fnV 238,6)]
def rlV(a b:FuncId):AV:=.agg [fnV a,fnV b]
def ruE:List (AV×AV×Nat):=[(I 0,rlV 300 301,0),(I 1,rlV 304 305,1),(I 2,rlV 306 307,2),(I 3,rlV 310 311,3),(I 4,rlV 312 313,4),(I 5,rlV 314 315,5),(I 6,rlV 316 317,6),(I 7,rlV 444 445,7),(I 8,rlV 444 445,8),(I 9,rlV 444 445,9),(I 10,rlV 318 319,10),(I 11,rlV 321 322,11)]
def A4O{a b:FuncId}:A0w prog 260 [(0,fnV a),(1,fnV b)]=some (rlV a b):=by simp[A0w,A1e,A1r,A0e,AV.cells,AV.storable,rlV]
section
variable (gl:Nat->AV)
def B6Z(M:Mem):A0c (WC gl) 189 [] M (λv M'=>v=.mapr M.length/\M'=M++[.map doE 7]):=by refine A0o hB func189 ?_;simp -dsimp -implicitDefEqProofs;rw[B4a (by kernel_rfl)];simp -dsimp -implicitDefEqProofs;rw[B4a (by kernel_rfl)];simp -dsimp -implicitDefEqProofs;rw[B4a (by kernel_rfl)];simp -dsimp -implicitDefEqProofs;rw[B4a (by kernel_rfl)];simp -dsimp -implicitDefEqProofs;rw[B4a (by kernel_rfl)];simp -dsimp -implicitDefEqProofs;rw[B4a (by kernel_rfl)];simp -dsimp -implicitDefEqProofs;rw[B4a (by kernel_rfl)];simp -dsimp -implicitDefEqProofs;rfl
def B6B(a:gl 3=.cptr [fnV 444,fnV 445])(M:Mem):A0c (WC gl) 239 [] M (λv M'=>v=.mapr M.length/\M'=M++[.map ruE 12]):=by
 have c:(WC gl).gl 3=.cptr [fnV 444,fnV 445]:=a;have b:A1x prog 260 [fnV 444,fnV 445]=some (rlV 444 445):=by kernel_rfl
 refine A0o hB func239 ?_;simp -dsimp -implicitDefEqProofs[A4O,a,b];rw[A7M (by kernel_rfl)];simp -dsimp -implicitDefEqProofs[A4O,a,b];rw[A7M (by kernel_rfl)];simp -dsimp -implicitDefEqProofs[A4O,a,b];rw[A7M (by kernel_rfl)];simp -dsimp -implicitDefEqProofs[A4O,a,b];rw[A7M (by kernel_rfl)];simp -dsimp -implicitDefEqProofs[A4O,a,b];rw[A7M (by kernel_rfl)];simp -dsimp -implicitDefEqProofs[A4O,a,b];rw[A7M (by kernel_rfl)];simp -dsimp -implicitDefEqProofs[A4O,a,b];rw[A7M (by kernel_rfl)];simp -dsimp -implicitDefEqProofs[A4O,a,b];rw[A7M (by kernel_rfl)];simp -dsimp -implicitDefEqProofs[A4O,a,b];rw[A7M (by kernel_rfl)];simp -dsimp -implicitDefEqProofs[A4O,a,b];rw[A7M (by kernel_rfl)];simp -dsimp -implicitDefEqProofs[A4O,a,b];rw[A7M (by kernel_rfl)];simp -dsimp -implicitDefEqProofs[A4O,a,b];rw[A7M (by kernel_rfl)];simp -dsimp -implicitDefEqProofs[A4O,a,b];rfl
end
def C6P:∀(l:List (Nat×A0p)) (M:Mem),(fill M l).length=M.length
 |[],M=>rfl
 |p::l,M=>by show(fill (M.set p.1 p.2) l).length=_;rw[C6P l];simp
def C6H:∀(l:List (Nat×A0p)) (M X:Mem),(∀p∈l,p.1<M.length)->fill (M++X) l=fill M l++X
 |[],M,X,_=>rfl
 |p::l,M,X,h=>by show fill ((M++X).set p.1 p.2) l=fill (M.set p.1 p.2) l++X;have hp:=h p (by simp);rw[List.set_append_left _ _ hp,C6H l _ _ λq hq=>by have:=h q (by simp[hq]);simpa using this]
def C2C{C:Ctx}{g:FuncId}{args:List AV}{M X:Mem}{r:Nat->AV}(h:∀M,A4A C g args M (λv M'=>v=r M.length/\M'=M++X)):C9j C g args M (r M.length) (M++X):=by refine⟨λs hs=>by rw[Z0h (Z0a.1 hs).1];exact hs,λl hb=>?_⟩;have:=h (fill M l);rw[C6P]at this;rw[C6H l M X λp hp=>(Z0a.1 (hb.1 p hp)).1];exact this
def C9E{f:Mem->Option (AV×Mem)}(ha:∀M v M1,f M=some (v,M1)->∃ws,B1A f M v M1 ws){M M1:Mem}{v:AV}(h:f M=some (v,M1)):D9K f M v M1:=by
 obtain⟨ws,h1⟩:=ha _ _ _ h;refine⟨h1.keep,λl=>?_⟩;clear h1;induction l generalizing M M1 with
 |nil=>intro _;exact h
 |cons p l ih=>intro hb;obtain⟨b1,b2⟩:=C7x hb;obtain⟨ws,h2⟩:=ha _ _ _ h;exact ih (h2.fill p.1 p.2 b1) b2
def B8m{ops:Array Oper}{cls:Nat->Nat}{aff:Nat->Nat->Bool}{fl:Bool}{r s:Nat}(h:r≠s):A4K ops ⟨cls,λ_=>r,λ_=>s,aff,fl⟩=A4K ops ⟨cls,λ_=>1,λ_=>0,aff,fl⟩:=by
 have e:(r==s)=false:=by simpa using h
 have e2:(s !=s)=false:=by simp
 simp only[A4K,A2e,e,e2];rfl
section
variable {C:Ctx} {h:A2r} {ops:Array Oper} {L:B1I} {k:Nat} {d:Option Tmp} {op:Op} {t:TypeId} {p:String} {af:Array Edge} {rest:List Oper} {T:Env} {M:Mem} {K:Env->Mem->Prop} {v:AV}
def B5w{fl:Bool}{c r s:Nat}{o:Oper}{ρ:Operand->AV}{K:AV->Mem->Prop}(h1:B6o o.op=false)(h3:∀e,o.op≠.alloc e) (hp:if c=0 then A0U ((A0E C h o ρ).or (A0Y C o ρ)) (λv=>K v M)else if c=1 then A1a o ρ=some r/\A0U (A4y C o ρ M) (λv=>K v M)else if c=5 then A8I o ρ=some s/\A0U (A0Q C h o ρ M) (λr=>K r.1 r.2)else c=2/\A7V fl (A0Q C h o ρ) M K):dOp C h fl c r s o ρ M K:=by
 unfold dOp
 split
 .rename_i heq;rw[heq]at h1;simp[B6o]at h1
 .rename_i heq;rw[heq]at h1;simp[B6o]at h1
 .rename_i heq;exact absurd heq (h3 _)
 .exact hp
def A5W(b:B6o op=false)(a:∀e,op≠.alloc e)(hc:L.cls k=0)(he:pOp C h ⟨d,op,t,p,af,none⟩ (T.ev C)=some v)(hk:A1X C h ops L (k+1) rest (T.put d v) M K):A1X C h ops L k (⟨d,op,t,p,af,none⟩::rest) T M K:=by simp only[A1X,A4S];refine B5w b a ?_;rw[Z0d hc,A8A he];exact⟨λi _ _=>rfl,hk⟩
def D0L{mt:TypeId}{m x:Operand}{ok:Bool}(hc:L.cls k=1)(ho:A1a ⟨d,.lookup mt m x ok,t,p,af,none⟩ (T.ev C)=some (L.rob k))(he:A1S C.P mt M (T.ev C m) (T.ev C x) ok=some v)(hk:A1X C h ops L (k+1) rest (T.put d v) M K):A1X C h ops L k (⟨d,.lookup mt m x ok,t,p,af,none⟩::rest) T M K:=by simp only[A1X,A4S];refine B5w rfl (by simp) ?_;rw[Z0c (by omega),Z0d hc];refine⟨ho,?_⟩;simp only[A4y,he];exact⟨λi _ _=>rfl,hk⟩
def C6E{e:TypeId}{X:A0p}{s:Nat}(hc:L.cls k=4)(a:L.fl=true)(hs:L.slot k=s)(hb:M[s]?=some A2d)(hX:B2M C.P e=some X)(hq:∀i,L.rob i≠s)(hk:A1X C h ops L (k+1) rest (T.put d (.vptr s 1 0)) (M.set s X) K):A1X C h ops L k (⟨d,.alloc e,t,p,af,none⟩::rest) T M K:=by simp only[A1X,A4S];simp only[dOp];rw[Z0d hc,hs,hX];exact⟨a,hb,λi _ _=>Z0e (λe=>hq i e.symm),hk⟩
def C5Z{st:TypeId}{a x:Operand}{s:Nat}{X:A0p}(hc:L.cls k=2)(he:A0Q C h ⟨d,.store st a x,t,p,af,none⟩ (T.ev C) M=some (v,M.set s X))(hq:∀i,L.rob i≠s)(hk:A1X C h ops L (k+1) rest (T.put d v) (M.set s X) K):A1X C h ops L k (⟨d,.store st a x,t,p,af,none⟩::rest) T M K:=by simp only[A1X,A4S];refine B5w rfl (by simp) ?_;rw[Z0c (by omega),Z0c (by omega),Z0c (by omega)];refine⟨hc,?_⟩;unfold A7V;rw[he];exact⟨λ_=>C9E (λM v M1 h1=>⟨_,C7Y h1⟩) he,λi _ _=>Z0e (λe=>hq i e.symm),hk⟩
def D1g{f:Operand}{args:List Operand}{ts:Array TypeId}{g:FuncId}{first cap:List AV}{M1:Mem}(hc:L.cls k=2)(hf:T.ev C f=.func (.func g) first cap)(hi:A4A C g (first++args.map (T.ev C)++cap) M (λr m=>r=v/\m=M1))(a:C9j C g (first++args.map (T.ev C)++cap) M v M1)
 (hq:∀i,L.cls i=1->L.aff i k=false->M1[L.rob i]?=M[L.rob i]?)(hk:A1X C h ops L (k+1) rest (T.put d v) M1 K):A1X C h ops L k (⟨d,.call {callee:=.value f,args:=args.toArray,argTypes:=ts},t,p,af,none⟩::rest) T M K:=by
 simp only[A1X,A4S]
 simp only[dOp,hf]
 rw[Z0c (by omega)]
 exact⟨v,M1,hc,hi,λ_=>a,hq,hk⟩
end
def D0U:B2M prog 260=some (.vec 260 2 [.val .nilFunc,.val .nilFunc] 1 [(1,1)]):=by kernel_rfl
def D0K{M:Mem}{b:Nat}{k:Int}{i:Nat}{v:AV}(h0:M[b]?=some (.map ruE 12))(h4:A3k prog 3 (I k) ruE=some (some (i,v))):A1S prog 262 M (.mapr b) (I k) true=some (.tuple [v,B true]):=C5y h0 (kt:=3) (et:=260) (by kernel_rfl) (by kernel_rfl) rfl h4
section
variable (gl:Nat->AV)
def C4S(a9:gl 3=.cptr [fnV 444,fnV 445])(p:List A0M)(M:Mem)(hl:p.length<=9)(hp:∀i (h:i<p.length),B9s i p[i]):A0c (WC gl) 190 [.agg (A1L.rep p).row] M (λv M'=>v=B true/\M'=M):=by
 refine A3f (λ_=>trivial) ?_;obtain⟨s,hs⟩:∃s,s=M.length:=⟨_,rfl⟩;obtain⟨M1,d⟩:∃M1,M1=M++List.replicate 1 A2d:=⟨_,rfl⟩;have a6:M1[s]?=some A2d:=by rw[d,hs];simp
 have o:M1.length=s+1:=by rw[d,hs];simp
 obtain⟨M2,a⟩:∃M2,M2=M1++[A0p.map ruE 12]:=⟨_,rfl⟩;have aa:M2[s+1]?=some (.map ruE 12):=by rw[a,<-o];simp
 have a2:M2[s]?=some A2d:=by rw[a,Z0h (by omega)];exact a6
 have a1:∀M,A4A (WC gl) 239 [] M (λv M'=>v=.mapr M.length/\M'=M++[.map ruE 12]):=λM=>A0V func239 rfl rfl (B6B gl a9 M);have t:=a1 M1;have a5:=C2C (r:=λn=>.mapr n) (λM=>a1 M) (M:=M1);rw[<-a,o]at t a5;refine A0o hB func190 ?_;simp -dsimp -implicitDefEqProofs[A1L.row];refine B7u 1 ?_;rw[<-d];refine A9M (h:=hB) (A0t gl) ⟨λk=>if k=0\/k=8 then 2 else if k=3 then 1 else if k=7 then 4 else 0,λ_=>s+1,λ_=>s,λ_ j=>j==0,true⟩ (by rfl) (by rw[B8m (by omega)];kernel_rfl) ?_ ?_
 .intro k _ _;exact a6
 refine D1g (args:=[]) rfl rfl t a5 (by simp) ?_;refine A5W rfl (by simp) rfl (by simp[pOp]<;>rfl) ?_;refine A5W rfl (by simp) rfl (by simp[pOp]<;>rfl) ?_;refine D0L rfl (by simp[A1a]<;>rfl) (D0K (i:=1) (v:=rlV 304 305) aa (by kernel_rfl)) ?_;refine A5W rfl (by simp) rfl (by simp[pOp]<;>rfl) ?_;refine A5W rfl (by simp) rfl (by simp[pOp]<;>rfl) ?_;refine A5W rfl (by simp) rfl (by simp[pOp]<;>rfl) ?_;refine C6E rfl rfl rfl a2 D0U (by simp) ?_;have z:s<M2.length:=(Z0a.1 a2).1;have ab:(M2.set s (.vec 260 2 [.val .nilFunc,.val .nilFunc] 1 [(1,1)]))[s]?=some (.vec 260 2 [.val .nilFunc,.val .nilFunc] 1 [(1,1)]):=by simp[z]
 refine C5Z (s:=s) (X:=.vec 260 2 [fnV 304,fnV 305] 1 [(1,1)]) (v:=.val undef) rfl ?_ (by simp) ?_
 .rw[B1d];simp[A1u,ab,rlV,A1w,A0e,AV.cells,AV.storable]
 rw[Z2z];refine A5W rfl (by simp) rfl (by simp[pOp]<;>rfl) ?_;obtain⟨M3,c⟩:∃M3,M3=M2.set s (.vec 260 2 [fnV 304,fnV 305] 1 [(1,1)]):=⟨_,rfl⟩;have h3:M3[s]?=some (.vec 260 2 [fnV 304,fnV 305] 1 [(1,1)]):=by rw[c];simp[z]
 have f:Grow M M3:=by refine⟨by rw[c,Z1W,a,Z0r,o];omega,λi hi _=>?_⟩;rw[c,Z0e (by omega),a,Z0h (by omega),d,Z0h hi]
 have a4:∀M,M[s]?=some (.vec 260 2 [fnV 304,fnV 305] 1 [(1,1)])->A1m prog 192 M (.vptr s 1 0)=some (fnV 304):=λM h=>by simp[A1m,A2S,h]
 have a0:∀M,M[s]?=some (.vec 260 2 [fnV 304,fnV 305] 1 [(1,1)])->A1m prog 148 M (.vptr s 1 1)=some (fnV 305):=λM h=>by simp[A1m,A2S,h]
 show A1X _ _ _ _ _ [] _ _ _;simp only[A1X];rw[<-c];have hh:=D2N gl M3 (.rep p);simp only[A1L.row,A9y]at hh;simp -dsimp -implicitDefEqProofs[a4 M3 h3];refine A0i func304 hh ?_;obtain⟨q,hq⟩:∃q,q=M3.length:=⟨_,rfl⟩;obtain⟨M5,m⟩:∃M5,M5=M3++[A0p.cells 128 [I 1,A0x,A0x,I 0,I 0,I 0,I 0,I 0,I 0,eS,A0x,A0x,A0x,A0x,A0x,eS,eS,I 0,I 0,eS,I 0,I 0,I 0,eS,A0x]]:=⟨_,rfl⟩;have a3:M5[q]?=some (A0p.cells 128 [I 1,A0x,A0x,I 0,I 0,I 0,I 0,I 0,I 0,eS,A0x,A0x,A0x,A0x,A0x,eS,eS,I 0,I 0,eS,I 0,I 0,I 0,eS,A0x]):=by rw[m,hq];simp
 have w:q<M5.length:=(Z0a.1 a3).1;have y:Grow M3 M5:=by rw[m];exact A0d.app none _ _
 have a8:M.length<=q:=by have:=f.1;omega
 have ae:s<q:=by have:=(Z0a.1 h3).1;omega
 simp -dsimp -implicitDefEqProofs[A0l,A0m,A0e,A0K,A0I];rw[<-m,<-hq];refine A0i func132 (B1M gl M5 1) ?_;simp -dsimp -implicitDefEqProofs;have g:∀X,(M5.set q X)[q]?=some X:=λX=>by simp[w]
 refine A0X hB (A0t gl) (λk=>if k=7\/k=9\/k=11 then 2 else 0) (λ_=>0) (by rfl) (by kernel_rfl) ?_;simp -dsimp -implicitDefEqProofs[A0h a3,A0h (g (A0p.cells 128 [I 1,A9r p,A0x,I 0,I 0,I 0,I 0,I 0,I 0,eS,A0x,A0x,A0x,A0x,A0x,eS,eS,I 0,I 0,eS,I 0,I 0,I 0,eS,A0x])),Z2z];obtain⟨M6,b⟩:∃M6,M6=M5.set q (A0p.cells 128 [I 1,A9r p,A0x,I 0,I 0,I 0,I 0,I 0,I 0,eS,A0x,A0x,A0x,A0x,A0x,eS,eS,I 0,I 0,eS,I 0,I 0,I 0,eS,A0x]):=⟨_,rfl⟩;have ad:M6[q]?=some (A0p.cells 128 [I 1,A9r p,A0x,I 0,I 0,I 0,I 0,I 0,I 0,eS,A0x,A0x,A0x,A0x,A0x,eS,eS,I 0,I 0,eS,I 0,I 0,I 0,eS,A0x]):=by rw[b];exact g _
 have a7:M6[s]?=some (.vec 260 2 [fnV 304,fnV 305] 1 [(1,1)]):=by rw[b,Z0e (by omega)];exact y.get h3 (by simp)
 have ac:Grow M M6:=by rw[b];exact A1o (f.trans y) a8
 rw[<-b];have x:=C3b gl (.rep p) M6 (λp' e=>by cases e;omega) (λu e=>by cases e);have l:=D2m gl M6 (.rep p);simp only[A1L.row]at x l;refine A0i func240 (B7b gl p .no M6 hl hp) ?_;simp -dsimp -implicitDefEqProofs;refine A0i func242 (B4m gl M6) ?_;simp -dsimp -implicitDefEqProofs[A0b ad];refine A0i func243 x ?_;simp -dsimp -implicitDefEqProofs[a0 M6 a7];refine A0i func305 l ?_;simp -dsimp -implicitDefEqProofs;exact ac
def C3K(a4:gl 0=A2h)(z:gl 1=A2s)(aa:gl 3=.cptr [fnV 444,fnV 445])(u:A0a)(M:Mem)(hf:Fit u)(hb:A3n u)(hk:u.kind≠0)(hv:B0R u=0):A0c (WC gl) 190 [.agg (A1L.ins u).row] M (λv M'=>v=B true/\M'=M):=by
 refine A3f (λ_=>trivial) ?_;obtain⟨s,hs⟩:∃s,s=M.length:=⟨_,rfl⟩;obtain⟨M1,d⟩:∃M1,M1=M++List.replicate 1 A2d:=⟨_,rfl⟩;have a7:M1[s]?=some A2d:=by rw[d,hs];simp
 have o:M1.length=s+1:=by rw[d,hs];simp
 obtain⟨M2,a⟩:∃M2,M2=M1++[A0p.map ruE 12]:=⟨_,rfl⟩;have ab:M2[s+1]?=some (.map ruE 12):=by rw[a,<-o];simp
 have a2:M2[s]?=some A2d:=by rw[a,Z0h (by omega)];exact a7
 have a1:∀M,A4A (WC gl) 239 [] M (λv M'=>v=.mapr M.length/\M'=M++[.map ruE 12]):=λM=>A0V func239 rfl rfl (B6B gl aa M);have p:=a1 M1;have a6:=C2C (r:=λn=>.mapr n) (λM=>a1 M) (M:=M1);rw[<-a,o]at p a6;refine A0o hB func190 ?_;simp -dsimp -implicitDefEqProofs[A1L.row];refine B7u 1 ?_;rw[<-d];refine A9M (h:=hB) (A0t gl) ⟨λk=>if k=0\/k=8 then 2 else if k=3 then 1 else if k=7 then 4 else 0,λ_=>s+1,λ_=>s,λ_ j=>j==0,true⟩ (by rfl) (by rw[B8m (by omega)];kernel_rfl) ?_ ?_
 .intro k _ _;exact a7
 refine D1g (args:=[]) rfl rfl p a6 (by simp) ?_;refine A5W rfl (by simp) rfl (by simp[pOp]<;>rfl) ?_;refine A5W rfl (by simp) rfl (by simp[pOp]<;>rfl) ?_;refine D0L rfl (by simp[A1a]<;>rfl) (D0K (i:=0) (v:=rlV 300 301) ab (by kernel_rfl)) ?_;refine A5W rfl (by simp) rfl (by simp[pOp]<;>rfl) ?_;refine A5W rfl (by simp) rfl (by simp[pOp]<;>rfl) ?_;refine A5W rfl (by simp) rfl (by simp[pOp]<;>rfl) ?_;refine C6E rfl rfl rfl a2 D0U (by simp) ?_;have y:s<M2.length:=(Z0a.1 a2).1;have ac:(M2.set s (.vec 260 2 [.val .nilFunc,.val .nilFunc] 1 [(1,1)]))[s]?=some (.vec 260 2 [.val .nilFunc,.val .nilFunc] 1 [(1,1)]):=by simp[y]
 refine C5Z (s:=s) (X:=.vec 260 2 [fnV 300,fnV 301] 1 [(1,1)]) (v:=.val undef) rfl ?_ (by simp) ?_
 .rw[B1d];simp[A1u,ac,rlV,A1w,A0e,AV.cells,AV.storable]
 rw[Z2z];refine A5W rfl (by simp) rfl (by simp[pOp]<;>rfl) ?_;obtain⟨M3,c⟩:∃M3,M3=M2.set s (.vec 260 2 [fnV 300,fnV 301] 1 [(1,1)]):=⟨_,rfl⟩;have h3:M3[s]?=some (.vec 260 2 [fnV 300,fnV 301] 1 [(1,1)]):=by rw[c];simp[y]
 have f:Grow M M3:=by refine⟨by rw[c,Z1W,a,Z0r,o];omega,λi hi _=>?_⟩;rw[c,Z0e (by omega),a,Z0h (by omega),d,Z0h hi]
 have a5:∀M,M[s]?=some (.vec 260 2 [fnV 300,fnV 301] 1 [(1,1)])->A1m prog 192 M (.vptr s 1 0)=some (fnV 300):=λM h=>by simp[A1m,A2S,h]
 have a0:∀M,M[s]?=some (.vec 260 2 [fnV 300,fnV 301] 1 [(1,1)])->A1m prog 148 M (.vptr s 1 1)=some (fnV 301):=λM h=>by simp[A1m,A2S,h]
 show A1X _ _ _ _ _ [] _ _ _;simp only[A1X];rw[<-c];have hh:=D1J gl M3 u;simp only[A1L.row,D1B]at hh;simp -dsimp -implicitDefEqProofs[a5 M3 h3];refine A0i func300 hh ?_;obtain⟨q,hq⟩:∃q,q=M3.length:=⟨_,rfl⟩;obtain⟨M5,m⟩:∃M5,M5=M3++[A0p.cells 128 [I 0,A0x,A0x,I 1,I 0,I u.id.act,I u.id.item,I u.id.n,I u.kind,S u.label,.list 4 (A0g u.head) .no,.list 4 (A0g u.words) .no,.list 8 (A0q u.kids) .no,A0x,A0x,eS,eS,I 0,I 0,eS,I 0,I 0,I 0,eS,A0x]]:=⟨_,rfl⟩;have a3:M5[q]?=some (A0p.cells 128 [I 0,A0x,A0x,I 1,I 0,I u.id.act,I u.id.item,I u.id.n,I u.kind,S u.label,.list 4 (A0g u.head) .no,.list 4 (A0g u.words) .no,.list 8 (A0q u.kids) .no,A0x,A0x,eS,eS,I 0,I 0,eS,I 0,I 0,I 0,eS,A0x]):=by rw[m,hq];simp
 have t:q<M5.length:=(Z0a.1 a3).1;have x:Grow M3 M5:=by rw[m];exact A0d.app none _ _
 have a9:M.length<=q:=by have:=f.1;omega
 have af:s<q:=by have:=(Z0a.1 h3).1;omega
 simp -dsimp -implicitDefEqProofs[A0l,A0m,A0e,A0K,A0I];rw[<-m,<-hq];refine A0i func132 (B1M gl M5 0) ?_;simp -dsimp -implicitDefEqProofs;have g:∀X,(M5.set q X)[q]?=some X:=λX=>by simp[t]
 refine A0X hB (A0t gl) (λk=>if k=7\/k=9\/k=11 then 2 else 0) (λ_=>0) (by rfl) (by kernel_rfl) ?_;simp -dsimp -implicitDefEqProofs[A0h a3,A0h (g (A0p.cells 128 [I 0,A0x,A0x,I 1,I 0,I u.id.act,I u.id.item,I u.id.n,I u.kind,S u.label,.list 4 (A0g u.head) .no,.list 4 (A0g u.words) .no,.list 8 (A0q u.kids) .no,A0x,A0x,eS,eS,I 0,I 0,eS,I 0,I 0,I 0,eS,A0x])),Z2z];obtain⟨M6,b⟩:∃M6,M6=M5.set q (A0p.cells 128 [I 0,A0x,A0x,I 1,I 0,I u.id.act,I u.id.item,I u.id.n,I u.kind,S u.label,.list 4 (A0g u.head) .no,.list 4 (A0g u.words) .no,.list 8 (A0q u.kids) .no,A0x,A0x,eS,eS,I 0,I 0,eS,I 0,I 0,I 0,eS,A0x]):=⟨_,rfl⟩;have ae:M6[q]?=some (A0p.cells 128 [I 0,A0x,A0x,I 1,I 0,I u.id.act,I u.id.item,I u.id.n,I u.kind,S u.label,.list 4 (A0g u.head) .no,.list 4 (A0g u.words) .no,.list 8 (A0q u.kids) .no,A0x,A0x,eS,eS,I 0,I 0,eS,I 0,I 0,I 0,eS,A0x]):=by rw[b];exact g _
 have a8:M6[s]?=some (.vec 260 2 [fnV 300,fnV 301] 1 [(1,1)]):=by rw[b,Z0e (by omega)];exact x.get h3 (by simp)
 have ad:Grow M M6:=by rw[b];exact A1o (f.trans x) a9
 rw[<-b];have w:=C3b gl (.ins u) M6 (λp' e=>by cases e) (λu e=>by cases e;exact hf.2.1);have l:=D3b gl a4 z u M6 hf hb hk hv (C1R gl a4 z u M6 hf hb);simp only[A1L.row]at w l;refine A0i func240 (C2e gl M6) ?_;simp -dsimp -implicitDefEqProofs;refine A0i func242 (B4m gl M6) ?_;simp -dsimp -implicitDefEqProofs[A0b ae];refine A0i func243 w ?_;simp -dsimp -implicitDefEqProofs[a0 M6 a8];refine A0i func301 l ?_;simp -dsimp -implicitDefEqProofs;exact ad
end
def D3V(a b:IdD):A1z prog .neq 23 (.agg [I a.act,I a.item,I a.n]) (.agg [I b.act,I b.item,I b.n])=some (B (!decide (a=b))):=by
 have h0:A2O prog .neq 23 (.agg [I a.act,I a.item,I a.n]) (.agg [I b.act,I b.item,I b.n])=none:=by simp[A2O,A3I]
 have:=(A9j 248 4 (by kernel_rfl)).eq a b;simp only[A2R,IdD.row]at this;simp only[A1z,h0,A4s,B6f,this];rfl
def D1a{M:Mem}{b:Nat}{k:Int}{i:Nat}{v:AV}(h0:M[b]?=some (.map doE 7))(h4:A3k prog 3 (I k) doE=some (some (i,v))):A1S prog 227 M (.mapr b) (I k) true=some (.tuple [v,B true]):=C5y h0 (kt:=3) (et:=225) (by kernel_rfl) (by kernel_rfl) rfl h4
section
variable (gl:Nat->AV)
def C3F(a8:gl 3=.cptr [fnV 444,fnV 445])(u k:A0a)(ks:List A0a)(h:Int)(i:Nat)(a7:Int)(M:Mem)(hk:u.kids=k::ks)(hf:Fit u)(hn:(A0T u).Nodup)
 (z:B9s 1 ⟨k.kind,k.label⟩)(ae:u.kids.filter (A4R ⟨k.kind,k.label⟩)=[k]):
 A0c (WC gl) 133 [.agg u.row,.agg (enR h i a7 (.rep [A3a,⟨k.kind,k.label⟩]))] M (λv M'=>v=.tuple [.agg (A8l u ks).row,I 0]/\M'=M):=by
 refine A0c.dataX ?_
 obtain⟨p,hp⟩:∃p:List A0M,p=[A3a,⟨k.kind,k.label⟩]:=⟨_,rfl⟩
 have a2:k∈A5m u:=by have:=C0C u u (B0w u) k (by rw[hk];simp);exact this
 have g:=λM=>B7T gl u k.id M hf
 rw[D0P hn a2]at g
 have q:=λM=>B3B gl u k (A9r p) M (λM=>by have:=D2X gl u ⟨k.kind,k.label⟩ .no M hf z;rw[ae,<-hp]at this;exact this)
 have a0:=λM=>C4S gl a8 p M (by rw[hp];simp) (by
  intro j hj;subst hp
  match j,hj with
  |0,_=>exact .inl ⟨rfl,rfl⟩
  |1,_=>exact z)
 have s:=λd M=>C4Q gl u k ks d M hk hf hn
 have a6:k.id.row=[I k.id.act,I k.id.item,I k.id.n]:=rfl
 have a5:¬k.id=u.id:=by intro e;obtain⟨a,b,c,d,e',f⟩:=u;rw[A0T,Z1A]at hn;have hk:f=k::ks:=hk;subst hk;refine hn.1 ?_;have e:k.id=a:=e;rw[<-e,A2a];exact Z1K _ (C0e k)
 have a1:=D3V k.id u.id
 rw[Z0y a5]at a1
 obtain⟨b,hb⟩:∃b,b=M.length:=⟨_,rfl⟩
 obtain⟨M1,o⟩:∃M1,M1=M++[z8]:=⟨_,rfl⟩
 have h1:M1[b]?=some z8:=by rw[o,hb];simp
 have aa:Grow M M1:=by rw[o];exact A0d.app none _ _
 obtain⟨M2,r⟩:∃M2,M2=M1++[A0p.map doE 7]:=⟨_,rfl⟩
 have ab:M2[M1.length]?=some (.map doE 7):=by rw[r];simp
 have ac:Grow M1 M2:=by rw[r];exact A0d.app none _ _
 have w:=A0V (C:=WC gl) func189 rfl rfl (B6Z gl M1)
 rw[<-r]at w
 obtain⟨M3,l⟩:∃M3,M3=M2++[A0p.cells 23 [I k.id.act,I k.id.item,I k.id.n]]:=⟨_,rfl⟩
 have a3:M3[M2.length]?=some (A0p.cells 23 [I k.id.act,I k.id.item,I k.id.n]):=by rw[l];simp
 have t:Grow M2 M3:=by rw[l];exact A0d.app none _ _
 obtain⟨M4,m⟩:∃M4,M4=M3++[A0p.cells 27 [I k.id.act,I k.id.item,I k.id.n,I k.kind,S k.label,.list 4 (A0g k.head) .no,.list 4 (A0g k.words) .no,.list 8 (A0q k.kids) .no]]:=⟨_,rfl⟩
 have a9:M4[M3.length]?=some (A0p.cells 27 [I k.id.act,I k.id.item,I k.id.n,I k.kind,S k.label,.list 4 (A0g k.head) .no,.list 4 (A0g k.words) .no,.list 8 (A0q k.kids) .no]):=by rw[m];simp
 have y:Grow M3 M4:=by rw[m];exact A0d.app none _ _
 have a4:=y.get a3 (by simp)
 have x:Grow M1 M4:=ac.trans (t.trans y)
 have h4:=x.get h1 (by simp)
 have ad:b<M4.length:=(Z0a.1 h4).1
 rw[A2p]at g
 rw[a6]at g q
 rw[<-hp]
 rw[k.row_eq]at g s
 rw[u.row_eq]at g q s|-
 simp only[A1L.row]at a0
 refine A0o hB func133 ?_
 simp -dsimp -implicitDefEqProofs[A0l,enR,A1L.row]
 rw[<-o,<-hb]
 refine A0X hB (A0t gl) (λk=>if k=0 then 2 else if k=4 then 1 else 0) (λ_=>M1.length) (by rfl) (by kernel_rfl) ?_
 simp -dsimp -implicitDefEqProofs
 refine A5i w ?_
 simp -dsimp -implicitDefEqProofs[A1a,D1a (k:=1) (i:=1) (v:=fnV 233) ab (by kernel_rfl)]
 refine A0i func190 (a0 M2) ?_
 simp -dsimp -implicitDefEqProofs
 refine A0i func191 (q M2) ?_
 simp -dsimp -implicitDefEqProofs[A0l,A0m,A0e,A0K,A0I]
 rw[<-l]
 simp -dsimp -implicitDefEqProofs[A0b a3]
 refine A0i func32 (g M3) ?_
 simp -dsimp -implicitDefEqProofs[A0l,A0m,A0e,A0K,A0I]
 rw[<-m]
 simp -dsimp -implicitDefEqProofs[A0b a4,a1,A0b a9]
 refine A0i func233 (s _ M4) ?_
 simp -dsimp -implicitDefEqProofs[A0h h4,A0K,A0I,A0z ad,A0k]
 exact⟨A1o (aa.trans x) (by omega),.tuple (.same (by simp only[bdd];exact A2U _ _) (.same trivial .nil)) .nil⟩
def C5i(a4:gl 0=A2h)(ai:gl 1=A2s)(ad:gl 3=.cptr [fnV 444,fnV 445])(u t:A0a)(g:Int)(i:Nat)(a1:Int)(M:Mem)(hf:Fit u)(a7:Fit t)(ae:A3n t)(aj:t.kind≠0)(a9:B0R t=0)
 (hw:wcU t<=1000000000)(hx:Fit (A1B g i t 0 0))(al:u.kids.length<64)(a8:A1D t<8)
 (ac:A0j u+A0j t<=1024)(ab:B5W u (A1B g i t 0 0)=0)(s:((A0T (A1B g i t 0 0)).any λy=>(A0T u).any λz=>decide (z=y))=false):
 A0c (WC gl) 133 [.agg u.row,.agg (enR g i a1 (.ins t))] M (λv M'=>v=.tuple [.agg (A8l u (u.kids++[A1B g i t 0 0])).row,I 0]/\M'=M):=by
 refine A0c.dataX ?_
 have an:A1i u.id u=some u:=by obtain⟨a,b,c,d,e,f⟩:=u;rw[A1i];exact Z0d rfl
 have h:=λM=>B7T gl u u.id M hf
 rw[an]at h
 have p:=λM=>B3B gl u u A0x M (λM=>D1b gl u M)
 have a2:=λM=>C3K gl a4 ai ad t M a7 ae aj a9
 have j:=λM=>C4U gl a4 u t g i a1 M hf a7 hw hx al a8 ac ab s
 have aa:u.id.row=[I u.id.act,I u.id.item,I u.id.n]:=rfl
 have a5:=D3V u.id u.id
 rw[Z0v rfl]at a5
 obtain⟨y,hy⟩:∃y,y=A8l u (u.kids++[A1B g i t 0 0]):=⟨_,rfl⟩
 rw[<-hy]at j|-
 obtain⟨b,hb⟩:∃b,b=M.length:=⟨_,rfl⟩
 obtain⟨M1,o⟩:∃M1,M1=M++[z8]:=⟨_,rfl⟩
 have h1:M1[b]?=some z8:=by rw[o,hb];simp
 have a3:Grow M M1:=by rw[o];exact A0d.app none _ _
 obtain⟨M2,q⟩:∃M2,M2=M1++[A0p.map doE 7]:=⟨_,rfl⟩
 have ag:M2[M1.length]?=some (.map doE 7):=by rw[q];simp
 have ah:Grow M1 M2:=by rw[q];exact A0d.app none _ _
 have w:=A0V (C:=WC gl) func189 rfl rfl (B6Z gl M1)
 rw[<-q]at w
 obtain⟨M3,l⟩:∃M3,M3=M2++[A0p.cells 23 [I u.id.act,I u.id.item,I u.id.n]]:=⟨_,rfl⟩
 have a6:M3[M2.length]?=some (A0p.cells 23 [I u.id.act,I u.id.item,I u.id.n]):=by rw[l];simp
 have r:Grow M2 M3:=by rw[l];exact A0d.app none _ _
 obtain⟨M4,m⟩:∃M4,M4=M3++[A0p.cells 27 [I u.id.act,I u.id.item,I u.id.n,I u.kind,S u.label,.list 4 (A0g u.head) .no,.list 4 (A0g u.words) .no,.list 8 (A0q u.kids) .no]]:=⟨_,rfl⟩
 have af:M4[M3.length]?=some (A0p.cells 27 [I u.id.act,I u.id.item,I u.id.n,I u.kind,S u.label,.list 4 (A0g u.head) .no,.list 4 (A0g u.words) .no,.list 8 (A0q u.kids) .no]):=by rw[m];simp
 have a0:Grow M3 M4:=by rw[m];exact A0d.app none _ _
 have am:=a0.get a6 (by simp)
 have x:Grow M1 M4:=ah.trans (r.trans a0)
 have h4:=x.get h1 (by simp)
 have ak:b<M4.length:=(Z0a.1 h4).1
 rw[A2p]at h
 rw[aa]at h p
 rw[u.row_eq]at h p j|-
 simp only[A1L.row,enR,Z1a,Z1g]at a2 j
 refine A0o hB func133 ?_
 simp -dsimp -implicitDefEqProofs[A0l,enR,A1L.row]
 rw[<-o,<-hb]
 refine A0X hB (A0t gl) (λk=>if k=0 then 2 else if k=4 then 1 else 0) (λ_=>M1.length) (by rfl) (by kernel_rfl) ?_
 simp -dsimp -implicitDefEqProofs
 refine A5i w ?_
 simp -dsimp -implicitDefEqProofs[A1a,D1a (k:=0) (i:=0) (v:=fnV 232) ag (by kernel_rfl)]
 refine A0i func190 (a2 M2) ?_
 simp -dsimp -implicitDefEqProofs
 refine A0i func191 (p M2) ?_
 simp -dsimp -implicitDefEqProofs[A0l,A0m,A0e,A0K,A0I]
 rw[<-l]
 simp -dsimp -implicitDefEqProofs[A0b a6]
 refine A0i func32 (h M3) ?_
 simp -dsimp -implicitDefEqProofs[A0l,A0m,A0e,A0K,A0I]
 rw[<-m]
 simp -dsimp -implicitDefEqProofs[A0b am,a5,A0b af]
 refine A0i func232 (j M4) ?_
 simp -dsimp -implicitDefEqProofs[A0h h4,A0K,A0I,A0z ak,A0k]
 exact⟨A1o (a3.trans x) (by omega),.tuple (.same (by simp only[bdd];exact A2U _ _) (.same trivial .nil)) .nil⟩
end
structure EnD where
 number:Int
 i:Nat
 day:Int
 it:A1L
def EnD.row(x:EnD):List AV:=enR x.number x.i x.day x.it
@[simp] def EnD.row_len(x:EnD):x.row.length=28:=D7N _ _ _ _
@[simp] def EnD.row_take(x:EnD):List.take 28 x.row=x.row:=Z0k (by simp)
def A1L.kind:A1L->Int
 |.rep _=>1
 |.ins _=>0
def enL(number day:Int)(items:List A1L):List EnD:=items.zipIdx.map λx=>⟨number,x.2,day,x.1⟩
def D8I(b c:Int)(a:List A1L):(enL b c a).length=a.length:=by simp[enL]
def D8W(b c:Int)(a:List A1L)(i:Nat)(h:i<a.length):(enL b c a)[i]?=some ⟨b,i,c,a[i]⟩:=by simp[enL,Z1l,List.getElem?_zipIdx,h]
def hAl:A2r:=⟨λd=>d !=2,λ_=>false,λ_=>false⟩
@[simp] def E5n:hAl.imm=λd=>d !=2:=rfl
section
variable (gl:Nat->AV)
set_option maxHeartbeats 1000000 in
def D4z(L:List EnD)(U:Nat->A0a)(v:AV)(M:Mem)(hl:L.length<=1000)(ho:A1b 143 28 EnD.row M v L)(hU:∀i (h:i<L.length) M,A0c (WC gl) 133 [.agg (U i).row,.agg L[i].row] M (λv M'=>v=.tuple [.agg (U (i+1)).row,I 0]/\M'=M)):
 A0c (WC gl) 79 [.agg (U 0).row,v] M (λr M'=>r=.tuple [.agg (U L.length).row,A0x]/\M'=M):=by
 refine A0c.dataX ?_
 obtain⟨b,hb⟩:∃b,b=M.length:=⟨_,rfl⟩
 obtain⟨M1,j⟩:∃M1,M1=M++[A0p.cells 27 (U 0).row,z8]:=⟨_,rfl⟩
 have h1:M1[b]?=some (.cells 27 (U 0).row):=by rw[j,hb];simp
 have h2:M1[b+1]?=some z8:=by rw[j,hb];simp[Z0Z]
 have ad:Grow M M1:=by rw[j];exact A0d.app none _ _
 have a4:=ho.len (P:=prog) underlying141
 refine A0o hAl func79 ?_
 simp -dsimp -implicitDefEqProofs[A0l,A0K,A0I,a4]
 rw[<-j,<-hb]
 refine A0y hAl L.length 13 (λT Mi=>∃i:Nat,i<=L.length/\T 2=.ptr b 0/\T 4=.ptr (b+1) 0/\T 6=A0x/\T 11=v/\T 12=I L.length/\T 13=I i/\Grow M Mi/\Mi[b]?=some (.cells 27 (U i).row)/\Mi[b+1]?=some z8) ?_ ?_
 .exact⟨0,by omega,by simp,by simp,by simp,by simp,by simp,by simp,ad,h1,h2⟩
 rintro T Mi ⟨i,i1,t2,t4,t6,f,d,c,l,g,u⟩
 have ai:b<Mi.length:=(Z0a.1 g).1
 have ae:b+1<Mi.length:=(Z0a.1 u).1
 by_cases hi:i<L.length
 case neg=>
  have a0:¬(i:Int)<L.length:=by omega
  have e:i=L.length:=by omega
  subst e;have ag:A1m prog 27 Mi (.ptr b 0)=some (.agg (U L.length).row):=by rw[(U L.length).row_eq]at g|-;rw[A0b g];simp
  simp -dsimp -implicitDefEqProofs[t2,t4,t6,f,d,c,ag,A0h u,A0K,A0I,A0z ae,A0k];exact⟨A1o l (by omega),.tuple (.same (by simp only[bdd];exact A2U _ _) (.same trivial .nil)) .nil⟩
 have a0:(i:Int)<L.length:=by omega
 have w1:=A1E (i:=i) (by omega)
 obtain⟨x,hx⟩:∃x,x=L[i]:=⟨_,rfl⟩
 have ah:=ho.keep l (by simp)
 obtain⟨pt,aa,-,a6,-⟩:=ah.at_ (P:=prog) (t:=143) EnD.row_len E0g E3a hi
 rw[<-hx]at a6
 have a:=hU i hi
 rw[<-hx]at a
 obtain⟨q,hq⟩:∃q,q=Mi.length:=⟨_,rfl⟩
 obtain⟨M2,p⟩:∃M2,M2=Mi++[A0p.cells 143 x.row]:=⟨_,rfl⟩
 have w:M2[q]?=some (.cells 143 x.row):=by rw[p,hq];simp
 have o:Grow Mi M2:=by rw[p];exact A0d.app none _ _
 have a5:A1m prog 143 M2 (.ptr q 0)=some (.agg x.row):=by rw[A0b w];simp[A0k,A9k]
 have a9:A1m prog 3 M2 (.ptr q 3)=some (I x.it.kind):=by rw[A0b w];obtain⟨n0,i0,d0,it⟩:=x;cases it<;>simp[EnD.row,enR,A1L.row,A1L.kind]
 have s:=o.get g (by simp)
 have ab:=o.get u (by simp)
 have a2:A1m prog 27 M2 (.ptr b 0)=some (.agg (U i).row):=by rw[(U i).row_eq]at s|-;rw[A0b s];simp
 have ac:(decide (0<=x.it.kind)&&decide (x.it.kind<=6))=true:=by cases x.it<;>simp[A1L.kind]
 have k:=B1M gl M2 x.it.kind
 rw[ac]at k
 obtain⟨y,hy⟩:∃y,y=U (i+1):=⟨_,rfl⟩
 rw[<-hy]at a
 obtain⟨M3,m⟩:∃M3,M3=M2++[A0p.cells 27 y.row]:=⟨_,rfl⟩
 have a1:M3[M2.length]?=some (.cells 27 y.row):=by rw[m];simp
 have z:A1m prog 27 M3 (.ptr M2.length 0)=some (.agg y.row):=by rw[y.row_eq]at a1|-;rw[A0b a1];simp
 have n:Grow M2 M3:=by rw[m];exact A0d.app none _ _
 have a7:=n.get s (by simp)
 have af:=n.get ab (by simp)
 have a8:A0m (some 8) M3 (.ptr b 0) (.agg y.row)=some (M3.set b (.cells 27 y.row)):=by rw[A0h a7];simp[A0K,A0I,A0e,Z2d]
 have a3:b<M3.length:=(Z0a.1 a7).1
 simp -dsimp -implicitDefEqProofs[t2,t4,t6,f,d,c,a0,aa,a6,A0l,A0m,A0e,A0K,A0I]
 rw[<-p,<-hq]
 simp -dsimp -implicitDefEqProofs[t2,t4,t6,f,d,c,a9]
 refine A0i func132 k ?_
 simp -dsimp -implicitDefEqProofs[t2,t4,t6,f,d,c,a5,a2]
 refine A0i func133 (a M2) ?_
 simp -dsimp -implicitDefEqProofs[t2,t4,t6,f,d,c,A0l,A0m,A0e,A0K,A0I]
 rw[<-m]
 simp -dsimp -implicitDefEqProofs[t2,t4,t6,f,d,c,z,a8,w1]
 refine⟨⟨i+1,by clear w1;omega,rfl,A1o (l.trans (o.trans n)) (by omega),by rw[hy];simp[a3],?_⟩,by clear w1;omega⟩
 exact af
def D5k{a b:Int}{i:Nat}{it:A1L}:A0w prog 143 [(0,I a),(1,I i),(2,I b),(3,.agg it.row)]=some (.agg (EnD.mk a i b it).row):=by cases it<;>simp[A0w,A1e,A1r,A0e,AV.cells,AV.storable,EnD.row,enR,A1L.row]
@[simp] def A1L.row_take(x:A1L):List.take 25 x.row=x.row:=Z0k (by simp)
set_option maxHeartbeats 1000000 in
def D6L(u:A0a)(c d:Int)(a:List A1L)(U:Nat->A0a)(M:Mem)(hl:a.length<=1000)(h0:U 0=u)(hU:∀i (h:i<a.length) M,A0c (WC gl) 133 [.agg (U i).row,.agg (enR c i d a[i])] M (λv M'=>v=.tuple [.agg (U (i+1)).row,I 0]/\M'=M)):
 A0c (WC gl) 26 [.agg u.row,C7M c d a] M (λr M'=>r=.tuple [.agg (U a.length).row,A0x]/\M'=M):=by
 refine A0c.dataX ?_
 obtain⟨b,hb⟩:∃b,b=M.length:=⟨_,rfl⟩
 obtain⟨M1,q⟩:∃M1,M1=M++[z8]:=⟨_,rfl⟩
 have h1:M1[b]?=some z8:=by rw[q,hb];simp
 have a4:Grow M M1:=by rw[q];exact A0d.app none _ _
 have m:=D8W c d a
 have w:=D8I c d a
 have f:=λv M' (ho:A1b 143 28 EnD.row M' v (enL c d a))=>D4z gl (enL c d a) U v M' (by omega) ho (λi h M=>by
  have hi:i<a.length:=by omega
  have e:=m i hi;rw[Z0m h]at e;rw[Z1Q e];exact hU i hi M)
 rw[w,h0]at f
 have a5:∀i (h:i<a.length),(a.map A1L.row)[i]?=some a[i].row:=λi h=>by simp[h]
 rw[u.row_eq]at f|-
 rw[C7M]
 refine A0o (hQ [26]) func26 ?_
 simp -dsimp -implicitDefEqProofs[A0l]
 rw[<-q,<-hb]
 refine A0y (hQ [26]) a.length 12 (λT Mi=>∃i:Nat,i<=a.length/\T 2=.cptr [I u.id.act,I u.id.item,I u.id.n,I u.kind,S u.label,.list 4 (A0g u.head) .no,.list 4 (A0g u.words) .no,.list 8 (A0q u.kids) .no]/\T 3=.cptr [I c,S A9K,I d,I 1,I d,eS,.list 25 (a.map A1L.row) .no]/\T 4=.ptr b 0/\T 10=.list 25 (a.map A1L.row) .no/\T 11=I a.length/\T 12=I i/\Grow M1 Mi/\Arr 143 28 EnD.row M1.length Mi (T 6) ((enL c d a).take i)) ?_ ?_
 .exact⟨0,by omega,by simp,by simp,by simp,by simp,by simp,by simp,Grow.refl _,by simpa using Arr.nil⟩
 rintro T Mi ⟨i,i1,t2,t3,t4,g,k,j,o,ha⟩
 by_cases hi:i<a.length
 case neg=>
  have p:¬(i:Int)<a.length:=by omega
  rw[Z0k (by omega)]at ha;have t:=o.get h1 (by simp);have a1:b<Mi.length:=(Z0a.1 t).1;generalize l:T 6=ov at*;simp -dsimp -implicitDefEqProofs[t2,t3,t4,g,k,j,p,l];refine A0i func79 (f ov Mi ha.own) ?_;simp -dsimp -implicitDefEqProofs[t4,A0h t,A0K,A0I,A0z a1,A0k];exact⟨A1o (a4.trans o) (by omega),.tuple (.same (by simp only[bdd];exact A2U _ _) (.same trivial .nil)) .nil⟩
 have p:(i:Int)<a.length:=by omega
 have w1:=A1E (i:=i) (by omega)
 obtain⟨x,hx⟩:∃x,x=a[i]:=⟨_,rfl⟩
 have a0:=a5 i hi
 rw[<-hx]at a0
 have a2:a[i]=x:=hx.symm
 obtain⟨M2,s⟩:∃M2,M2=Mi++[A0p.cells 128 x.row]:=⟨_,rfl⟩
 have a7:M2[Mi.length]?=some (.cells 128 x.row):=by rw[s];simp
 have y:Grow Mi M2:=by rw[s];exact A0d.app none _ _
 have z:=ha.keep y
 have a6:A1m prog 128 M2 (.ptr Mi.length 0)=some (.agg x.row):=by rw[A0b a7];simp[A0k,A9k]
 have a3:(enL c d a).take (i+1)=(enL c d a).take i++[⟨c,i,d,x⟩]:=by rw[Z1j,m i hi,hx];rfl
 generalize l:T 6=ov at*
 simp -dsimp -implicitDefEqProofs[t2,t3,t4,g,k,j,hi,p,a0,a2,l,A0l,A0m,A0e,A0K,A0I]
 rw[<-s]
 simp -dsimp -implicitDefEqProofs[t2,t3,t4,g,k,j,l,a6,D5k,A0n,A0W,A0K,A0I]
 refine A3p (C:=WC gl) (enc:=EnD.row) (e:=143) (sz:=28) (bytes:=392) (news:=[⟨c,i,d,x⟩]) D8C E1d E0t EnD.row_len z.own (by simp[A0A]) (by simp;omega) rfl ?_
 intro v' M' k1 k2 k3 _
 obtain⟨g1,g2⟩:=A2D (X:=[]) (o.trans y) z.lat (by simpa using k2) (by simpa using k3)
 simp -dsimp -implicitDefEqProofs[t2,t3,t4,g,k,j,w1]
 exact⟨⟨i+1,by clear w1;omega,rfl,g1,by rw[a3];exact⟨k1,g2⟩⟩,by clear w1;omega⟩
end
open Go.Proofs TryTypes
def B9l{u:A0a}{ks:List A0a}(hf:Fit u)(h1:∀k∈ks,k.good/\k.lims)(h2:1+A0f ks<=1000):Fit (A8l u ks):=by
 obtain⟨g1,g2,g3,g4,g5,g6,g7,g8,g9⟩:=(A0a.good_iff u).1 hf.1;obtain⟨⟨l1,l2,l3,l4⟩,l5⟩:=A3t _ hf.2.1;have hl:=A1Q ks;refine⟨(A0a.good_iff _).2 ⟨g1,g2,g3,g4,g5,g6,g7,?_,λk hk=>(h1 k hk).1⟩,?_,?_⟩
 .show ks.length<=9223372036854775807;omega
 .rw[A8l,A0a.lims];exact⟨⟨l1,l2,by show ks.length<=1000;omega,l4⟩,A3g.2 λk hk=>(h1 k hk).2⟩
 .rw[A8l,A0j];exact h2
def C7t:∀(a b:List A0a),A2a (a++b)=A2a a++A2a b
 |[],b=>by rw[A2a];rfl
 |k::a,b=>by rw[Z1a,A2a,A2a,C7t a b,Z0T]
def C8o(u:A0a):A0j u=1+A0f u.kids:=by obtain⟨a,b,c,d,e,f⟩:=u;rw[A0j];rfl
def A6y(u:A0a):A0T u=u.id::A2a u.kids:=by obtain⟨a,b,c,d,e,f⟩:=u;rw[A0T];rfl
def D6h{u:A0a}(hf:Fit u)(i:Nat):Fit (A8l u (u.kids.drop i)):=by have h1:=((A0a.good_iff u).1 hf.1).2.2.2.2.2.2.2.2;have h2:=A3g.1 (A3t _ hf.2.1).2;have h3:=A8m (u.kids.take i) (u.kids.drop i);rw[Z0S]at h3;have h4:=C8o u;have h5:=hf.2.2;exact B9l hf (λk hk=>⟨h1 k (Z1u hk),h2 k (Z1u hk)⟩) (by omega)
def C9G{u:A0a}(hn:(A0T u).Nodup)(i:Nat):(A0T (A8l u (u.kids.drop i))).Nodup:=by have h:=C7t (u.kids.take i) (u.kids.drop i);rw[Z0S]at h;rw[A6y,h]at hn;rw[A8l,A0T];exact hn.sublist (List.Sublist.cons_cons _ (List.sublist_append_right _ _))
def B0I:∀{kind:Int} {ks b:List A0a},A4x kind ks b=true->∀i (h:i<ks.length),A1Z kind ks[i].kind=true/\A2c ks[i]=true/\(∀a∈b,A2W a ks[i]=false)/\∀j (hj:j<i),A2W (ks[j]'(by omega)) ks[i]=false
 |kind,k::ks,b,h,i,hi=>by
  rw[A4x]at h;simp only[Z0g,Z1T]at h;obtain⟨⟨⟨h1,h2⟩,h3⟩,h4⟩:=h;cases i with
  |zero=>refine⟨h1,h2,λa ha=>?_,λj hj=>by omega⟩;exact by simpa using List.any_eq_false.1 h3 a ha
  |succ i=>
   obtain⟨k1,k2,k3,k4⟩:=B0I h4 i (by simpa using hi);refine⟨k1,k2,λa ha=>k3 a (by simp[ha]),λj hj=>?_⟩;cases j with
   |zero=>exact k3 k (by simp)
   |succ j=>exact k4 j (by omega)
def B8h{u:A0a}(h:A2c u=true):A4x u.kind u.kids []=true:=by obtain⟨a,b,c,d,e,f⟩:=u;rw[A2c]at h;simp only[Z0g]at h;exact h.2
def D5Q{k:Int}(h:A1Z 0 k=true):k=1\/k=2:=by simpa[A1Z,A4X]using h
def C3h(a b:A0a):A2W a b=A2W b a:=by simp only[A2W];rw[show decide (a.kind=b.kind)=decide (b.kind=a.kind)by simp[eq_comm],show decide (a.label=b.label)=decide (b.label=a.label)by simp[eq_comm]]
def C2g(a b:A0a):A4R ⟨b.kind,b.label⟩ a=A2W a b:=rfl
def C6x{u:A0a}(h:A3W u=true)(hk:u.kind≠0):A0B u.label=true/\u.kind<=7:=by unfold A3W at h;simp only[Z0g,Z0l,Z0c hk]at h;exact⟨h.2,h.1.1.1.1.2⟩
def D4r{u:A0a}(h:A2c u=true)(h0:u.kind=0){i:Nat}(hi:i<u.kids.length):B9s 1 ⟨u.kids[i].kind,u.kids[i].label⟩/\(u.kids.drop i).filter (A4R ⟨u.kids[i].kind,u.kids[i].label⟩)=[u.kids[i]]:=by
 have hr:=B8h h;rw[h0]at hr;obtain⟨k1,k2,-,-⟩:=B0I hr i hi;have hk:=D5Q k1;obtain⟨a1,a2⟩:=C6x (A7B k2) (by omega);refine⟨.inr ⟨?_,a2,a1⟩,?_⟩
 .show 0<u.kids[i].kind;omega
 .rw[Z0i hi,Z2a,C2g,Z0d (by simp[A2W])];congr 1;rw[Z1P];intro a ha;obtain⟨j,hj,rfl⟩:=Z3l ha;have b:i+1+j<u.kids.length:=by simp at hj;omega
  rw[List.getElem_drop,C2g,C3h,(B0I hr (i+1+j) b).2.2.2 i (by omega)];simp
mutual
def A6t(x:IdD):∀u:A0a,x∉A0T u->A4P x u=none
 |.mk id k l h w ks,hn=>by rw[A0T,Z0t,Z3a]at hn;rw[A4P,Z0c (λe=>hn.1 e.symm)];exact C3A x ks hn.2
def C3A(x:IdD):∀ks:List A0a,x∉A2a ks->A3D x ks=none
 |[],_=>by rw[A3D]
 |k::ks,hn=>by rw[A2a,Z0P,Z3a]at hn;rw[A3D,A6t x k hn.1];exact C3A x ks hn.2
end
def C6u{k:A0a}:∀{ks:List A0a},(A2a ks).Nodup->k∈ks->A3D k.id ks=some [⟨k.kind,k.label⟩]
 |a::ks,hn,hk=>by
  rw[A2a]at hn;obtain⟨n1,n2,n3⟩:=Z1J.1 hn;rw[A3D];rcases Z0t.1 hk with rfl|hk
  ·(have:A4P k.id k=some []:=by obtain⟨a,b,c,d,e,f⟩:=k;rw[A4P];exact Z0d rfl);rw[this]
  .rw[A6t k.id a λh=>n3 _ h _ (B1Y (C0e k) hk) rfl];exact C6u n2 hk
def D6e{u k:A0a}(hn:(A0T u).Nodup)(hk:k∈u.kids):A6A u k.id=some [A3a,⟨k.kind,k.label⟩]:=by
 rw[A6y,Z1A]at hn;have hw:A4P k.id u=A3D k.id u.kids:=by
  obtain⟨a,b,c,d,e,f⟩:=u;rw[A4P,Z0c]
  .rfl
  .intro e';exact hn.1 (e'▸B1Y (C0e k) hk)
 rw[A6A,hw,C6u hn.2 hk];rfl
def B5E{a i:Int}(ha:inI a)(hi:inI i):∀(l:List ByteArray) (n:Nat),(∀t∈l,t.size<=maxLen)->n+l.length<=2000000000->∀w∈A4c a i n l,w.good
 |[],n,_,_,w,hw=>by simp[A4c]at hw
 |t::l,n,ht,hn,w,hw=>by
  rw[A4c]at hw;simp only[Z0x]at hn;rcases Z0t.1 hw with rfl|hw
  .refine⟨ht t (by simp),ha,hi,?_⟩;simp only[inI];omega
  .exact B5E ha hi l (n+1) (λq hq=>ht q (by simp[hq])) (by omega) w hw
def B9o{l:List A0H}(h:∀w∈l,w.good):∀t∈A0N l,t.size<=maxLen:=by intro t ht;obtain⟨w,hw,rfl⟩:=Z0G.1 ht;exact(h w hw).1
mutual
def B5O{a i:Int}(ha:inI a)(hi:inI i):∀(t:A0a) (n w:Nat),t.good->t.lims->n+A0j t<=1000000->w+wcU t<=1000000000->(A1B a i t n w).good/\(A1B a i t n w).lims
 |.mk id k l h ws ks,n,w,hg,hl,hn,hw=>by
  obtain⟨g1,g2,g3,g4,g5,g6,g7,g8,g9⟩:=(A0a.good_iff _).1 hg;obtain⟨⟨l1,l2,l3,l4⟩,l5⟩:=A3t _ hl;rw[A0j]at hn;rw[wcU]at hw;have g5:∀w∈h,w.good:=g5;have g7:∀w∈ws,w.good:=g7;have g9:∀k∈ks,k.good:=g9;have l3:ks.length<=1000:=l3;have l1:h.length<=100000000:=l1;have l2:ws.length<=100000000:=l2;have g8:ks.length<=maxLen:=g8;have hk:=C0f ha hi ks (n+1) (w+h.length+ws.length) g9 (A3g.1 l5) (by omega) (by omega);have t1:(A0N h).length=h.length:=by simp[A0N]
  have t2:(A0N ws).length=ws.length:=by simp[A0N]
  rw[A1B];have hm:∀n:Nat,n<=100000000->n<=maxLen:=λn h=>by show n<=9223372036854775807;omega
  refine⟨(A0a.good_iff _).2 ⟨⟨ha,hi,?_⟩,g2,g3,?_,?_,?_,?_,?_,λk hk'=>(hk k hk').1⟩,?_⟩
  .show inI ((n+1:Nat):Int);simp only[inI];omega
  .show(A4c _ _ _ _).length<=maxLen;rw[B0d,t1];exact hm _ l1
  .exact B5E ha hi _ _ (B9o g5) (by rw[t1];omega)
  .show(A4c _ _ _ _).length<=maxLen;rw[B0d,t2];exact hm _ l2
  .exact B5E ha hi _ _ (B9o g7) (by rw[t2];omega)
  .show(A1A _ _ _ _ _).length<=maxLen;rw[B0B];exact g8
  .rw[A0a.lims];refine⟨⟨?_,?_,?_,l4⟩,A3g.2 λk hk'=>(hk k hk').2⟩
   .show(A4c _ _ _ _).length<=_;rw[B0d,t1];exact l1
   .show(A4c _ _ _ _).length<=_;rw[B0d,t2];exact l2
   .show(A1A _ _ _ _ _).length<=_;rw[B0B];exact l3
def C0f{a i:Int}(ha:inI a)(hi:inI i):∀(ks:List A0a) (n w:Nat),(∀k∈ks,k.good)->(∀k∈ks,k.lims)->n+A0f ks<=1000000->w+wcL ks<=1000000000->∀k∈A1A a i ks n w,k.good/\k.lims
 |[],n,w,_,_,_,_,k,hk=>by rw[A1A]at hk;simp at hk
 |t::ks,n,w,hg,hl,hn,hw,k,hk=>by
  rw[A0f]at hn;rw[wcL]at hw;rw[A1A]at hk;rcases Z0t.1 hk with rfl|hk
  .exact B5O ha hi t n w (hg t (by simp)) (hl t (by simp)) (by omega) (by omega)
  .exact C0f ha hi ks _ _ (λq hq=>hg q (by simp[hq])) (λq hq=>hl q (by simp[hq])) (by omega) (by omega) k hk
end
mutual
def B9Q:∀t:A0a,A2c t=true->wcU t<=512*A0j t
 |.mk id k l h ws ks,hr=>by obtain⟨_,h1,h2⟩:=A9f (A7B hr);have h1:A4h h=true:=h1;have h2:A4h ws=true:=h2;have:=(A7H h1).1;have:=(A7H h2).1;have hk:=C2T ks (λq hq=>B5C hr q hq);rw[wcU,A0j];omega
def C2T:∀ks:List A0a,(∀k∈ks,A2c k=true)->wcL ks<=512*A0f ks
 |[],_=>by rw[wcL];omega
 |k::ks,h=>by have:=B9Q k (h k (by simp));have:=C2T ks λq hq=>h q (by simp[hq]);rw[wcL,A0f];omega
end
def C1K{t:A0a}(h:B0R t=0):A2c t=true/\A0j t<=1024:=by
 unfold B0R at h;split at h;case isFalse=>simp at h
 rename_i h1;simp only[B1s,Z0g,Z0l]at h1;exact⟨h1.1.1,h1.2⟩
def A9b(a:Int):∀(ts:List A4Z) (j:Nat) (x:A0a),x∈A1q a ts j->∃t∈ts,∃j',j<=j'/\j'<j+ts.length/\x=A1B a (j':Nat) t.1 0 0
 |[],j,x,h=>by simp[A1q]at h
 |t::ts,j,x,h=>by
  rw[A1q]at h;rcases Z0t.1 h with rfl|h
  .exact⟨t,by simp,j,Z0n _,by simp,rfl⟩
  .obtain⟨t',h1,j',h2,h3,h4⟩:=A9b a ts (j+1) x h;exact⟨t',by simp[h1],j',by omega,by simp;omega,h4⟩
def B8x(a:Int):∀(ts:List A4Z) (j:Nat),∀x∈A2a (A1q a ts j),x.item<((j+ts.length:Nat):Int)
 |[],j,x,h=>by rw[A1q,A2a]at h;simp at h
 |t::ts,j,x,h=>by
  rw[A1q,A2a,A7a]at h;rcases Z0P.1 h with h|h
  .rw[(B1H h).2];simp;omega
  .have:=B8x a ts (j+1) x h;simp at this|-;omega
section
variable {F:IdD->Option A0a} {l:List A0C} {s:List A2m}
def D2c(hp:∀j:Nat,j<l.length->A2t l j<j):∀(n f g:Nat),n<l.length->n<f->n<g->A2C l f n=A2C l g n:=by
 intro n;induction n using Nat.strongRecOn with
 |ind n ih=>
  intro f g hn hf hg;obtain⟨f,rfl⟩:∃f',f=f'+1:=⟨f-1,by omega⟩;obtain⟨g,rfl⟩:∃g',g=g'+1:=⟨g-1,by omega⟩;rw[A2C,A2C,Z0c (by omega),Z0c (by omega)];congr 1;have h1:=hp n hn;by_cases hneg:A2t l n<0
  .have z:∀f,A2C l f (A2t l n)=0:=λf=>by
    cases f with
    |zero=>rw[A2C]
    |succ f=>rw[A2C,Z0d hneg]
   rw[z,z]
  .obtain⟨p,a⟩:∃p:Nat,A2t l n=p:=⟨(A2t l n).toNat,by omega⟩;rw[a];exact ih p (by omega) f g (by omega) (by omega) (by omega)
def C8D{ks:List A0a}{m:Nat}(h:∀k∈ks,1+A1D k<=m):A2I ks<=m:=by
 induction ks with
 |nil=>rw[A2I];omega
 |cons k ks ih=>rw[A2I];have:=h k (by simp);have:=ih λq hq=>h q (by simp[hq]);omega
def B7c(a:∀j,j<l.length->B3j l j)(h8:∀n,n<l.length->A2C l (n+1) n<=8):∀f n,n<l.length->l.length<=f+n->A1D (A2M F l s f n).1+A2C l (n+1) n<=8
 |0,n,h1,h2=>by omega
 |f+1,n,h1,h2=>by
  have hp:∀j:Nat,j<l.length->A2t l j<j:=λj hj=>by have:=(a j hj j hj (Z0n _)).2;simpa[A2t,hj]using this
  have c:=h8 n h1;rw[A2M];simp only;rw[A1D];have:A2I (((A2T l n l.length).map (A2M F l s f)).map (·.1))<=8-A2C l (n+1) n:=by
   refine C8D λk hk=>?_;rw[Z1s]at hk;obtain⟨q,hq,rfl⟩:=Z0G.1 hk;obtain⟨h3,h4⟩:=B6a a hq;have ih:=B7c a h8 f q h4 (by omega);have b:A2t l q=(n:Int):=by simp only[A2T,Z1G,Z1q,Z0l]at hq;exact hq.2
   (have e:A2C l (q+1) q=A2C l (n+1) n+1:=by rw[A2C,Z0c (by omega),b,D2c hp n q (n+1) h1 h3 (by omega)]);show 1+A1D (A2M F l s f q).1<=_
   omega
  omega
end
structure D5h (u:A0a) (l:List A0C):Prop where
 deep:∀n,n<l.length->A2C l (n+1) n<=8
 nest:∀n,n<l.length->A1Z (A4p (λx=>A1i x u) l (A2t l n)) (A6k (λx=>A1i x u) l n).kind=true
 dup:∀n (h:n<l.length),∀k∈A2T l (A2t l n) n,¬(A8V l k=A8V l n/\(A6k (λx=>A1i x u) l k).kind=(A6k (λx=>A1i x u) l n).kind)
def B3J{u:A0a}{l:List A0C}(hS:A7D u l){n:Nat}(hn:n<l.length):A4p (λx=>A1i x u) l n=(A6k (λx=>A1i x u) l n).kind:=by
 obtain⟨x,hx,_⟩:=hS.fd n hn;have h1:A6k (λx=>A1i x u) l n=x:=by simp[A6k,hn,hx]
 rw[h1];have:¬((n:Int)<0):=by omega
 simp[A4p,hn,hx,B7m,this]
def D6o{u:A0a}{l:List A0C}(hS:A7D u l)(h:A6i (λx=>A1i x u) u l=0):D5h u l:=by
 unfold A6i at h;split at h
 .simp at h
 split at h;case isFalse hne=>exact absurd h hne
 rename_i hfe;have he:=λn (hn:n<l.length)=>B2q _ _ hfe n (Z2S _) (by omega);have key:∀n (h:n<l.length),A1Z (A4p (λx=>A1i x u) l l[n].parent) (A4p (λx=>A1i x u) l n)=true/\(A2T l l[n].parent n).any (C0h (λx=>A1i x u) l n l[n].label)=false/\A2C l (n+1) n<=8:=by
  intro n hn;have h:=he n hn;simp only[B3K,Z0m hn]at h;split at h
  .simp at h
  split at h
  .simp at h
  split at h
  .simp at h
  split at h
  .simp at h
  split at h
  .simp at h
  rename_i h5;split at h
  .simp at h
  rename_i h6;split at h
  .simp at h
  rename_i h7;simp only[Z1z,Z0l,Z3a]at h7;exact⟨by simpa using h5,by simpa using h6,by omega⟩
 have a:∀n (h:n<l.length),A2t l n=l[n].parent:=λn hn=>by simp[A2t,hn]
 have b:∀n (h:n<l.length),A8V l n=l[n].label:=λn hn=>by simp[A8V,hn]
 refine⟨λn hn=>(key n hn).2.2,λn hn=>?_,λn hn k hk hc=>?_⟩
 .rw[a n hn,<-B3J hS hn];exact(key n hn).1
 .rw[a n hn]at hk;have:=Z3c.1 (key n hn).2.1 k hk;refine this ?_;have c:=A7A hk;simp only[C0h,Z0g,Z0l];rw[B3J hS hn,B3J hS (by omega:k<l.length),<-b n hn];exact hc
def C3S(l:List A0C):(A2Y l).Pairwise (·<·):=by unfold A2Y A2T;exact List.Pairwise.filter _ List.pairwise_lt_range
def B8D{l:List A0C}{n:Nat}(h:n∈A2Y l):n<l.length/\A2t l n=-1:=by simp only[A2Y,A2T,Z1G,Z1q,Z0l]at h;exact h
def C2h{F:IdD->Option A0a}{l:List A0C}{s:List A2m}{f n:Nat}:(A2M F l s (f+1) n).1.kind=(A6k F l n).kind/\(A2M F l s (f+1) n).1.label=A8V l n:=⟨rfl,rfl⟩
def A6x(a i:Int)(t:A0a)(n w:Nat):(A1B a i t n w).kind=t.kind/\(A1B a i t n w).label=t.label:=by obtain⟨x1,x2,x3,x4,x5,x6⟩:=t;rw[A1B];exact⟨rfl,rfl⟩
section
variable {u:A0a} {l:List A0C} {s:List A2m}
abbrev A2L(u:A0a)(l:List A0C)(s:List A2m):List A4Z:=A2o (λx=>A1i x u) l s
def B5A(u:A0a)(number:Int)(ts:List A4Z)(i:Nat):A0a:=if i<=u.kids.length then A8l u (u.kids.drop i)else A8l u (A1q number (ts.take (i-u.kids.length)) u.kids.length)
def C4P(a:Int)(ts:List A4Z){i:Nat}(h:i<=u.kids.length):B5A u a ts i=A8l u (u.kids.drop i):=Z0d h
def B7S(a:Int)(ts:List A4Z)(j:Nat):B5A u a ts (u.kids.length+j)=A8l u (A1q a (ts.take j) u.kids.length):=by
 unfold B5A;by_cases h:j=0
 .subst h;rw[Z0d (by omega)];simp[A1q]
 .rw[Z0c (by omega),Z2E]
def D4b(g:Int)(ts:List A4Z):B5A u g ts 0=u:=by rw[C4P g ts (Z2S _),Z1k];obtain⟨a,b,c,d,e,f⟩:=u;rfl
def D7m(a:Int)(ts:List A4Z):B5A u a ts (u.kids.length+ts.length)=A3x u a ts:=by rw[B7S,Z4i];rfl
structure E3i (u t:A0a) (number:Int) (i:Nat):Prop where
 hf:Fit u
 hft:Fit t
 hbt:A3n t
 hkt:t.kind≠0
 hvt:B0R t=0
 hw:wcU t<=1000000000
 hx:Fit (A1B number i t 0 0)
 h64:u.kids.length<64
 hdp:A1D t<8
 hcn:A0j u+A0j t<=1024
 htk:B5W u (A1B number i t 0 0)=0
 hids:((A0T (A1B number i t 0 0)).any λy=>(A0T u).any λz=>decide (z=y))=false
def C5k(ts:List A4Z)(j:Nat)(h:j<ts.length):A0f ((ts.take j).map (·.1))+A0j ts[j].1<=A0f (ts.map (·.1)):=by
 have h1:ts.map (·.1)=(ts.take j).map (·.1)++(ts.drop j).map (·.1):=by rw[<-Z0Q,Z0S]
 rw[h1,A8m,Z0i h,Z0s,A0f];omega
def E0v(a9:Fit u)(hS:A7D u l)(hl:l.length<=500)(ai:∀s∈l,s.good)(ht:∀m∈s,m.to.length<=40)(hP:D5h u l)(am:u.kind=0)(ag:u.id=idZ)(b:Int)(ap:1<=b)(ar:b<=1048576) (af:u.kids.length+(A2L u l s).length<=32)(a0:∀t∈A2L u l s,B0R t.1=0){j:Nat}(hj:j<(A2L u l s).length):E3i (B5A u b (A2L u l s) (u.kids.length+j)) (A2L u l s)[j].1 b (u.kids.length+j):=by
 obtain⟨ts,d⟩:∃ts,ts=A2L u l s:=⟨_,rfl⟩
 have a6:=B5u (s:=s) hS b
 rw[A3x,A0j,A5M]at a6
 have aq:ts.length=(A2Y l).length:=by rw[d];simp[A2o]
 have a8:∀q,(h:q<ts.length)->∃f,(A2Y l)[q]'(by omega)<l.length/\ts[q]=A2M (λx=>A1i x u) l s (f+1) ((A2Y l)[q]'(by omega))/\l.length=f+1:=λq h=>by have hr:=(B8D (Z0q (show q<(A2Y l).length by omega))).1;refine⟨l.length-1,hr,?_,by omega⟩;subst d;rw[show l.length-1+1=l.length by omega];simp[A2L,A2o]
 have g:∀t∈ts,Fit t.1/\A3n t.1:=λt h=>by rw[d]at h;obtain⟨n,hn,rfl⟩:=Z0G.1 h;exact⟨B5t hS (by omega) ai ht (A7A hn) (by omega),B3E _ _ _ _ _⟩
 have a6:1+A0f (ts.map (·.1))=l.length+1:=by rw[d];exact a6
 rw[<-d]at af a0 hj
 have al:inI b:=by simp only[inI];omega
 have aa:∀t∈ts,∀i:Nat,i<=1000->Fit (A1B b i t.1 0 0)/\wcU t.1<=1000000000:=λt h i hi=>by obtain⟨r1,r2⟩:=C1K (a0 t h);have hw:=B9Q t.1 r1;obtain⟨f1,f2⟩:=g t h;have hc:=f1.2.2;obtain⟨g1,g2⟩:=B5O (a:=b) (i:=i) al (by simp only[inI];omega) t.1 0 0 f1.1 f1.2.1 (by omega) (by omega);exact⟨⟨g1,g2,by rw[A8X];exact hc⟩,by omega⟩
 have e:(A2L u l s)[j]'(by rw[<-d];exact hj)=ts[j]:=by subst d;rfl
 rw[e,<-d,B7S]
 have k:ts[j]∈ts:=Z0q hj
 obtain⟨f,a4,a7,au⟩:=a8 j hj
 have p:=C2h (F:=λx=>A1i x u) (l:=l) (s:=s) (f:=f) (n:=(A2Y l)[j]'(by omega))
 rw[<-a7]at p
 have ah:(A2Y l)[j]'(by omega)∈A2Y l:=Z0q _
 have a2:=(B8D ah).2
 have c:=hP.nest _ a4
 rw[a2]at c
 have ak:A4p (λx=>A1i x u) l (-1)=0:=rfl
 rw[ak]at c
 have ao:=C5k ts j hj
 have a5:∀x∈A1q b (ts.take j) u.kids.length,x.good/\x.lims:=λx hx=>by obtain⟨t,h1,j',h2,h3,rfl⟩:=A9b b _ _ x hx;have:=(aa t (Z1n h1) j' (by have:=List.length_take_le j ts;omega)).1;exact⟨this.1,this.2.1⟩
 obtain⟨s1,s2⟩:=aa _ k (u.kids.length+j) (by omega)
 have a1:=A6x b (u.kids.length+j:Nat) ts[j].1 0 0
 refine⟨B9l a9 a5 (by rw[A5M];omega),(g _ k).1,(g _ k).2,?_,a0 _ k,s2,s1,?_,?_,?_,?_,?_⟩
 .rw[p.1];have:=D5Q c;omega
 .show(A1q _ _ _).length<64;rw[B6F,Z0E];omega
 .have hd:=B7c (F:=λx=>A1i x u) (s:=s) hS.ord hP.deep (f+1) _ a4 (by omega);rw[<-a7]at hd;have h1:A2C l ((A2Y l)[j]'(by omega)+1) ((A2Y l)[j]'(by omega):Nat)=1:=by
   rw[A2C,Z0c (by omega),a2];cases(A2Y l)[j]'(by omega)with
   |zero=>rw[A2C]
   |succ q=>rw[A2C,Z0d (by omega)]
  omega
 .rw[A8l,A0j,A5M];omega
 .unfold B5W;have ad:(A8l u (A1q b (ts.take j) u.kids.length)).kind=0:=am;rw[ad,a1.1,p.1,c,Z0c (by simp),Z0c];intro ab;obtain⟨x,hx,o⟩:=Z2r.1 ab;obtain⟨t,h1,j',h2,h3,rfl⟩:=A9b b _ _ x hx;obtain⟨q,hq,rfl⟩:=Z3l h1;have an:q<j:=by simp at hq;omega
  have ac:q<ts.length:=by omega
  obtain⟨f',r1,r2,r3⟩:=a8 q ac;have r:=C2h (F:=λx=>A1i x u) (l:=l) (s:=s) (f:=f') (n:=(A2Y l)[q]'(by omega));rw[<-r2]at r;have w:=A6x b (j':Nat) ts[q].1 0 0;rw[Z3Z]at o;simp only[kl2,Z0g,Z0l]at o;rw[w.1,w.2,a1.1,a1.2,p.1,p.2,r.1,r.2]at o;have aj:(A2Y l)[q]'(by omega)<(A2Y l)[j]'(by omega):=Z1O.1 (C3S l) q j (by omega) (by omega) an;have ae:=(B8D (Z0q (show q<(A2Y l).length by omega))).2;exact hP.dup _ a4 _ (by rw[a2];exact D4x aj ae) ⟨o.2,o.1⟩
 .rw[Z3c];intro y hy hc;obtain⟨z,hz,a3⟩:=Z2r.1 hc;have a3:z=y:=by simpa using a3
  subst a3;rw[A7a]at hy;obtain⟨y1,y2⟩:=B1H hy;rw[A8l,A0T]at hz;rcases Z0t.1 hz with hz|hz
  .rw[hz,ag]at y1;simp[idZ]at y1;omega
  .have:=B8x b _ _ z hz;rw[y2,Z0E]at this;omega
end
def A8G(u:A0a)(l:List A0C)(s:List A2m)(number day:Int):Int:=
 if A6i (λx=>A1i x u) u l≠0 then A6i (λx=>A1i x u) u l
 else if C3O number day=true then 1
 else if((A0T u).tail.any λx=>decide (x.act=number))=true then 5
 else C4a u (A2L u l s)
def D0v(u:A0a)(l:List A0C)(s:List A2m)(number day:Int):D8K u l s number day=if A8G u l s number day=0 then .tuple [C7M number day (A2E u++A3j (A2L u l s)),.list 6 ((A5F number u (A2L u l s)).map A5b) .no,I 0]else A5N (A8G u l s number day):=by
 unfold D8K A8G
 simp only
 split
 .rfl
 split
 .rw[Z0c (by omega)]
 split
 .rw[Z0c (by omega)]
 split
 .rfl
 .rename_i h;rw[Z0d (by simpa using h)]
structure C1M (u:A0a) (l:List A0C) (s:List A2m) (number day:Int):Prop where
 plan:A6i (λx=>A1i x u) u l=0
 n1:1<=number
 n2:number<=1048576
 new:∀x∈(A0T u).tail,x.act≠number
 len:u.kids.length+(A2L u l s).length<=32
 fmt:∀t∈A2L u l s,B0R t.1=0
 sound:A7D u l
 slots:D5h u l
 kind:u.kind=0
 id:u.id=idZ
 right:A2c u=true
def C9H{a b:Int}(h:A5I a b=0):a=0/\b=0:=by
 unfold A5I at h;split at h
 .rename_i h1;rcases h1 with rfl|h1
  .simp at h
  .exact⟨h1,h⟩
 .rename_i h1;omega
def B8R:∀(ts:List A4Z) (e:Int),A6X ts e=0->e=0/\∀t∈ts,C5e t=0
 |[],e,h=>⟨h,by simp⟩
 |t::ts,e,h=>by
  have h2:A6X ts (A5I e (C5e t))=0:=h;obtain⟨h3,h4⟩:=B8R ts _ h2;obtain⟨h5,h6⟩:=C9H h3;refine⟨h5,λq hq=>?_⟩;rcases Z0t.1 hq with rfl|hq
  .exact h6
  .exact h4 q hq
def D8X{u:A0a}(h:A3E u=true):u.id=idZ:=by
 simp only[A3E,C0F,Z0g,Z0l]at h;obtain⟨⟨c,⟨⟨hr,d⟩,hc⟩,a⟩,b⟩:=h;have e:(A0T u).Nodup:=by have:=A7J (A0T u) [] Z4A b;simpa using this
 unfold C4T at a;simp only[Z1z,Z0g,Z0u,Z0l,Z2Z]at a;rcases a with h|h
 .exact h _ (C0e u)
 .have:=h.1;rw[Z0v c]at this;simpa using this
def B6d{u:A0a}{l:List A0C}{s:List A2m}{number day:Int}(hf:Fit u)(h:A8G u l s number day=0):C1M u l s number day:=by
 unfold A8G at h;split at h
 .rename_i h1;exact absurd h h1
 rename_i hp;simp only[ne_eq,Decidable.not_not]at hp;split at h
 .simp at h
 rename_i hb;split at h
 .simp at h
 rename_i hn;have hS:=C5K hf hp;have b:A3E u=true:=by
  unfold A6i at hp;split at hp
  .simp at hp
  .rename_i h1;simpa using h1
 have a:=b;simp only[A3E,C0F,Z0g,Z0l]at a;simp only[C3O,Z1z,Z0l,Z3a]at hb;unfold C4a at h;split at h
 .simp at h
 rename_i h32;have c:=(B8R _ _ h).2;refine⟨hp,by omega,by omega,λx hx e=>?_,by omega,λt ht=>?_,hS,D6o hS hp,a.1.1,D8X b,a.1.2.1.1.1⟩
 .refine hn (Z2r.2 ⟨x,hx,by simpa using e⟩)
 .have:=c t ht;unfold C5e at this;split at this
  .assumption
  .simp at this
section
variable {u:A0a} {l:List A0C} {s:List A2m} {number day:Int}
def D2g(hA:C1M u l s number day):(A0T u).Nodup:=hA.sound.nu
def D6i(gl:Nat->AV)(f:gl 0=A2h)(n:gl 1=A2s)(b:gl 3=.cptr [fnV 444,fnV 445])(hf:Fit u)(hl:l.length<=500)(k:∀s∈l,s.good)(ht:∀m∈s,m.to.length<=40)(hA:C1M u l s number day)(d:Int):∀i (h:i<(A2E u++A3j (A2L u l s)).length) M,A0c (WC gl) 133 [.agg (B5A u number (A2L u l s) i).row,.agg (enR number i d (A2E u++A3j (A2L u l s))[i])] M (λv M'=>v=.tuple [.agg (B5A u number (A2L u l s) (i+1)).row,I 0]/\M'=M):=by
 intro i h M
 have a:(A2E u).length=u.kids.length:=by simp[A2E]
 have e:(A3j (A2L u l s)).length=(A2L u l s).length:=by simp[A3j]
 rw[Z0r,a,e]at h
 have hn:=D2g hA
 by_cases hi:i<u.kids.length
 .have e1:(A2E u++A3j (A2L u l s))[i]'(by rw[Z0r];omega)=.rep [A3a,⟨u.kids[i].kind,u.kids[i].label⟩]:=by rw[Z4j (by omega)];simp only[A2E,Z1R];rw[D6e hn (Z0q hi)];rfl
  rw[e1,C4P _ _ (by omega),C4P _ _ (by omega)];obtain⟨k1,k2⟩:=D4r hA.right hA.kind hi;exact C3F gl b (A8l u (u.kids.drop i)) u.kids[i] (u.kids.drop (i+1)) number i d M (Z0i hi) (D6h hf i) (C9G hn i) k1 k2
 .obtain⟨j,rfl⟩:∃j,i=u.kids.length+j:=⟨i-u.kids.length,by omega⟩;have hj:j<(A2L u l s).length:=by omega
  have e1:(A2E u++A3j (A2L u l s))[u.kids.length+j]'(by rw[Z0r];omega)=.ins (A2L u l s)[j].1:=by rw[Z2P (by omega)];simp only[a,Z2E,A3j,Z1R]
  have hI:=E0v hf hA.sound hl k ht hA.slots hA.kind hA.id number hA.n1 hA.n2 hA.len hA.fmt hj;have c:=C5i gl f n b (B5A u number (A2L u l s) (u.kids.length+j)) (A2L u l s)[j].1 number (u.kids.length+j) d M hI.hf hI.hft hI.hbt hI.hkt hI.hvt hI.hw hI.hx hI.h64 hI.hdp hI.hcn hI.htk hI.hids;rw[e1];have e2:A8l (B5A u number (A2L u l s) (u.kids.length+j)) ((B5A u number (A2L u l s) (u.kids.length+j)).kids++[A1B number (u.kids.length+j:Nat) (A2L u l s)[j].1 0 0])=B5A u number (A2L u l s) (u.kids.length+j+1):=by rw[show u.kids.length+j+1=u.kids.length+(j+1)by omega,B7S,B7S];have g:(A2L u l s)[j]?=some (A2L u l s)[j]:=Z0m hj;rw[Z1j,g,B6L,Z0E,Z1H (by omega)];rfl
  rw[e2]at c;exact c
def C9a(gl:Nat->AV)(f:gl 0=A2h)(e:gl 1=A2s)(a:gl 3=.cptr [fnV 444,fnV 445])(hf:Fit u)(hl:l.length<=500)(c:∀s∈l,s.good)(ht:∀m∈s,m.to.length<=40)(hA:C1M u l s number day)(d:Int)(M:Mem):A0c (WC gl) 26 [.agg u.row,C7M number d (A2E u++A3j (A2L u l s))] M (λr M'=>r=.tuple [.agg (A3x u number (A2L u l s)).row,A0x]/\M'=M):=by
 have b:(A2E u++A3j (A2L u l s)).length=u.kids.length+(A2L u l s).length:=by simp[A2E,A3j]
 have h:=D6L gl u number d (A2E u++A3j (A2L u l s)) (B5A u number (A2L u l s)) M (by have:=hA.len;omega) (D4b _ _) (D6i gl f e a hf hl c ht hA d)
 rw[b,D7m]at h
 exact h
end
def C3B(u:A0a)(l:List A0C)(s:List A2m)(number:Int):AV:=if A8G u l s number 0=0 then .tuple [.agg (A3x u number (A2L u l s)).row,.list 6 ((A5F number u (A2L u l s)).map A5b) .no,I 0]else .tuple [.agg zU,A0x,I (A8G u l s number 0)]
def D2l(n:Nat)(D:List (IdD×IdD)):bdd n (.list 6 (D.map A5b) .no):=A8d (λx=>by simp[A5b,A1Y,bdd]) D
def D1H:A0w prog 27 []=some (.agg zU):=by simp[A0w,A1e,zU]
section
variable (gl:Nat->AV)
set_option maxHeartbeats 1000000 in
def C3C(p:gl 0=A2h)(o:gl 1=A2s)(w:gl 3=.cptr [fnV 444,fnV 445])(u:A0a)(l:List A0C)(s:List A2m)(number:Int)(M:Mem)(hf:Fit u)(hl:l.length<=500)(q:∀s∈l,s.good)(hs:s.length<=1000)(ht:∀m∈s,m.to.length<=40):A0c (WC gl) 24 [.agg u.row,.list 5 (A1U l) .no,.list 5 (A4g s) .no,I number] M (λv M'=>v=C3B u l s number/\M'=M):=by
 refine A0c.dataX ?_
 have a:=λM=>D5M gl p o u l s number 0 M hf (by omega) q hs ht
 rw[D0v]at a
 obtain⟨b,hb⟩:∃b,b=M.length:=⟨_,rfl⟩
 obtain⟨M1,i⟩:∃M1,M1=M++[z8]:=⟨_,rfl⟩
 have h1:M1[b]?=some z8:=by rw[i,hb];simp
 have k:Grow M M1:=by rw[i];exact A0d.app none _ _
 unfold C3B
 by_cases he:A8G u l s number 0=0
 .have g:=λM=>C9a gl p o w hf hl q ht (B6d hf he) 0 M;rw[Z0d he]at a|-;have a0:=D2l M.length (A5F number u (A2L u l s));obtain⟨y,hy⟩:∃y,y=A3x u number (A2L u l s):=⟨_,rfl⟩;rw[<-hy]at g|-;generalize(A5F number u (A2L u l s)).map A5b=D at*;generalize A2E u++A3j (A2L u l s)=f at*;obtain⟨M2,c⟩:∃M2,M2=M1++[A0p.cells 49 [I number,S A9K,I 0,I 1,I 0,eS,.list 25 (f.map A1L.row) .no]]:=⟨_,rfl⟩;have hq:M2[M1.length]?=some (A0p.cells 49 [I number,S A9K,I 0,I 1,I 0,eS,.list 25 (f.map A1L.row) .no]):=by rw[c];simp
  have d:Grow M1 M2:=by rw[c];exact A0d.app none _ _
  obtain⟨M3,n⟩:∃M3,M3=M2++[A0p.cells 27 y.row]:=⟨_,rfl⟩;have j:Grow M2 M3:=by rw[n];exact A0d.app none _ _
  have hp:A1m prog 27 M3 (.ptr M2.length 0)=some (.agg y.row):=by
   (have h:M3[M2.length]?=some (A0p.cells 27 y.row):=by rw[n];simp);rw[y.row_eq]at h|-
   rw[A0b h];simp
  have h3:=j.get (d.get h1 (by simp)) (by simp);have x:b<M3.length:=(Z0a.1 h3).1;rw[C7M]at a g;rw[u.row_eq]at a g|-;refine A0o hB func24 ?_;simp -dsimp -implicitDefEqProofs[A0l];rw[<-i,<-hb];refine A0i func20 (a M1) ?_;simp -dsimp -implicitDefEqProofs[A0l,A0m,A0e,A0K,A0I];rw[<-c];simp -dsimp -implicitDefEqProofs[A0b hq];refine A0i func26 (g M2) ?_;simp -dsimp -implicitDefEqProofs[A0l,A0m,A0e,A0K,A0I];rw[<-n];simp -dsimp -implicitDefEqProofs[hp,A0h h3,A0K,A0I,A0z x,A0k];exact⟨A1o (k.trans (d.trans j)) (by omega),.tuple (.same (by simp only[bdd];exact A2U _ _) (.same (by rw[hb];exact a0) (.same trivial .nil))) .nil⟩
 .rw[Z0c he]at a|-;obtain⟨e,r⟩:∃e,e=A8G u l s number 0:=⟨_,rfl⟩;rw[<-r]at he a|-;obtain⟨M2,c⟩:∃M2,M2=M1++[A0p.cells 49 [I 0,eS,I 0,I 0,I 0,eS,A0x]]:=⟨_,rfl⟩;have d:Grow M1 M2:=by rw[c];exact A0d.app none _ _
  have h2:=d.get h1 (by simp);have t:b<M2.length:=(Z0a.1 h2).1;rw[A5N,B0F]at a;rw[u.row_eq]at a|-;refine A0o hB func24 ?_;simp -dsimp -implicitDefEqProofs[A0l];rw[<-i,<-hb];refine A0i func20 (a M1) ?_;simp -dsimp -implicitDefEqProofs[A0l,A0m,A0e,A0K,A0I,he,D1H];rw[<-c];have a1:A0m (some 8) M2 (.ptr b 0) (.agg zU)=some (M2.set b (.cells 27 zU)):=by rw[A0h h2];rfl
  have z:A1x prog 27 zU=some (.agg zU):=by kernel_rfl
  simp -dsimp -implicitDefEqProofs[h2,A0z t,z];exact⟨A1o (k.trans d) (by omega),.tuple (.same (by simp[bdd,A1Y,zU]) (.same trivial (.same trivial .nil))) .nil⟩
end
section
variable (gl:Nat->AV) (M:Mem)
end
section
variable {u:A0a} {l:List A0C} {s:List A2m} {number day:Int}
def D1j(hf:Fit u)(hl:l.length<=500)(c:∀s∈l,s.good)(ht:∀m∈s,m.to.length<=40)(hA:C1M u l s number day):Fit (A3x u number (A2L u l s)):=by
 have d:A0j (A3x u number (A2L u l s))=l.length+1:=B5u (s:=s) hA.sound number;have b:inI number:=by have:=hA.n1;have:=hA.n2;simp only[inI];omega
 have e:=hA.len;refine B9l (u:=u) (ks:=A1q number (A2L u l s) u.kids.length) hf (λx hx=>?_) ?_
 .obtain⟨t,h1,j',h2,h3,rfl⟩:=A9b number _ _ x hx;obtain⟨r1,r2⟩:=C1K (hA.fmt t h1);have hw:=B9Q t.1 r1;obtain⟨n,hn,rfl⟩:=Z0G.1 h1;have f1:=B5t hA.sound (by omega) c ht (A7A hn) (f:=l.length) (by omega);have hc:=f1.2.2;exact B5O (a:=number) (i:=j') b (by simp only[inI];omega) _ 0 0 f1.1 f1.2.1 (by omega) (by omega)
 .have:A0j (A3x u number (A2L u l s))=1+A0f (A1q number (A2L u l s) u.kids.length):=by rw[A3x,A0j]
  omega
def C9w(hA:C1M u l s number day):((A5F number u (A2L u l s)).map (·.1)).Nodup/\((A5F number u (A2L u l s)).map (·.2)).Nodup/\(A5F number u (A2L u l s)).length=l.length:=by
 have hS:=hA.sound;have e:=D0g (s:=s) hS number;have hn:(A0T u).tail.Nodup:=hS.nu.sublist (List.tail_sublist _);rw[show A5F number u (A2L u l s)=_ from e,Z1s,Z1s,Z0K];refine⟨?_,?_,hS.len.symm⟩
 .have:((λx:IdD×IdD=>x.1)∘λx=>(x,B5z u l s number x))=id:=rfl;rw[this,List.map_id];exact hn
 .unfold List.Nodup;rw[Z3x];refine Z2X ?_ hn;intro a b ha hb c e;exact c (D5E (s:=s) hS number ha hb e)
end
end Go.Abs
