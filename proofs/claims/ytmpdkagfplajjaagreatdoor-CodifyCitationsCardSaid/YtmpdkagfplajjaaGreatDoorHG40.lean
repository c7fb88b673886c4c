/- The texts CeY, CgA, CgB, CeZ, CfC, CfD. -/
import Derived.Test.YtmpdkagfplajjaaGreatDoorHG39
import Derived.Test.YtmpdkagfplajjaaGreatDoorHG38
import Derived.Test.YtmpdkagfplajjaaGreatDoorHG37
import Derived.Test.YtmpdkagfplajjaaGreatDoorHG25
set_option linter.all false
set_option maxRecDepth 100000
namespace Go.Abs
open Go.Proofs TryTypes Tryz
def C6B:∀(l:List (Nat×A0m)) (M:Mem),(fill M l).length=M.length
 |[],M=>rfl
 |p::l,M=>by show(fill (M.set p.1 p.2) l).length=_;rw[C6B l];simp
def C6t:∀(l:List (Nat×A0m)) (M X:Mem),(∀p∈l,p.1<M.length)->fill (M++X) l=fill M l++X
 |[],M,X,_=>rfl
 |p::l,M,X,h=>by show fill ((M++X).set p.1 p.2) l=fill (M.set p.1 p.2) l++X;have hp:=h p (by simp);rw[List.set_append_left _ _ hp,C6t l _ _ λq hq=>by have:=h q (by simp[hq]);simpa using this]
def D2v{C:Ctx}{g:FuncId}{args:List AV}{M X:Mem}{r:Nat->AV}(h:∀M,A4r C g args M (λv M'=>v=r M.length/\M'=M++X)):C9k C g args M (r M.length) (M++X):=by refine⟨λs hs=>by rw[Z0i (Z0a.1 hs).1];exact hs,λl hb=>?_⟩;have:=h (fill M l);rw[C6B]at this;rw[C6t l M X λp hp=>(Z0a.1 (hb.1 p hp)).1];exact this
def C7g{C:Ctx}{h:A2u}{o:Oper}{ρ:Operand->AV}{M M1:Mem}{v:AV}{s:Nat}(hs:A4I o ρ=some s)(hn:M[s]?≠some A4f)(he:A0U C h o ρ M=some (v,M1)):D9I (A0U C h o ρ) M v M1:=by
 obtain⟨X,rfl,hl,hx⟩:=B6E hs he;clear hl;refine⟨λq hq=>by rw[Z0c (λe=>hn (by rw[e];exact hq))];exact hq,λl=>?_⟩;clear he;induction l generalizing M with
 |nil=>intro _;exact hx M rfl
 |cons p l ih=>intro hb;obtain⟨b1,b2⟩:=C7k hb;have ne:p.1≠s:=λe=>hn (by rw[<-e];exact b1);have e1:(M.set p.1 p.2)[s]?=M[s]?:=Z0c ne;have:=ih (M:=M.set p.1 p.2) (by rw[e1];exact hn) (λM2 h2=>hx M2 (by rw[h2,e1])) b2;rw[List.set_comm _ _ ne]at this;exact this
def C8n{ops:Array Oper}{cls:Nat->Nat}{aff:Nat->Nat->Bool}{fl:Bool}{r s:Nat}(h:r≠s):A4e ops ⟨cls,λ_=>r,λ_=>s,aff,fl⟩=A4e ops ⟨cls,λ_=>1,λ_=>0,aff,fl⟩:=by
 have e:(r==s)=false:=by simpa using h
 have e2:(s !=s)=false:=by simp
 simp only[A4e,A2h,e,e2];rfl
section
variable {C:Ctx} {h:A2u} {ops:Array Oper} {L:B1D} {k:Nat} {d:Option Tmp} {op:Op} {t:TypeId} {p:String} {af:Array Edge} {rest:List Oper} {T:Env} {M:Mem} {K:Env->Mem->Prop} {v:AV}
def A9K{fl:Bool}{c r s:Nat}{o:Oper}{ρ:Operand->AV}{K:AV->Mem->Prop}(h1:B6x o.op=false)(h3:∀e,o.op≠.alloc e) (hp:if c=0 then A0X ((A0I C h o ρ).or (A1d C o ρ)) (λv=>K v M)else if c=1 then A0F o ρ=some r/\A0X (A4j C o ρ M) (λv=>K v M)else if c=5 then A4I o ρ=some s/\A0X (A0U C h o ρ M) (λr=>K r.1 r.2)else c=2/\A7w fl (A0U C h o ρ) M K):dOp C h fl c r s o ρ M K:=by
 unfold dOp
 split
 .rename_i heq;rw[heq]at h1;simp[B6x]at h1
 .rename_i heq;rw[heq]at h1;simp[B6x]at h1
 .rename_i heq;exact absurd heq (h3 _)
 .exact hp
def A7Y(b:B6x op=false)(a:∀e,op≠.alloc e)(hc:L.cls k=0)(he:pOp C h ⟨d,op,t,p,af,none⟩ (T.ev C)=some v)(hk:A1w C h ops L (k+1) rest (T.put d v) M K):A1w C h ops L k (⟨d,op,t,p,af,none⟩::rest) T M K:=by simp only[A1w,A3f];refine A9K b a ?_;rw[Z0e hc,A7y he];exact⟨λi _ _=>rfl,hk⟩
def D8f{mt:TypeId}{m x:Operand}{ok:Bool}(hc:L.cls k=1)(ho:A0F ⟨d,.lookup mt m x ok,t,p,af,none⟩ (T.ev C)=some (L.rob k))(he:A1Y C.P mt M (T.ev C m) (T.ev C x) ok=some v)(hk:A1w C h ops L (k+1) rest (T.put d v) M K):A1w C h ops L k (⟨d,.lookup mt m x ok,t,p,af,none⟩::rest) T M K:=by simp only[A1w,A3f];refine A9K rfl (by simp) ?_;rw[Z0d (by omega),Z0e hc];refine⟨ho,?_⟩;simp only[A4j,he];exact⟨λi _ _=>rfl,hk⟩
def D4S{e:TypeId}{X:A0m}{s:Nat}(hc:L.cls k=4)(a:L.fl=true)(hs:L.slot k=s)(hb:M[s]?=some A4f)(hX:B2I C.P e=some X)(hq:∀i,L.rob i≠s)(hk:A1w C h ops L (k+1) rest (T.put d (.vptr s 1 0)) (M.set s X) K):A1w C h ops L k (⟨d,.alloc e,t,p,af,none⟩::rest) T M K:=by simp only[A1w,A3f];simp only[dOp];rw[Z0e hc,hs,hX];exact⟨a,hb,λi _ _=>Z0c (λe=>hq i e.symm),hk⟩
def D4n{st:TypeId}{a x:Operand}{s:Nat}{X:A0m}(hc:L.cls k=2)(ho:A4I ⟨d,.store st a x,t,p,af,none⟩ (T.ev C)=some s)(hn:M[s]?≠some A4f)(he:A0U C h ⟨d,.store st a x,t,p,af,none⟩ (T.ev C) M=some (v,M.set s X))(hq:∀i,L.rob i≠s)(hk:A1w C h ops L (k+1) rest (T.put d v) (M.set s X) K):A1w C h ops L k (⟨d,.store st a x,t,p,af,none⟩::rest) T M K:=by simp only[A1w,A3f];refine A9K rfl (by simp) ?_;rw[Z0d (by omega),Z0d (by omega),Z0d (by omega)];refine⟨hc,?_⟩;unfold A7w;rw[he];exact⟨λ_=>C7g ho hn he,λi _ _=>Z0c (λe=>hq i e.symm),hk⟩
def D8T{f:Operand}{args:List Operand}{ts:Array TypeId}{g:FuncId}{first cap:List AV}{M1:Mem}(hc:L.cls k=2)(hf:T.ev C f=.func (.func g) first cap)(hi:A4r C g (first++args.map (T.ev C)++cap) M (λr m=>r=v/\m=M1))(a:C9k C g (first++args.map (T.ev C)++cap) M v M1)
 (hq:∀i,L.cls i=1->L.aff i k=false->M1[L.rob i]?=M[L.rob i]?)(hk:A1w C h ops L (k+1) rest (T.put d v) M1 K):A1w C h ops L k (⟨d,.call {callee:=.value f,args:=args.toArray,argTypes:=ts},t,p,af,none⟩::rest) T M K:=by
 simp only[A1w,A3f]
 simp only[dOp,hf]
 rw[Z0d (by omega)]
 exact⟨v,M1,hc,hi,λ_=>a,hq,hk⟩
end
def D8p:B2I prog 260=some (.vec 260 2 [.val .nilFunc,.val .nilFunc] 1 [(1,1)]):=by kernel_rfl
def D8a{M:Mem}{b:Nat}{k:Int}{i:Nat}{v:AV}(h0:M[b]?=some (.map ruE 12))(h4:A2Q prog 3 (I k) ruE=some (some (i,v))):A1Y prog 262 M (.mapr b) (I k) true=some (.tuple [v,B true]):=B7X h0 (kt:=3) (et:=260) (by kernel_rfl) (by kernel_rfl) rfl h4
section
variable (gl:Nat->AV)
abbrev itV(k:Int)(pv:AV)(w a b c kd:Int)(lb:ByteArray)(hv wv kv:AV):List AV:=[I k,pv,A0G,I w,I 0,I a,I b,I c,I kd,S lb,hv,wv,kv,A0G,A0G,eS,eS,I 0,I 0,eS,I 0,I 0,I 0,eS,A0G]
def B5y(af:gl 3=.cptr [fnV 444,fnV 445]){k:Int}{i:Nat}{f1 f2:FuncId}{pv hv wv kv:AV}{w a b c kd:Int}{lb:ByteArray}(M:Mem)(hk:decide (0<=k)&&decide (k<=6))(hf:A2Q prog 3 (I k) ruE=some (some (i,rlV f1 f2)))
 (sp:pv.storable=true/\pv.cells=[pv])(sh:hv.storable=true)(sw:wv.storable=true)(sk:kv.storable=true)
 (h1:∀M,A4r (WC gl) f1 [.agg (itV k pv w a b c kd lb hv wv kv)] M (λv M'=>v=.agg (itV 0 A0G w a b c kd lb hv wv kv)/\M'=M))
 (h2:∀M,A0e (WC gl) 240 [pv] M (λv M'=>v=B true/\M'=M))
 (h3:∀M,A0e (WC gl) 243 [.agg (itV k pv w a b c kd lb hv wv kv),.agg (itV k pv w a b c kd lb hv wv kv)] M (λv M'=>v=B true/\M'=M))
 (h4:∀M,A4r (WC gl) f2 [.agg (itV k pv w a b c kd lb hv wv kv)] M (λv M'=>v=B true/\M'=M)):
 A0e (WC gl) 190 [.agg (itV k pv w a b c kd lb hv wv kv)] M (λv M'=>v=B true/\M'=M):=by
 refine A3r (λ_=>trivial) ?_
 obtain⟨s,hs⟩:=ex (M.length)
 obtain⟨M1,l⟩:=ex (M++List.replicate 1 A4f)
 have aa:M1[s]?=some A4f:=by rw[l,hs];simp
 have y:M1.length=s+1:=by rw[l,hs];simp
 obtain⟨M2,f⟩:=ex (M1++[A0m.map ruE 12])
 have ag:M2[s+1]?=some (.map ruE 12):=by rw[f,<-y];simp
 have a7:M2[s]?=some A4f:=by rw[f,Z0i (by omega)];exact aa
 have a6:∀M,A4r (WC gl) 239 [] M (λv M'=>v=.mapr M.length/\M'=M++[.map ruE 12]):=λM=>A1a func239 rfl rfl (C5t gl af M)
 have z:=a6 M1
 have a9:=D2v (r:=λn=>.mapr n) (λM=>a6 M) (M:=M1)
 rw[<-f,y]at z a9
 refine A0n hB func190 ?_
 simp -dsimp -implicitDefEqProofs
 refine C7W 1 ?_
 rw[<-l]
 refine A9J (h:=hB) (A0u gl) ⟨λk=>if k=0\/k=8 then 2 else if k=3 then 1 else if k=7 then 4 else 0,λ_=>s+1,λ_=>s,λ_ j=>j==0,true⟩ (by rfl) (by rw[C8n (by omega)];kernel_rfl) ?_ ?_
 .intro k _ _;exact aa
 refine D8T (args:=[]) rfl rfl z a9 (by simp) ?_
 refine A7Y rfl (by simp) rfl (by simp[pOp]<;>rfl) ?_
 refine A7Y rfl (by simp) rfl (by simp[pOp]<;>rfl) ?_
 refine D8f rfl (by simp[A0F]<;>rfl) (D8a ag hf) ?_
 refine A7Y rfl (by simp) rfl (by simp[pOp]<;>rfl) ?_
 refine A7Y rfl (by simp) rfl (by simp[pOp]<;>rfl) ?_
 refine A7Y rfl (by simp) rfl (by simp[pOp]<;>rfl) ?_
 refine D4S rfl rfl rfl a7 D8p (by simp) ?_
 have a3:s<M2.length:=(Z0a.1 a7).1
 have a5:(M2.set s (.vec 260 2 [.val .nilFunc,.val .nilFunc] 1 [(1,1)]))[s]?=some (.vec 260 2 [.val .nilFunc,.val .nilFunc] 1 [(1,1)]):=by simp[a3]
 obtain⟨X,hX⟩:=ex (A0m.vec 260 2 [fnV f1,fnV f2] 1 [(1,1)])
 refine D4n (s:=s) (X:=X) (v:=.val undef) rfl (by simp[A4I]) (by rw[a5];simp[A4f]) ?_ (by simp) ?_
 .rw[B5o];simp[A2b,a5,rlV,A0Y,A0d,AV.cells,AV.storable,hX]
 rw[Z2J]
 refine A7Y rfl (by simp) rfl (by simp[pOp]<;>rfl) ?_
 obtain⟨M3,g⟩:=ex (M2.set s X)
 have t:M3[s]?=some X:=by rw[g];simp[a3]
 have p:Grow M M3:=by refine⟨by rw[g,Z3I,f,Z0t,y];omega,λi hi _=>?_⟩;rw[g,Z0c (by omega),f,Z0i (by omega),l,Z0i hi]
 have a8:∀M,M[s]?=some X->A1y prog 192 M (.vptr s 1 0)=some (fnV f1):=λM h=>by simp[A1y,A3k,h,hX]
 have a4:∀M,M[s]?=some X->A1y prog 148 M (.vptr s 1 1)=some (fnV f2):=λM h=>by simp[A1y,A3k,h,hX]
 show A1w _ _ _ _ _ [] _ _ _
 simp only[A1w]
 rw[<-g]
 simp -dsimp -implicitDefEqProofs[a8 M3 t]
 refine A1W (h1 M3) ?_
 rintro _ _ ⟨rfl,e⟩
 rw[e];clear e
 obtain⟨q,hq⟩:=ex (M3.length)
 obtain⟨Y,hY⟩:∃Y:AV->A0m,Y=λx=>A0m.cells 128 (itV k x w a b c kd lb hv wv kv):=⟨_,rfl⟩
 obtain⟨M5,m⟩:=ex (M3++[Y A0G])
 have u:M5[q]?=some (Y A0G):=by rw[m,hq];simp
 have a0:q<M5.length:=(Z0a.1 u).1
 have a2:Grow M3 M5:=by rw[m];exact A0c.app none _ _
 have ac:M.length<=q:=by have:=p.1;omega
 have aj:s<q:=by have:=(Z0a.1 t).1;omega
 obtain⟨M6,d⟩:=ex (M5.set q (Y pv))
 have o:M6[q]?=some (Y pv):=by rw[d];simp[a0]
 have ab:M6[s]?=some X:=by rw[d,Z0c (by omega)];exact a2.get t (by simp)
 have ah:Grow M M6:=by rw[d];exact A0V (p.trans a2) ac
 simp only[hY]at m u d o
 simp -dsimp -implicitDefEqProofs[A0k,A0i,A0d,A0y,A0v,sh,sw,sk]
 rw[<-m,<-hq]
 refine A0h func132 (B6K gl M5 k) ?_
 simp -dsimp -implicitDefEqProofs[hk]
 refine A0Z hB (A0u gl) (λk=>if k=7\/k=9\/k=11 then 2 else 0) (λ_=>0) (by rfl) (by kernel_rfl) ?_
 have ad:A0i (some 1) M5 (.ptr q 1) pv=some M6:=by rw[A0f u,sp.2,Z0e ⟨sp.1,by simp,rfl⟩,d];rfl
 have a1:M6.set q (A0m.cells 128 (itV k pv w a b c kd lb hv wv kv))=M6:=by rw[d,Z2J]
 have ai:A0i (some 1) M6 (.ptr q 16) eS=some M6:=by rw[A0f o];exact congrArg some a1
 have ae:A0i (some 3) M6 (.ptr q 17) (.agg [I 0,I 0,eS])=some M6:=by rw[A0f o];exact congrArg some a1
 simp -dsimp -implicitDefEqProofs[ad,ai,ae]
 refine A0h func240 (h2 M6) ?_
 simp -dsimp -implicitDefEqProofs
 refine A0h func242 (C3g gl M6) ?_
 simp -dsimp -implicitDefEqProofs[A0b o]
 refine A0h func243 (h3 M6) ?_
 simp -dsimp -implicitDefEqProofs[a4 M6 ab]
 refine A1W (h4 M6) ?_
 rintro _ _ ⟨rfl,rfl⟩
 simp -dsimp -implicitDefEqProofs
 exact ah
def C4y(a:gl 3=.cptr [fnV 444,fnV 445])(p:List A0w)(M:Mem)(hl:p.length<=9)(hp:∀i (h:i<p.length),A9v i p[i]):A0e (WC gl) 190 [.agg (A1Q.rep p).row] M (λv M'=>v=B true/\M'=M):=B5y gl a M (by decide) (i:=1) (f1:=304) (f2:=305) (by kernel_rfl) ⟨rfl,rfl⟩ rfl rfl rfl (λM=>A1a func304 rfl rfl (D2K gl M (.rep p))) (λM=>B2r gl p .no M hl hp) (λM=>C2H gl (.rep p) M (λp' e=>by cases e;omega) (λu e=>by cases e)) (λM=>A1a func305 rfl rfl (D2g gl M (.rep p)))
def C3o(b:gl 0=A2z)(a:gl 1=A2K)(c:gl 3=.cptr [fnV 444,fnV 445])(u:A0a)(M:Mem)(hf:Fit u)(hb:A3A u)(hk:u.kind≠0)(hv:B0Y u=0):A0e (WC gl) 190 [.agg (A1Q.ins u).row] M (λv M'=>v=B true/\M'=M):=B5y gl c M (by decide) (i:=0) (f1:=300) (f2:=301) (by kernel_rfl) ⟨rfl,rfl⟩ rfl rfl rfl (λM=>A1a func300 rfl rfl (D1D gl M u)) (λM=>C1Q gl M) (λM=>C2H gl (.ins u) M (λp' e=>by cases e) (λu e=>by cases e;exact hf.2.1)) (λM=>A1a func301 rfl rfl (D2U gl b a u M hf hb hk hv (C1y gl b a u M hf hb)))
end
open Go.Proofs TryTypes
def A4G(s:A0w)(l:List A0a):List A0a:=l.flatMap λx=>x.kids.filter (A1J s)
def A5B(p:List A0w)(l:List A0a):List A0a:=p.foldl (λl s=>A4G s l) l
def A7K(u:A0a)(s:A0w):List A0a:=if C4E s=true then[u]else(A2R u).filter (A1J s)
def A4t(u:A0a):List A0w->List A0a
 |[]=>[u]
 |s::r=>A5B r (A7K u s)
structure Sel (u:A0a) (l:List A0a):Prop where
 nd:(l.map A0a.id).Nodup
 sub:∀x∈l,x∈A2R u
section
variable {u:A0a} {l:List A0a}
def Sel.len(h:Sel u l):l.length<=A0r u:=by
 have:=Z2Z h.nd (l₂:=A0R u) λx hx=>by obtain⟨v,hv,rfl⟩:=Z0C.1 hx;rw[<-A5k];exact Z0C.2 ⟨v,h.sub v hv,rfl⟩
 rwa[A5t,Z0G]at this
def C1r:∀ks:List A0a,(ks.map A0a.id).Sublist (A3J ks)
 |[]=>by simp
 |k::ks=>by rw[Z0z,A3J];have h1:[k.id].Sublist (A0R k):=List.singleton_sublist.2 (B3T k);exact h1.append (C1r ks)
def C7t(hn:(A0R u).Nodup):∀v∈A2R u,(A0R v).Nodup:=C3S (λv=>(A0R v).Nodup) (λv hv k hk=>by obtain⟨a,b,c,d,e,ks⟩:=v;rw[A0R]at hv;exact B0V (Z1q.1 hv).2 hk) u hn
def D2i(hn:(A0R u).Nodup){v:A0a}(hv:v∈A2R u):(v.kids.map A0a.id).Nodup:=by have:=C7t hn v hv;obtain⟨a,b,c,d,e,ks⟩:=v;rw[A0R]at this;exact(Z1q.1 this).2.sublist (C1r ks)
def Sel.steps(hn:(A0R u).Nodup)(h:Sel u l)(s:A0w):Sel u (A4G s l):=by
 refine⟨?_,λx hx=>?_⟩
 .obtain⟨h1,h2⟩:=h;induction l with
  |nil=>simp[A4G]
  |cons a l ih=>rw[Z0z,Z1q]at h1;have ha:=h2 a (by simp);have ih:=ih h1.2 λx hx=>h2 x (by simp[hx]);show(((a.kids.filter (A1J s))++A4G s l).map A0a.id).Nodup;rw[Z0U,Z1L];refine⟨(D2i hn ha).sublist (List.filter_sublist.map _),ih,λx hx y hy e=>?_⟩;subst e;obtain⟨k,hk,rfl⟩:=Z0C.1 hx;obtain⟨q,hq,e⟩:=Z0C.1 hy;obtain⟨b,hb,c⟩:=Z1S.1 hq;have p1:=B8R hn ha (Z1p.1 hk).1;have p2:=B8R hn (h2 b (by simp[hb])) (Z1p.1 c).1;rw[e,p1]at p2;have:a=b:=Z1H p2;exact h1.1 (this▸Z0C.2 ⟨b,hb,rfl⟩)
 .obtain⟨v,hv,hx⟩:=Z1S.1 hx;exact B0q u v (h.sub v hv) x (Z1p.1 hx).1
def Sel.follow(hn:(A0R u).Nodup):∀(p:List A0w) (l:List A0a),Sel u l->Sel u (A5B p l)
 |[],l,h=>h
 |s::p,l,h=>Sel.follow hn p _ (h.steps hn s)
def D0I(u:A0a):Sel u [u]:=⟨by simp,λx hx=>by rw[Z0I.1 hx];exact B0t u⟩
def C1J(hn:(A0R u).Nodup)(s:A0w):Sel u (A7K u s):=by
 unfold A7K;split
 .exact D0I u
 .refine⟨?_,λx hx=>(Z1p.1 hx).1⟩;rw[<-A5k]at hn;exact hn.sublist (List.filter_sublist.map _)
def C2o(hn:(A0R u).Nodup):∀p,Sel u (A4t u p)
 |[]=>D0I u
 |s::r=>Sel.follow hn r _ (C1J hn s)
def C6o{p:List A0w}{i:Nat}(h:i<p.length)(l:List A0a):A5B (p.take (i+1)) l=A4G p[i] (A5B (p.take i) l):=by unfold A5B;rw[Z0A h,Z3c];rfl
def C6p{l:List A0a}{i:Nat}(h:i<l.length)(s:A0w):A4G s (l.take (i+1))=A4G s (l.take i)++l[i].kids.filter (A1J s):=by unfold A4G;rw[Z0A h,Z1l];simp
end
def C8D{ops:Array Oper}{L L':B1D}(h1:L'.cls=L.cls)(h2:L'.aff=L.aff)(h3:L'.fl=L.fl)(h4:∀i j,(L'.slot j !=L'.slot i)=(L.slot j !=L.slot i))(h5:∀i j,(L'.rob j==L'.slot i)=(L.rob j==L.slot i)):A4e ops L'=A4e ops L:=by simp only[A4e,A2h,h1,h2,h3,h4,h5]
section
variable {C:Ctx} {h:A2u} {ops:Array Oper} {L:B1D} {k:Nat} {d:Option Tmp} {t:TypeId} {p:String} {af:Array Edge} {rest:List Oper} {T:Env} {M:Mem} {K:Env->Mem->Prop} {v:AV}
def D8Q{mt:TypeId}{a:Operand}(hc:L.cls k=1)(ho:A0F ⟨d,.load mt a,t,p,af,none⟩ (T.ev C)=some (L.rob k))(he:A1y C.P mt M (T.ev C a)=some v)(hk:A1w C h ops L (k+1) rest (T.put d v) M K):A1w C h ops L k (⟨d,.load mt a,t,p,af,none⟩::rest) T M K:=by simp only[A1w,A3f];refine A9K rfl (by simp) ?_;rw[Z0d (by omega),Z0e hc];refine⟨ho,?_⟩;simp only[A4j,he];exact⟨λi _ _=>rfl,hk⟩
def E0f{x:Operand}{tt:TypeId}(hc:L.cls k=0)(he:pOp C h ⟨d,.call {callee:=.builtin .len,args:=#[x],argTypes:=#[tt]},t,p,af,none⟩ (T.ev C)=some v)(hk:A1w C h ops L (k+1) rest (T.put d v) M K):A1w C h ops L k (⟨d,.call {callee:=.builtin .len,args:=#[x],argTypes:=#[tt]},t,p,af,none⟩::rest) T M K:=by simp only[A1w,A3f];unfold dOp;dsimp only;rw[Z0e hc,A7y he];exact⟨λi _ _=>rfl,hk⟩
def D6l{st:TypeId}{a x:Operand}{M1:Mem}(hc:L.cls k=5)(ho:A4I ⟨d,.store st a x,t,p,af,none⟩ (T.ev C)=some (L.slot k))(he:A0U C h ⟨d,.store st a x,t,p,af,none⟩ (T.ev C) M=some (v,M1))(hq:∀i,L.cls i=1->L.aff i k=false->M1[L.rob i]?=M[L.rob i]?) (hk:A1w C h ops L (k+1) rest (T.put d v) M1 K):A1w C h ops L k (⟨d,.store st a x,t,p,af,none⟩::rest) T M K:=by
 simp only[A1w,A3f]
 refine A9K rfl (by simp) ?_
 rw[Z0d (by omega),Z0d (by omega),Z0e hc]
 refine⟨ho,?_⟩
 rw[he]
 exact⟨hq,hk⟩
def D2c{s x:Operand}{st xt:TypeId}(a:L.fl=false)(hc:L.cls k=2)(hw:A4Q C (A2t h.own d) (A2t h.vec d) st xt (T.ev C s) (T.ev C x) M (λv M1=>(∀i,L.cls i=1->L.aff i k=false->M1[L.rob i]?=M[L.rob i]?)/\A1w C h ops L (k+1) rest (T.put d v) M1 K) ⟨⟩):
 A1w C h ops L k (⟨d,.call {callee:=.builtin .append,args:=#[s,x],argTypes:=#[st,xt]},t,p,af,none⟩::rest) T M K:=by
 simp only[A1w,A3f]
 obtain⟨e,sz,bytes,h1,h2⟩:=hw
 refine⟨e,sz,bytes,h1,hc,?_⟩
 unfold A7w
 cases hr:A7e (A2t h.own d) (A2t h.vec d) e sz bytes (T.ev C s) (T.ev C x) M with
 |none=>rw[hr]at h2;exact h2.elim
 |some r=>
  rw[hr]at h2
  exact⟨λe=>by rw[a]at e;exact absurd e (by simp),h2⟩
end
structure AtB (b:Nat) (M0 M:Mem) (xs:List A0a):Prop where
 low:A1c b M0 M
 len:b<M.length
 arr:∃v,M[b]?=some (.cells 25 [v])/\A1g 27 8 A0a.row M v xs/\A1m (b+1) v
def AtB.app{b:Nat}{M0 M:Mem}{xs:List A0a}(h:AtB b M0 M xs)(X:Mem):AtB b M0 (M++X) xs:=by obtain⟨v,h1,h2,h3⟩:=h.arr;have hk:Grow M (M++X):=A0c.app none _ _;exact⟨⟨by have:=h.low.1;simp;omega,λi hi=>by rw[Z0i (by have:=h.len;omega)];exact h.low.2 i hi⟩,by have:=h.len;simp;omega,v,hk.get h1 (by simp),h2.keep hk (by simp),h3⟩
def E4T{C:Ctx}{M:Mem}{K:AV->Mem->Prop}{own:Bool}{st xt e:TypeId}{bytes:Nat}{s x:AV}{l:List A0a}{z:List AV}{tg:Tag K}(h1:A1f C.P st=some e)(h2:A3V C.P xt)(h3:A3s C.P e 8 bytes)(ho:A1g e 8 A0a.row M s l)
 (hx:A0D M 8 x=some (z,1))(hb:(l.length+1)*bytes<=140737488355328)
 (hk:∀M' f g a,M'[f]?=some (.vec e 8 (l.flatMap A0a.row++z) g a)->a.lookup g=some (l.length+1)->A0c (obj s) M M'->f=(obj s).getD M.length->K (.vref f g 8 0 (l.length+1)) M'):A4Q C own true st xt s x M K tg:=by
 rcases ho with⟨rfl,rfl⟩|⟨f,g,a,rfl,hf,hl⟩
 .refine A5D h1 h2 h3 (by rfl) hx hb (by simp only[A5H,hx]) ?_ rfl;simp only[A6w,hx];rw[Z0d (by omega)];exact hk _ M.length 0 [(0,1)] (by simp) (by simp[List.lookup]) (.app _ _ _) rfl
 .have c:A0D M 8 (.vref f g 8 0 l.length)=some (l.flatMap A0a.row,l.length):=A1g.src A0a.row_len (.inr ⟨f,g,a,rfl,hf,hl⟩);refine A5D h1 h2 h3 c hx hb ?_ ?_ rfl
  .simp only[A5H,hx,hf,hl];rw[Z0d (by omega)]
  .simp only[A6w,hx,hf,hl];rw[Z0e ⟨trivial,trivial,trivial,by omega⟩,Z0d (by omega)];have b:f<M.length:=(Z0a.1 hf).1;refine hk _ f (g+1) ((g+1,l.length+1)::a.filter (λp=>decide (p.2<=l.length))) ?_ (by simp[List.lookup]) (.set _ _ _) (by simp);simp only[Z2m,b,Z0T,Z2g,Z1h];rw[Z0g (by rw[A3m A0a.row_len];exact Z0n _)]
def D3J{M:Mem}{f g:Nat}{a:List (Nat×Nat)}{l:List A0a}{z:List AV}(hz:z.length=8)(hm:M[f]?=some (.vec 27 8 (l.flatMap A0a.row++z) g a))(hl:a.lookup g=some (l.length+1))(y:A0a):∃M',A0i (some 8) M (.vptr f g (l.length*8)) (.agg y.row)=some M'/\A1g 27 8 A0a.row M' (.vref f g 8 0 (l++[y]).length) (l++[y])/\M'.length=M.length/\∀j,j≠f->M'[j]?=M[j]?:=by
 have b:f<M.length:=(Z0a.1 hm).1
 have e:(l.flatMap A0a.row).length=l.length*8:=A3m A0a.row_len l
 have d:=y.row_len
 have c:A0d (l.flatMap A0a.row++z) (l.length*8) y.row=(l++[y]).flatMap A0a.row:=by unfold A0d;rw[Z1l,Z1T (by omega),Z0g (by omega),Z1Q (by rw[Z0t];omega)];simp
 refine⟨M.set f (.vec 27 8 ((l++[y]).flatMap A0a.row) g (A0Y 8 g (l.length*8) a)),?_,.inr ⟨f,g,A0Y 8 g (l.length*8) a,rfl,by simp[b],?_⟩,by simp,λj hj=>Z0c (by omega)⟩
 .simp only[A0i,hm,hl];rw[Z0e (by simp[AV.storable,AV.cells];omega)];simp only[AV.cells];rw[c]
 .unfold A0Y;rw[Z0t];exact A2v _ hl
def C7Z:∀a b:List A0a,A4s (a++b)=A4s a++A4s b
 |[],b=>by simp[A4s]
 |k::a,b=>by rw[Z0V,A4s,A4s,C7Z a b,Z0F]
def D4J(ks:List A0a):(A4s ks).length=A0A ks:=by rw[<-B9m,<-B4T,Z0G]
abbrev B5u(s:A0w)(r:List A0w)(o:Own)(b:Nat):List AV:=[.cptr [.list 2 (A0T (s::r)) o],.ptr b 0]
section
variable (gl:Nat->AV)
def D1q(u:A0a)(s:A0w)(r:List A0w)(o:Own)(b:Nat)(M0 M:Mem)(xs:List A0a)(h:AtB b M0 M xs)(hl:xs.length<=100000):A0e (WC gl) 373 (.agg u.row::B5u s r o b) M (λv M'=>AtB b M0 M' (xs++if A1J s u=true then[u]else[])):=by
 obtain⟨v0,hb,hv,c⟩:=h.arr
 have m:=λM=>B5H gl u s M
 have a7:s.row=[I s.k,S s.lab]:=rfl
 have a2:A0T (s::r)=[I s.k,S s.lab]::A0T r:=rfl
 have x:=u.row_eq
 rw[a7]at m
 rw[B5u,a2]
 rw[x]at m|-
 refine A0n (hQ [13]) func373 ?_
 simp -dsimp
 refine A0Z (hQ [13]) (A0u gl) (λ_=>0) (λ_=>0) (by rfl) (by kernel_rfl) ?_
 simp -dsimp
 refine A1p func374 m ?_
 cases hs:A1J s u
 .simp -dsimp;exact h
 simp -dsimp
 obtain⟨f,hf⟩:=ex ((obj v0).getD M.length)
 have a:f≠b:=by
  rw[hf];cases ho:obj v0 with
  |none=>have:=h.len;simp;omega
  |some q=>have:=c q ho;simp;omega
 refine A9J (h:=hQ [13]) (A0u gl) ⟨λk=>if k=0 then 1 else if k=4 then 2 else if k=6\/k=7 then 5 else 0,λ_=>b,λk=>if k=6 then f else b,λ_ k=>k==7,false⟩ (by rfl) ?_ ?_ ?_
 .refine Eq.trans (C8D (L:=⟨λk=>if k=0 then 1 else if k=4 then 2 else if k=6\/k=7 then 5 else 0,λ_=>0,λk=>if k=6 then 1 else 0,λ_ k=>k==7,false⟩) rfl rfl rfl (λi j=>?_) (λi j=>?_)) ?_
  rotate_right
  .kernel_rfl
  ·(have e1:(f==b)=false:=by simpa using a);have e2:(b==f)=false:=by simpa usingλe=>a e.symm
   by_cases c1:i=6<;>by_cases c2:j=6<;>simp[c1,c2,bne,e1,e2]
  ·(have e2:(b==f)=false:=by simpa usingλe=>a e.symm);by_cases c1:i=6<;>simp[c1,e2]
 .intro k _ hk;simp only at hk;split at hk
  .simp at hk
  .split at hk
   .simp at hk
   .split at hk<;>simp at hk
 refine D8Q rfl (by simp[A0F]) (by simp[A0b hb]<;>rfl) ?_
 refine A7Y rfl (by simp) rfl (by simp[pOp]<;>rfl) ?_
 have a5:A2y prog 25 v0=some xs.length:=hv.len (e':=27) (by simp)
 refine E0f rfl (v:=I xs.length) (by simp[pOp,a5]) ?_
 refine A7Y rfl (by simp) rfl (by simp[pOp,A0l,A0M]<;>rfl) ?_
 refine D2c rfl rfl ?_
 refine E4T (own:=_) (l:=xs) (z:=zU) A7G B2i B1T (by simpa using hv) (by simp[A0D,zU]) (by omega) ?_
 intro M' f' g aa a3 a8 hk a0
 simp at hk a0
 have a9:f'=f:=by rw[a0,hf]
 subst a9
 have w:M'[b]?=M[b]?:=hk.2 b h.len (λe=>by have:=c b e;omega)
 refine⟨λi _ _=>w,?_⟩
 obtain⟨M2,t,a1,n,d⟩:=D3J rfl a3 a8 u
 rw[x]at t
 have a4:(xs++[u]).length=xs.length+1:=by simp
 refine A7Y rfl (by simp) rfl (v:=.vptr f' g (xs.length*8)) (by simp[pOp];omega) ?_
 refine D6l rfl (by simp[A4I]) (M1:=M2) (v:=.val undef) (B4E (by simp[mOp,t])) (λi _ _=>d b a.symm) ?_
 have y:M2[b]?=some (.cells 25 [v0]):=by rw[d b a.symm,w,hb]
 have a6:A0i (some 1) M2 (.ptr b 0) (.vref f' g 8 0 (xs.length+1))=some (M2.set b (.cells 25 [.vref f' g 8 0 (xs.length+1)])):=by rw[A0f y];rfl
 refine D6l rfl (by simp[A4I]) (v:=.val undef) (B4E (by simp[mOp,a6]<;>rfl)) (λi _ ha=>by simp at ha) ?_
 simp -dsimp
 rw[a4]at a1
 have p:b<M2.length:=(Z0a.1 y).1
 have ac:M.length<=f'\/b+1<=f'/\obj v0=some f':=by
  rw[hf];cases ho:obj v0 with
  |none=>left;simp
  |some q=>right;exact⟨c q ho,by simp⟩
 have ab:=h.len
 refine⟨?_,by simpa using p,_,Z2H p,?_,?_⟩
 .have hq:A1c b M M2:=⟨by rw[n];exact hk.1,λi hi=>by rw[d i (by omega)];exact hk.2 i (by omega) (λe=>by have:=c i e;omega)⟩;exact(h.low.trans hq).setq (Z0n _)
 .exact a1.keep (A0c.set _ _ _) (λq hq e=>by simp at hq e;omega)
 .intro q hq;simp at hq;omega
def D0R(s:A0w)(r:List A0w)(o:Own)(b:Nat)(M0:Mem):∀(u:A0a) (M:Mem) (xs:List A0a),u.good->AtB b M0 M xs->xs.length+A0r u<=100000->
 A0e (WC gl) 372 [.agg u.row,.func (.func 373) [] (B5u s r o b)] M (λv M'=>AtB b M0 M' (xs++(A2R u).filter (A1J s)))
 |.mk id kind lab hd ws ks,M,xs,hg,hat,hlim=>by
  obtain⟨_,_,_,_,_,_,_,hk,e⟩:=(A0a.good_iff _).1 hg;have e:∀k∈ks,k.good:=e;have a3:ks.length<=9223372036854775807:=hk;have t:(A0a.mk id kind lab hd ws ks).row=[I id.act,I id.item,I id.n,I kind,S lab,.list 4 (A0g hd) .no,.list 4 (A0g ws) .no,.list 8 (A0p ks) .no]:=by rw[A0a.row]
  have x:A0r (.mk id kind lab hd ws ks)=1+A0A ks:=by rw[A0r]
  rw[x]at hlim;have z:=A1Z ks;have q:(A2R (.mk id kind lab hd ws ks)).filter (A1J s)=(if A1J s (.mk id kind lab hd ws ks)=true then[A0a.mk id kind lab hd ws ks]else[])++(A4s ks).filter (A1J s):=by rw[A2R,Z1Z];split<;>simp
  rw[q,<-Z0F];have g:=D1q gl (.mk id kind lab hd ws ks) s r o b M0 M xs hat (by omega);obtain⟨ys,p⟩:=ex (xs++(if A1J s (.mk id kind lab hd ws ks)=true then[A0a.mk id kind lab hd ws ks]else[]));have a2:ys.length<=xs.length+1:=by rw[p];split<;>simp
  rw[<-p]at g|-;rw[t]at g|-;refine A0n hW func372 ?_;simp -dsimp;refine A0q func373 g ?_;rintro _ M1 m;simp -dsimp;refine A0B hW ks.length 12 (λT Mi=>∃i:Nat,i<=ks.length/\T 1=.func (.func 373) [] (B5u s r o b)/\T 10=.list 8 (A0p ks) .no/\T 11=I ks.length/\T 12=I i/\AtB b M0 Mi (ys++(A4s (ks.take i)).filter (A1J s))) ?_ ?_
  .exact⟨0,by omega,by simp,by simp,by simp,by simp,by simpa[A4s]using m⟩
  rintro T Mi ⟨i,i1,t1,d,j,h,a⟩;by_cases hi:i<ks.length
  ·(have f:(i:Int)<ks.length:=by omega);have w1:=A1H (i:=i) (by omega)
   have c:ks[i]∈ks:=Z0o hi;(have y:(Mi++[A0m.cells 27 ks[i].row])[Mi.length]?=some (A0m.cells 27 ks[i].row):=by simp);simp -dsimp[t1,d,j,h,hi,f,A0k,A0i,A0d,AV.storable,AV.cells,A0b y];have:=A0a.kid_lt (u:=.mk id kind lab hd ws ks) c;have a0:=B7b hi;have a4:=Z1V (A1J s) (A4s (ks.take i));have a1:=D4J (ks.take i);refine A0q func372 (D0R s r o b M0 ks[i] _ _ (e _ c) (a.app _) (by simp only[Z0t];omega)) ?_;rintro _ M3 l;(have w:A4s (ks.take (i+1))=A4s (ks.take i)++A2R ks[i]:=by rw[Z0A hi,C7Z];simp[A4s]);simp -dsimp[t1,d,j,h,w1];refine⟨⟨i+1,by clear w1;omega,rfl,?_⟩,by clear w1;omega⟩;rw[w,Z3t,<-Z0F];exact l
  ·(have f:¬(i:Int)<ks.length:=by omega);rw[Z0g (by omega)]at a
   simp -dsimp[t1,d,j,h,hi,f];exact a
termination_by u=>SizeOf.sizeOf u
def RdU(n:Nat)(M:Mem)(v:AV)(l:List A0a):Prop:=Arr 27 8 A0a.row n M v l\/∃u,l=[u]/\v=.list 8 [u.row] .full
def RdU.keep{n:Nat}{M M':Mem}{v:AV}{l:List A0a}(h:RdU n M v l)(hk:Grow M M'):RdU n M' v l:=h.imp (λh=>h.keep hk) id
def RdU.len{n:Nat}{M:Mem}{v:AV}{l:List A0a}(h:RdU n M v l):A2y prog 25 v=some l.length:=by
 rcases h with h|⟨u,rfl,rfl⟩
 .exact h.own.len (e':=27) (by simp)
 .simp
def RdU.at_{n:Nat}{M:Mem}{v:AV}{l:List A0a}(h:RdU n M v l){i:Nat}(hi:i<l.length):∃p,A6q (some (some 8)) v (I i)=some p/\A1y prog 27 M p=some (.agg l[i].row):=by
 rcases h with h|⟨u,rfl,rfl⟩
 .obtain⟨p,h1,_,h2,_⟩:=h.own.at_ (P:=prog) (t:=27) A0a.row_len D4y D7G hi;exact⟨p,h1,h2⟩
 .simp at hi;subst hi;simp only[Z3x];rw[u.row_eq];refine⟨_,by simp[A6q]<;>rfl,by simp⟩
def RdU.still{n:Nat}{M:Mem}{v:AV}{l:List A0a}(h:RdU n M v l):Still M n (bdd n) [v] [.list 8 (A0p l) .no]:=by
 rcases h with h|⟨u,rfl,rfl⟩
 .exact B2f h.own h.lat
 .have a:A0p [u]=[u.row]:=by rw[A0p,A0p]
  have hb:=B2M n [u];rw[a]at hb|-;exact .dis hb .nil
def C5T{x:A0a}(h:Fit x):x.kids.length<=1000:=by have h1:=A1Z x.kids;have h2:=A5o x;have h3:=h.2.2;omega
def B9X(t:A0w):∀l:List A0a,(∀x∈l,x.kids.length<=1000)->(A4G t l).length<=l.length*1000
 |[],_=>by simp[A4G]
 |x::l,h=>by have h1:=B9X t l λy hy=>h y (by simp[hy]);have h2:=h x (by simp);have h3:=Z1V (A1J t) x.kids;show(x.kids.filter (A1J t)++A4G t l).length<=_;simp only[Z0t,Z0x];omega
set_option maxHeartbeats 20000000 in
def C1A(u:A0a)(s:A0w)(r:List A0w)(o:Own)(M:Mem)(hf:Fit u)(b5:∀i,i<r.length->(A5B (r.take i) (A7K u s)).length<=1000/\∀x∈A5B (r.take i) (A7K u s),Fit x)(hl:(s::r).length<=9)(hp:∀i (h:i<(s::r).length),A9v i (s::r)[i]):A0e (WC gl) 328 [.agg u.row,.list 2 (A0T (s::r)) o] M (λv M'=>v=.list 8 (A0p (A4t u (s::r))) .no/\M'=M):=by
 refine A0e.dataX ?_
 have hv:=B2r gl (s::r) o M hl hp
 obtain⟨b,hb⟩:=ex (M.length)
 obtain⟨M1,a4⟩:=ex (M++[A0m.cells 25 [A0G]])
 have a8:M1[b]?=some (.cells 25 [A0G]):=by rw[a4,hb];simp
 have a9:Grow M M1:=by rw[a4];exact A0c.app none _ _
 have af:b<M1.length:=(Z0a.1 a8).1
 have aq:=B9p gl s M1
 have bw:=hf.2.2
 have b4:AtB b M M1 []:=⟨⟨a9.1,λi hi=>a9.2 i (by omega) (by simp)⟩,af,A0G,a8,.nil,λf h=>by simp at h⟩
 have z:=D0R gl s r o b M u M1 [] hf.1 b4 (by simp;omega)
 have b3:A0T (s::r)=[I s.k,S s.lab]::A0T r:=rfl
 have bd:s.row=[I s.k,S s.lab]:=rfl
 have br:A4t u (s::r)=A5B r (A7K u s):=rfl
 have b7:(A0T r).length=r.length:=by simp[A0T]
 rw[br]
 rw[B5u,b3]at z
 rw[bd]at aq
 rw[b3]at hv|-
 rw[u.row_eq]at z|-
 refine A0n (hQ [58]) func328 ?_
 simp -dsimp
 refine A0h func240 hv ?_
 simp -dsimp[-A4U]
 rw[A4U]
 simp -dsimp[-A4U,A0k]
 rw[<-a4,<-hb]
 rw[A4U]
 refine B1L (λT Mi=>T 3=.cptr [.list 2 ([I s.k,S s.lab]::A0T r) o]/\T 5=.ptr b 0/\Grow M Mi/\∃v,Mi[b]?=some (.cells 25 [v])/\RdU M.length Mi v (A7K u s)) ?_ ?_
 .have b1:¬((r.length:Int)+1=0):=by omega
  have ba:(((r.length:Int)+1==0)=false):=by simpa using b1
  simp -dsimp[b1,ba,b7];refine A0h func324 aq ?_;cases hbs:C4E s
  .simp -dsimp;refine A0q func372 z ?_;rintro _ M2 ae;obtain⟨v,h1,h2,h3⟩:=ae.arr;simp -dsimp;refine⟨ae.low.grow (A0c.refl _ _) (by omega),v,h1,.inl ⟨?_,λf h=>by have:=h3 f h;omega⟩⟩;rw[A7K,hbs];simpa using h2
  .simp -dsimp[A0l,A0M,AV.storable,AV.cells,A0f a8];rw[<-u.row_eq];exact⟨A0V a9 (by omega),_,Z2H af,.inr ⟨u,by rw[A7K,hbs,Z0e rfl],rfl⟩⟩
 clear z aq hv a4 a8 a9 af b4
 rintro T0 M0 ⟨q3,q5,bf,v0,bm,b6⟩
 have bn:(1:Int)<=r.length+1:=by omega
 simp -dsimp[q3,q5,bn]
 generalize A7A _ _ _ _ _=so
 have bx:r.length+1<=9:=hl
 refine A0B (hQ [58]) r.length 35 (λT Mi=>∃i:Nat,i<=r.length/\T 5=.ptr b 0/\T 33=.list 2 (A0T r) so/\T 34=I r.length/\T 35=I i/\Grow M Mi/\∃v,Mi[b]?=some (.cells 25 [v])/\RdU M.length Mi v (A5B (r.take i) (A7K u s))) ?_ ?_
 .exact⟨0,by omega,by simp[q5],by simp,by simp[b7],by simp,bf,v0,bm,b6⟩
 rintro T Mi ⟨i,i1,t5,c,d,a,al,v,ay,a5⟩
 by_cases hi:i<r.length
 case neg=>
  have ah:¬(i:Int)<r.length:=by omega
  rw[Z0g (by omega)]at a5;simp -dsimp[t5,c,d,a,ah,A0b ay];rw[hb];exact⟨al,a5.still⟩
 have ah:(i:Int)<r.length:=by omega
 have wi:=A1H (i:=i) (by omega)
 obtain⟨l,ak⟩:=ex (A5B (r.take i) (A7K u s))
 obtain⟨bi,ai⟩:=b5 i hi
 rw[<-ak]at bi ai
 obtain⟨t,ht⟩:=ex (r[i])
 rw[<-ak]at a5
 have be:r[i]=t:=ht.symm
 have bc:(A0T r)[i]?=some [I t.k,S t.lab]:=by simp[A0T,hi,ht,A0w.row]
 obtain⟨q,hq⟩:=ex (Mi.length)
 obtain⟨M2,ar⟩:=ex (Mi++[A0m.cells 159 [I t.k,S t.lab]])
 have aa:Grow Mi M2:=by rw[ar];exact A0c.app none _ _
 have ab:=aa.get ay (by simp)
 have bt:M2[q]?=some (.cells 159 [I t.k,S t.lab]):=by rw[ar,hq];simp
 have ad:=a5.keep aa
 have bj:=ad.len
 simp -dsimp[t5,c,d,a,ah,hi,bc,be,A0k,A0i,A0d,A0y,A0v]
 rw[<-ar,<-hq]
 simp -dsimp[t5,c,d,a,A0b ab,bj]
 refine A4B (.exit 3) (λT Mj=>T 5=.ptr b 0/\T 33=.list 2 (A0T r) so/\T 34=I r.length/\T 35=I i/\Grow M2 Mj/\Arr 27 8 A0a.row M2.length Mj (T 8) (A4G t l)) ?_ ?_
 case refine_2=>
  have ax:=a;clear t5 c d a;rintro T Mj ⟨t5,c,d,a,a0,ha⟩;have av:=a0.get ab (by simp);have a7:A0i (some 1) Mj (.ptr b 0) (T 8)=some (Mj.set b (.cells 25 [T 8])):=by rw[A0f av,ha.own.cells,Z0e ⟨ha.own.store,by simp,rfl⟩];rfl
  have b0:b<Mj.length:=(Z0a.1 av).1;have bb:Grow M (Mj.set b (.cells 25 [T 8])):=A0V ((al.trans aa).trans a0) (by omega);have bu:M.length<=M2.length:=(al.trans aa).1;have bo:Arr 27 8 A0a.row M.length (Mj.set b (.cells 25 [T 8])) (T 8) (A4G t l):=⟨ha.own.keep (A0c.set _ _ _) (λf hf e=>by have:=ha.lat f hf;have:=(Z0a.1 ab).1;simp at e;omega),λf hf=>by have:=ha.lat f hf;omega⟩;simp -dsimp[t5,c,d,a,a7,ax,wi];exact⟨⟨i+1,by clear wi;omega,rfl,bb,T 8,by simp[b0],by rw[C6o hi,<-ak,<-ht];exact .inl bo⟩,by clear wi;omega⟩
 refine A0B (hQ [58]) l.length 41 (λT Mj=>∃j:Nat,j<=l.length/\T 5=.ptr b 0/\T 7=.ptr q 0/\T 33=.list 2 (A0T r) so/\T 34=I r.length/\T 35=I i/\T 39=v/\T 40=I l.length/\T 41=I j/\Grow M2 Mj/\Arr 27 8 A0a.row M2.length Mj (T 8) (A4G t (l.take j))) ?_ ?_
 .exact⟨0,by omega,by simp[t5],by simp,by simp[c],by simp[d],by simp[a],by simp,by simp,by simp,Grow.refl _,by simpa[A4G]using Arr.nil⟩
 clear t5 c d a
 rintro T Mj ⟨j,j1,t5,t7,c,d,a,n,m,g,a0,ha⟩
 have av:=a0.get ab (by simp)
 by_cases hj:j<l.length
 case neg=>
  have ap:¬(j:Int)<l.length:=by omega
  rw[Z0g (by omega)]at ha;simp -dsimp[t5,t7,c,d,a,n,m,g,ap];exact⟨a0,ha⟩
 have ap:(j:Int)<l.length:=by omega
 have wj:=A1H (i:=j) (by omega)
 obtain⟨x,hx⟩:=ex (l[j])
 have bp:=ai x (by rw[hx];exact Z0o hj)
 have bv:=C5T bp
 have bs:(A4G t (l.take j)).length<=(l.take j).length*1000:=B9X t _ λy hy=>C5T (ai y (Z1k hy))
 rw[Z0D]at bs
 obtain⟨p,bh,az⟩:=(ad.keep a0).at_ hj
 rw[<-hx]at az
 obtain⟨M3,an⟩:=ex (Mj++[A0m.cells 27 x.row])
 have ao:Grow Mj M3:=by rw[an];exact A0c.app none _ _
 have b8:M3[Mj.length]?=some (.cells 27 x.row):=by rw[an];simp
 have am:=ha.keep ao
 generalize w:T 8=ov at*
 simp -dsimp[t5,t7,c,d,a,n,m,g,w,ap,hj,bh,az,A0k,A0i,A0d,A0y,A0v]
 rw[<-an]
 rw[x.row_eq]at b8
 simp -dsimp[t5,t7,c,d,a,n,m,g,w,A0b b8]
 have b2:=g
 have bz:M2.length<=M3.length:=(a0.trans ao).1
 refine A4B (.exit 5) (λT Mk=>T 5=.ptr b 0/\T 7=.ptr q 0/\T 33=.list 2 (A0T r) so/\T 34=I r.length/\T 35=I i/\T 39=v/\T 40=I l.length/\T 41=I j/\Grow M2 Mk/\Arr 27 8 A0a.row M2.length Mk (T 8) (A4G t (l.take j)++x.kids.filter (A1J t))) ?_ ?_
 case refine_2=>clear t5 t7 c d a n m g ha am w;rintro T Mk ⟨t5,t7,c,d,a,n,m,g,a1,ha⟩;simp -dsimp[t5,t7,c,d,a,n,m,g,b2,wj];exact⟨⟨j+1,by clear wj;omega,rfl,a1,by rw[C6p hj,<-hx];exact ha⟩,by clear wj;omega⟩
 refine A0B (hQ [58]) x.kids.length 48 (λT Mk=>∃k:Nat,k<=x.kids.length/\T 5=.ptr b 0/\T 7=.ptr q 0/\T 33=.list 2 (A0T r) so/\T 34=I r.length/\T 35=I i/\T 39=v/\T 40=I l.length/\T 41=I j/\T 46=.list 8 (A0p x.kids) .no/\T 47=I x.kids.length/\T 48=I k/\Grow M2 Mk/\Arr 27 8 A0a.row M2.length Mk (T 8) (A4G t (l.take j)++(x.kids.take k).filter (A1J t))) ?_ ?_
 .exact⟨0,by omega,by simp[t5],by simp[t7],by simp[c],by simp[d],by simp[a],by simp[n],by simp[m],by simp[g],by simp,by simp,by simp,a0.trans ao,by simpa[w]using am⟩
 clear t5 t7 c d a n m g ha am w
 rintro T Mk ⟨k,k1,t5,t7,c,d,a,n,m,g,t46,a3,a2,a1,ha⟩
 by_cases hk:k<x.kids.length
 case neg=>
  have ag:¬(k:Int)<x.kids.length:=by omega
  rw[Z0g (show x.kids.length<=k by omega)]at ha;simp -dsimp[t5,t7,c,d,a,n,m,g,t46,a3,a2,ag];exact⟨a1,ha⟩
 have ag:(k:Int)<x.kids.length:=by omega
 obtain⟨y,hy⟩:=ex (x.kids[k])
 have bk:x.kids[k]=y:=hy.symm
 have bg:=a1.get bt (by simp)
 obtain⟨M5,au⟩:=ex (Mk++[A0m.cells 27 y.row])
 have ac:Grow Mk M5:=by rw[au];exact A0c.app none _ _
 have aw:M5[Mk.length]?=some (.cells 27 y.row):=by rw[au];simp
 have bq:=ac.get bg (by simp)
 have aj:=ha.keep ac
 have b9:=B5H gl y t M5
 rw[show t.row=[I t.k,S t.lab]from rfl]at b9
 have a6:(x.kids.take (k+1)).filter (A1J t)=(x.kids.take k).filter (A1J t)++(if A1J t y=true then[y]else[]):=by rw[Z1r,Z0l hk,Z3t,hy];simp only[Option.toList_some,Z1Z,Z4i]
 generalize w:T 8=ov at*
 simp -dsimp[t5,t7,c,d,a,n,m,g,t46,a3,a2,w,ag,hk,bk,A0k,A0i,A0d,A0y,A0v]
 rw[<-au]
 simp -dsimp[t5,t7,c,d,a,n,m,g,t46,a3,a2,w,A0b aw,A0b bq]
 refine A0h func374 b9 ?_
 have w1:=A1H (i:=k) (by omega)
 cases a7:A1J t y
 .rw[a7,Z0d (by simp),Z1d]at a6;simp -dsimp[t5,t7,c,d,a,n,m,g,t46,a3,a2,w,w1];exact⟨⟨k+1,by clear w1;omega,rfl,a1.trans ac,by rw[a6];exact aj⟩,by clear w1;omega⟩
 .rw[a7,Z0e rfl]at a6;simp -dsimp[t5,t7,c,d,a,n,m,g,t46,a3,a2,w,A0b aw,A0l,A0M,A0y,A0v];refine A3B (C:=WC gl) (enc:=A0a.row) (e:=27) (sz:=8) (news:=[y]) A7G B2i B1T A0a.row_len aj.own (by simp[A0D]) (by have q1:=Z1V (A1J t) (x.kids.take k);have q2:=Z3P k x.kids;simp only[Z0t,Z3F];omega) rfl ?_;intro v' M' h1 h2 h3 _;obtain⟨g1,g2⟩:=A2T (X:=[]) (a1.trans ac) aj.lat (by simpa using h2) (by simpa using h3);simp -dsimp[t5,t7,c,d,a,n,m,g,t46,a3,a2,w1];exact⟨⟨k+1,by clear w1;omega,rfl,g1,by rw[a6,<-Z0F];exact⟨h1,g2⟩⟩,by clear w1;omega⟩
def D2Q(u:A0a)(s:A0w)(o:Own)(M:Mem)(hf:Fit u)(hs:A9v 1 s):A0e (WC gl) 328 [.agg u.row,.list 2 (A0T [A3n,s]) o] M (λv M'=>v=.list 8 (A0p (u.kids.filter (A1J s))) .no/\M'=M):=by
 have h:=C1A gl u A3n [s] o M hf (λi hi=>by
  obtain rfl:i=0:=by simpa using hi
  exact⟨by show[u].length<=1000;simp,λx hx=>by rw[Z0I.1 (show x∈[u]from hx)];exact hf⟩) (by simp) (λi h=>match i,h with
  |0,_=>.inl ⟨rfl,rfl⟩
  |1,_=>hs)
 have e:A4t u [A3n,s]=u.kids.filter (A1J s):=by show u.kids.filter (A1J s)++[]=_;rw[Z1d]
 rwa[e]at h
def D3w(u:A0a)(p:List A0w)(o:Own)(M:Mem)(hf:Fit u)(hn:(A0R u).Nodup)(hl:p.length<=9)(hp:∀i (h:i<p.length),A9v i p[i]):A0e (WC gl) 328 [.agg u.row,.list 2 (A0T p) o] M (λv M'=>v=.list 8 (A0p (A4t u p)) .no/\M'=M):=by
 cases p with
 |nil=>exact D2V gl u o M
 |cons s r=>exact C1A gl u s r o M hf (λi _=>by have h:=Sel.follow hn (r.take i) _ (C1J hn s);exact⟨Z0R h.len hf.2.2,λx hx=>A7V u hf x (h.sub x hx)⟩) hl hp
end
def C3q(a b:IdD):A1B prog .neq 23 (.agg [I a.act,I a.item,I a.n]) (.agg [I b.act,I b.item,I b.n])=some (B (!decide (a=b))):=by
 have h0:A3q prog .neq 23 (.agg [I a.act,I a.item,I a.n]) (.agg [I b.act,I b.item,I b.n])=none:=by simp[A3q,A4p]
 have:=(A9d 248 4 (by kernel_rfl)).eq a b;simp only[A3c,IdD.row]at this;simp only[A1B,h0,A4T,C2E,this];rfl
def D0T{M:Mem}{b:Nat}{k:Int}{i:Nat}{v:AV}(h0:M[b]?=some (.map doE 7))(h4:A2Q prog 3 (I k) doE=some (some (i,v))):A1Y prog 227 M (.mapr b) (I k) true=some (.tuple [v,B true]):=B7X h0 (kt:=3) (et:=225) (by kernel_rfl) (by kernel_rfl) rfl h4
section
variable (gl:Nat->AV)
def C3j(a8:gl 3=.cptr [fnV 444,fnV 445])(u k:A0a)(ks:List A0a)(h:Int)(i:Nat)(a7:Int)(M:Mem)(hk:u.kids=k::ks)(hf:Fit u)(hn:(A0R u).Nodup)
 (z:A9v 1 ⟨k.kind,k.label⟩)(ae:u.kids.filter (A1J ⟨k.kind,k.label⟩)=[k]):
 A0e (WC gl) 133 [.agg u.row,.agg (enR h i a7 (.rep [A3n,⟨k.kind,k.label⟩]))] M (λv M'=>v=.tuple [.agg (A8h u ks).row,I 0]/\M'=M):=by
 refine A0e.dataX ?_
 obtain⟨p,hp⟩:=ex ([A3n,⟨k.kind,k.label⟩]:List A0w)
 have a2:k∈A2R u:=by have:=B0q u u (B0t u) k (by rw[hk];simp);exact this
 have g:=λM=>A7p gl u k.id M hf
 rw[A8Z hn a2]at g
 have q:=λM=>B3z gl u k (A5y p) M (λM=>by have:=D2Q gl u ⟨k.kind,k.label⟩ .no M hf z;rw[ae,<-hp]at this;exact this)
 have a0:=λM=>C4y gl a8 p M (by rw[hp];simp) (by
  intro j hj;subst hp
  match j,hj with
  |0,_=>exact .inl ⟨rfl,rfl⟩
  |1,_=>exact z)
 have s:=λd M=>C4v gl u k ks d M hk hf hn
 have a6:k.id.row=[I k.id.act,I k.id.item,I k.id.n]:=rfl
 have a5:¬k.id=u.id:=by intro e;obtain⟨a,b,c,d,e',f⟩:=u;rw[A0R,Z1q]at hn;have hk:f=k::ks:=hk;subst hk;refine hn.1 ?_;have e:k.id=a:=e;rw[<-e,A3J];exact Z1P _ (B3T k)
 have a1:=C3q k.id u.id
 rw[Z0r a5]at a1
 obtain⟨b,hb⟩:=ex (M.length)
 obtain⟨M1,o⟩:=ex (M++[z8])
 have h1:M1[b]?=some z8:=by rw[o,hb];simp
 have aa:Grow M M1:=by rw[o];exact A0c.app none _ _
 obtain⟨M2,r⟩:=ex (M1++[A0m.map doE 7])
 have ab:M2[M1.length]?=some (.map doE 7):=by rw[r];simp
 have ac:Grow M1 M2:=by rw[r];exact A0c.app none _ _
 have w:=A1a (C:=WC gl) func189 rfl rfl (B7c gl M1)
 rw[<-r]at w
 obtain⟨M3,l⟩:=ex (M2++[A0m.cells 23 [I k.id.act,I k.id.item,I k.id.n]])
 have a3:M3[M2.length]?=some (A0m.cells 23 [I k.id.act,I k.id.item,I k.id.n]):=by rw[l];simp
 have t:Grow M2 M3:=by rw[l];exact A0c.app none _ _
 obtain⟨M4,m⟩:=ex (M3++[A0m.cells 27 [I k.id.act,I k.id.item,I k.id.n,I k.kind,S k.label,.list 4 (A0g k.head) .no,.list 4 (A0g k.words) .no,.list 8 (A0p k.kids) .no]])
 have a9:M4[M3.length]?=some (A0m.cells 27 [I k.id.act,I k.id.item,I k.id.n,I k.kind,S k.label,.list 4 (A0g k.head) .no,.list 4 (A0g k.words) .no,.list 8 (A0p k.kids) .no]):=by rw[m];simp
 have y:Grow M3 M4:=by rw[m];exact A0c.app none _ _
 have a4:=y.get a3 (by simp)
 have x:Grow M1 M4:=ac.trans (t.trans y)
 have h4:=x.get h1 (by simp)
 have ad:b<M4.length:=(Z0a.1 h4).1
 rw[A1z]at g
 rw[a6]at g q
 rw[<-hp]
 rw[k.row_eq]at g s
 rw[u.row_eq]at g q s|-
 simp only[A1Q.row]at a0
 refine A0n hB func133 ?_
 simp -dsimp[A0k,enR,A1Q.row]
 rw[<-o,<-hb]
 refine A0Z hB (A0u gl) (λk=>if k=0 then 2 else if k=4 then 1 else 0) (λ_=>M1.length) (by rfl) (by kernel_rfl) ?_
 simp -dsimp
 refine A4S w ?_
 simp -dsimp[A0F,D0T (k:=1) (i:=1) (v:=fnV 233) ab (by kernel_rfl)]
 refine A0h func190 (a0 M2) ?_
 simp -dsimp
 refine A0h func191 (q M2) ?_
 simp -dsimp[A0k,A0i,A0d,A0y,A0v]
 rw[<-l]
 simp -dsimp[A0b a3]
 refine A0h func32 (g M3) ?_
 simp -dsimp[A0k,A0i,A0d,A0y,A0v]
 rw[<-m]
 simp -dsimp[A0b a4,a1,A0b a9]
 refine A0h func233 (s _ M4) ?_
 simp -dsimp[A0f h4,A0y,A0v,A0s ad,A0j]
 exact⟨A0V (aa.trans x) (by omega),.tuple (.same (by simp only[bdd];exact A3d _ _) (.same trivial .nil)) .nil⟩
def C4K(a4:gl 0=A2z)(ai:gl 1=A2K)(ad:gl 3=.cptr [fnV 444,fnV 445])(u t:A0a)(g:Int)(i:Nat)(a1:Int)(M:Mem)(hf:Fit u)(a7:Fit t)(ae:A3A t)(aj:t.kind≠0)(a9:B0Y t=0)
 (hw:wcU t<=1000000000)(hx:Fit (A2p g i t 0 0))(al:u.kids.length<64)(a8:A2i t<8)
 (ac:A0r u+A0r t<=1024)(ab:B6l u (A2p g i t 0 0)=0)(s:((A0R (A2p g i t 0 0)).any λy=>(A0R u).any λz=>decide (z=y))=false):
 A0e (WC gl) 133 [.agg u.row,.agg (enR g i a1 (.ins t))] M (λv M'=>v=.tuple [.agg (A8h u (u.kids++[A2p g i t 0 0])).row,I 0]/\M'=M):=by
 refine A0e.dataX ?_
 have an:A0E u.id u=some u:=by obtain⟨a,b,c,d,e,f⟩:=u;rw[A0E];exact Z0e rfl
 have h:=λM=>A7p gl u u.id M hf
 rw[an]at h
 have p:=λM=>B3z gl u u A0G M (λM=>D0U gl u M)
 have a2:=λM=>C3o gl a4 ai ad t M a7 ae aj a9
 have j:=λM=>C4z gl a4 u t g i a1 M hf a7 hw hx al a8 ac ab s
 have aa:u.id.row=[I u.id.act,I u.id.item,I u.id.n]:=rfl
 have a5:=C3q u.id u.id
 rw[Z0w rfl]at a5
 obtain⟨y,hy⟩:=ex (A8h u (u.kids++[A2p g i t 0 0]))
 rw[<-hy]at j|-
 obtain⟨b,hb⟩:=ex (M.length)
 obtain⟨M1,o⟩:=ex (M++[z8])
 have h1:M1[b]?=some z8:=by rw[o,hb];simp
 have a3:Grow M M1:=by rw[o];exact A0c.app none _ _
 obtain⟨M2,q⟩:=ex (M1++[A0m.map doE 7])
 have ag:M2[M1.length]?=some (.map doE 7):=by rw[q];simp
 have ah:Grow M1 M2:=by rw[q];exact A0c.app none _ _
 have w:=A1a (C:=WC gl) func189 rfl rfl (B7c gl M1)
 rw[<-q]at w
 obtain⟨M3,l⟩:=ex (M2++[A0m.cells 23 [I u.id.act,I u.id.item,I u.id.n]])
 have a6:M3[M2.length]?=some (A0m.cells 23 [I u.id.act,I u.id.item,I u.id.n]):=by rw[l];simp
 have r:Grow M2 M3:=by rw[l];exact A0c.app none _ _
 obtain⟨M4,m⟩:=ex (M3++[A0m.cells 27 [I u.id.act,I u.id.item,I u.id.n,I u.kind,S u.label,.list 4 (A0g u.head) .no,.list 4 (A0g u.words) .no,.list 8 (A0p u.kids) .no]])
 have af:M4[M3.length]?=some (A0m.cells 27 [I u.id.act,I u.id.item,I u.id.n,I u.kind,S u.label,.list 4 (A0g u.head) .no,.list 4 (A0g u.words) .no,.list 8 (A0p u.kids) .no]):=by rw[m];simp
 have a0:Grow M3 M4:=by rw[m];exact A0c.app none _ _
 have am:=a0.get a6 (by simp)
 have x:Grow M1 M4:=ah.trans (r.trans a0)
 have h4:=x.get h1 (by simp)
 have ak:b<M4.length:=(Z0a.1 h4).1
 rw[A1z]at h
 rw[aa]at h p
 rw[u.row_eq]at h p j|-
 simp only[A1Q.row,enR,Z0V,Z1F]at a2 j
 refine A0n hB func133 ?_
 simp -dsimp[A0k,enR,A1Q.row]
 rw[<-o,<-hb]
 refine A0Z hB (A0u gl) (λk=>if k=0 then 2 else if k=4 then 1 else 0) (λ_=>M1.length) (by rfl) (by kernel_rfl) ?_
 simp -dsimp
 refine A4S w ?_
 simp -dsimp[A0F,D0T (k:=0) (i:=0) (v:=fnV 232) ag (by kernel_rfl)]
 refine A0h func190 (a2 M2) ?_
 simp -dsimp
 refine A0h func191 (p M2) ?_
 simp -dsimp[A0k,A0i,A0d,A0y,A0v]
 rw[<-l]
 simp -dsimp[A0b a6]
 refine A0h func32 (h M3) ?_
 simp -dsimp[A0k,A0i,A0d,A0y,A0v]
 rw[<-m]
 simp -dsimp[A0b am,a5,A0b af]
 refine A0h func232 (j M4) ?_
 simp -dsimp[A0f h4,A0y,A0v,A0s ak,A0j]
 exact⟨A0V (a3.trans x) (by omega),.tuple (.same (by simp only[bdd];exact A3d _ _) (.same trivial .nil)) .nil⟩
end
structure EnD where
 number:Int
 i:Nat
 day:Int
 it:A1Q
def EnD.row(x:EnD):List AV:=enR x.number x.i x.day x.it
@[simp] def EnD.row_len(x:EnD):x.row.length=28:=D7N _ _ _ _
@[simp] def EnD.row_take(x:EnD):List.take 28 x.row=x.row:=Z0g (by simp)
def A1Q.kind:A1Q->Int
 |.rep _=>1
 |.ins _=>0
def enL(number day:Int)(items:List A1Q):List EnD:=items.zipIdx.map λx=>⟨number,x.2,day,x.1⟩
def D8I(b c:Int)(a:List A1Q):(enL b c a).length=a.length:=by simp[enL]
def D8Y(b c:Int)(a:List A1Q)(i:Nat)(h:i<a.length):(enL b c a)[i]?=some ⟨b,i,c,a[i]⟩:=by simp[enL,Z1g,List.getElem?_zipIdx,h]
def hAl:A2u:=⟨λd=>d !=2,λ_=>false,λ_=>false⟩
@[simp] def E5y:hAl.imm=λd=>d !=2:=(rfl)
section
variable (gl:Nat->AV)
set_option maxHeartbeats 1000000 in
def D4u(L:List EnD)(U:Nat->A0a)(v:AV)(M:Mem)(hl:L.length<=1000)(ho:A1g 143 28 EnD.row M v L)(hU:∀i (h:i<L.length) M,A0e (WC gl) 133 [.agg (U i).row,.agg L[i].row] M (λv M'=>v=.tuple [.agg (U (i+1)).row,I 0]/\M'=M)):
 A0e (WC gl) 79 [.agg (U 0).row,v] M (λr M'=>r=.tuple [.agg (U L.length).row,A0G]/\M'=M):=by
 refine A0e.dataX ?_
 obtain⟨b,hb⟩:=ex (M.length)
 obtain⟨M1,j⟩:=ex (M++[A0m.cells 27 (U 0).row,z8])
 have h1:M1[b]?=some (.cells 27 (U 0).row):=by rw[j,hb];simp
 have h2:M1[b+1]?=some z8:=by rw[j,hb];simp[Z0W]
 have ad:Grow M M1:=by rw[j];exact A0c.app none _ _
 have a4:=ho.len (P:=prog) underlying141
 refine A0n hAl func79 ?_
 simp -dsimp[A0k,A0y,A0v,a4]
 rw[<-j,<-hb]
 refine A0B hAl L.length 13 (λT Mi=>∃i:Nat,i<=L.length/\T 2=.ptr b 0/\T 4=.ptr (b+1) 0/\T 6=A0G/\T 11=v/\T 12=I L.length/\T 13=I i/\Grow M Mi/\Mi[b]?=some (.cells 27 (U i).row)/\Mi[b+1]?=some z8) ?_ ?_
 .exact⟨0,by omega,by simp,by simp,by simp,by simp,by simp,by simp,ad,h1,h2⟩
 rintro T Mi ⟨i,i1,t2,t4,t6,f,d,c,l,g,u⟩
 have ai:b<Mi.length:=(Z0a.1 g).1
 have ae:b+1<Mi.length:=(Z0a.1 u).1
 by_cases hi:i<L.length
 case neg=>
  have a0:¬(i:Int)<L.length:=by omega
  have e:i=L.length:=by omega
  subst e;have ag:A1y prog 27 Mi (.ptr b 0)=some (.agg (U L.length).row):=by rw[(U L.length).row_eq]at g|-;rw[A0b g];simp
  simp -dsimp[t2,t4,t6,f,d,c,ag,A0f u,A0y,A0v,A0s ae,A0j];exact⟨A0V l (by omega),.tuple (.same (by simp only[bdd];exact A3d _ _) (.same trivial .nil)) .nil⟩
 have a0:(i:Int)<L.length:=by omega
 have w1:=A1H (i:=i) (by omega)
 obtain⟨x,hx⟩:=ex (L[i])
 have ah:=ho.keep l (by simp)
 obtain⟨pt,aa,-,a6,-⟩:=ah.at_ (P:=prog) (t:=143) EnD.row_len E0c E3f hi
 rw[<-hx]at a6
 have a:=hU i hi
 rw[<-hx]at a
 obtain⟨q,hq⟩:=ex (Mi.length)
 obtain⟨M2,p⟩:=ex (Mi++[A0m.cells 143 x.row])
 have w:M2[q]?=some (.cells 143 x.row):=by rw[p,hq];simp
 have o:Grow Mi M2:=by rw[p];exact A0c.app none _ _
 have a5:A1y prog 143 M2 (.ptr q 0)=some (.agg x.row):=by rw[A0b w];simp[A0j,B1e]
 have a9:A1y prog 3 M2 (.ptr q 3)=some (I x.it.kind):=by rw[A0b w];obtain⟨n0,i0,d0,it⟩:=x;cases it<;>simp[EnD.row,enR,A1Q.row,A1Q.kind]
 have s:=o.get g (by simp)
 have ab:=o.get u (by simp)
 have a2:A1y prog 27 M2 (.ptr b 0)=some (.agg (U i).row):=by rw[(U i).row_eq]at s|-;rw[A0b s];simp
 have ac:(decide (0<=x.it.kind)&&decide (x.it.kind<=6))=true:=by cases x.it<;>simp[A1Q.kind]
 have k:=B6K gl M2 x.it.kind
 rw[ac]at k
 obtain⟨y,hy⟩:=ex (U (i+1))
 rw[<-hy]at a
 obtain⟨M3,m⟩:=ex (M2++[A0m.cells 27 y.row])
 have a1:M3[M2.length]?=some (.cells 27 y.row):=by rw[m];simp
 have z:A1y prog 27 M3 (.ptr M2.length 0)=some (.agg y.row):=by rw[y.row_eq]at a1|-;rw[A0b a1];simp
 have n:Grow M2 M3:=by rw[m];exact A0c.app none _ _
 have a7:=n.get s (by simp)
 have af:=n.get ab (by simp)
 have a8:A0i (some 8) M3 (.ptr b 0) (.agg y.row)=some (M3.set b (.cells 27 y.row)):=by rw[A0f a7];simp[A0y,A0v,A0d,Z1Q]
 have a3:b<M3.length:=(Z0a.1 a7).1
 simp -dsimp[t2,t4,t6,f,d,c,a0,aa,a6,A0k,A0i,A0d,A0y,A0v]
 rw[<-p,<-hq]
 simp -dsimp[t2,t4,t6,f,d,c,a9]
 refine A0h func132 k ?_
 simp -dsimp[t2,t4,t6,f,d,c,a5,a2]
 refine A0h func133 (a M2) ?_
 simp -dsimp[t2,t4,t6,f,d,c,A0k,A0i,A0d,A0y,A0v]
 rw[<-m]
 simp -dsimp[t2,t4,t6,f,d,c,z,a8,w1]
 refine⟨⟨i+1,by clear w1;omega,rfl,A0V (l.trans (o.trans n)) (by omega),by rw[hy];simp[a3],?_⟩,by clear w1;omega⟩
 exact af
def D5a{a b:Int}{i:Nat}{it:A1Q}:A0x prog 143 [(0,I a),(1,I i),(2,I b),(3,.agg it.row)]=some (.agg (EnD.mk a i b it).row):=by cases it<;>simp[A0x,A1b,A1o,A0d,AV.cells,AV.storable,EnD.row,enR,A1Q.row]
@[simp] def A1Q.row_take(x:A1Q):List.take 25 x.row=x.row:=Z0g (by simp)
set_option maxHeartbeats 1000000 in
def D6I(u:A0a)(c d:Int)(a:List A1Q)(U:Nat->A0a)(M:Mem)(hl:a.length<=1000)(h0:U 0=u)(hU:∀i (h:i<a.length) M,A0e (WC gl) 133 [.agg (U i).row,.agg (enR c i d a[i])] M (λv M'=>v=.tuple [.agg (U (i+1)).row,I 0]/\M'=M)):
 A0e (WC gl) 26 [.agg u.row,C7v c d a] M (λr M'=>r=.tuple [.agg (U a.length).row,A0G]/\M'=M):=by
 refine A0e.dataX ?_
 obtain⟨b,hb⟩:=ex (M.length)
 obtain⟨M1,q⟩:=ex (M++[z8])
 have h1:M1[b]?=some z8:=by rw[q,hb];simp
 have a4:Grow M M1:=by rw[q];exact A0c.app none _ _
 have m:=D8Y c d a
 have w:=D8I c d a
 have f:=λv M' (ho:A1g 143 28 EnD.row M' v (enL c d a))=>D4u gl (enL c d a) U v M' (by omega) ho (λi h M=>by
  have hi:i<a.length:=by omega
  have e:=m i hi;rw[Z0l h]at e;rw[Z1H e];exact hU i hi M)
 rw[w,h0]at f
 have a5:∀i (h:i<a.length),(a.map A1Q.row)[i]?=some a[i].row:=λi h=>by simp[h]
 rw[u.row_eq]at f|-
 rw[C7v]
 refine A0n (hQ [26]) func26 ?_
 simp -dsimp[A0k]
 rw[<-q,<-hb]
 refine A0B (hQ [26]) a.length 12 (λT Mi=>∃i:Nat,i<=a.length/\T 2=.cptr [I u.id.act,I u.id.item,I u.id.n,I u.kind,S u.label,.list 4 (A0g u.head) .no,.list 4 (A0g u.words) .no,.list 8 (A0p u.kids) .no]/\T 3=.cptr [I c,S A9G,I d,I 1,I d,eS,.list 25 (a.map A1Q.row) .no]/\T 4=.ptr b 0/\T 10=.list 25 (a.map A1Q.row) .no/\T 11=I a.length/\T 12=I i/\Grow M1 Mi/\Arr 143 28 EnD.row M1.length Mi (T 6) ((enL c d a).take i)) ?_ ?_
 .exact⟨0,by omega,by simp,by simp,by simp,by simp,by simp,by simp,Grow.refl _,by simpa using Arr.nil⟩
 rintro T Mi ⟨i,i1,t2,t3,t4,g,k,j,o,ha⟩
 by_cases hi:i<a.length
 case neg=>
  have p:¬(i:Int)<a.length:=by omega
  rw[Z0g (by omega)]at ha;have t:=o.get h1 (by simp);have a1:b<Mi.length:=(Z0a.1 t).1;generalize l:T 6=ov at*;simp -dsimp[t2,t3,t4,g,k,j,p,l];refine A0h func79 (f ov Mi ha.own) ?_;simp -dsimp[t4,A0f t,A0y,A0v,A0s a1,A0j];exact⟨A0V (a4.trans o) (by omega),.tuple (.same (by simp only[bdd];exact A3d _ _) (.same trivial .nil)) .nil⟩
 have p:(i:Int)<a.length:=by omega
 have w1:=A1H (i:=i) (by omega)
 obtain⟨x,hx⟩:=ex (a[i])
 have a0:=a5 i hi
 rw[<-hx]at a0
 have a2:a[i]=x:=hx.symm
 obtain⟨M2,s⟩:=ex (Mi++[A0m.cells 128 x.row])
 have a7:M2[Mi.length]?=some (.cells 128 x.row):=by rw[s];simp
 have y:Grow Mi M2:=by rw[s];exact A0c.app none _ _
 have z:=ha.keep y
 have a6:A1y prog 128 M2 (.ptr Mi.length 0)=some (.agg x.row):=by rw[A0b a7];simp[A0j,B1e]
 have a3:(enL c d a).take (i+1)=(enL c d a).take i++[⟨c,i,d,x⟩]:=by rw[Z1r,m i hi,hx];rfl
 generalize l:T 6=ov at*
 simp -dsimp[t2,t3,t4,g,k,j,hi,p,a0,a2,l,A0k,A0i,A0d,A0y,A0v]
 rw[<-s]
 simp -dsimp[t2,t3,t4,g,k,j,l,a6,D5a,A0l,A0M,A0y,A0v]
 refine A3B (C:=WC gl) (enc:=EnD.row) (e:=143) (sz:=28) (bytes:=392) (news:=[⟨c,i,d,x⟩]) D8C E1a E0q EnD.row_len z.own (by simp[A0D]) (by simp;omega) rfl ?_
 intro v' M' k1 k2 k3 _
 obtain⟨g1,g2⟩:=A2T (X:=[]) (o.trans y) z.lat (by simpa using k2) (by simpa using k3)
 simp -dsimp[t2,t3,t4,g,k,j,w1]
 exact⟨⟨i+1,by clear w1;omega,rfl,g1,by rw[a3];exact⟨k1,g2⟩⟩,by clear w1;omega⟩
end
def B8U{u:A0a}{ks:List A0a}(hf:Fit u)(h1:∀k∈ks,k.good/\k.lims)(h2:1+A0A ks<=1000):Fit (A8h u ks):=by
 obtain⟨g1,g2,g3,g4,g5,g6,g7,g8,g9⟩:=(A0a.good_iff u).1 hf.1;obtain⟨⟨l1,l2,l3,l4⟩,l5⟩:=A3R _ hf.2.1;have hl:=A1Z ks;refine⟨(A0a.good_iff _).2 ⟨g1,g2,g3,g4,g5,g6,g7,?_,λk hk=>(h1 k hk).1⟩,?_,?_⟩
 .show ks.length<=9223372036854775807;omega
 .rw[A8h,A0a.lims];exact⟨⟨l1,l2,by show ks.length<=1000;omega,l4⟩,A3Y.2 λk hk=>(h1 k hk).2⟩
 .rw[A8h,A0r];exact h2
def C7f:∀(a b:List A0a),A3J (a++b)=A3J a++A3J b
 |[],b=>by rw[A3J];rfl
 |k::a,b=>by rw[Z0V,A3J,A3J,C7f a b,Z0F]
def C8c(u:A0a):A0r u=1+A0A u.kids:=by obtain⟨a,b,c,d,e,f⟩:=u;rw[A0r];rfl
def C5h(u:A0a):A0R u=u.id::A3J u.kids:=by obtain⟨a,b,c,d,e,f⟩:=u;rw[A0R];rfl
def D6c{u:A0a}(hf:Fit u)(i:Nat):Fit (A8h u (u.kids.drop i)):=by have h1:=((A0a.good_iff u).1 hf.1).2.2.2.2.2.2.2.2;have h2:=A3Y.1 (A3R _ hf.2.1).2;have h3:=A8i (u.kids.take i) (u.kids.drop i);rw[Z1b]at h3;have h4:=C8c u;have h5:=hf.2.2;exact B8U hf (λk hk=>⟨h1 k (Z1m hk),h2 k (Z1m hk)⟩) (by omega)
def C9M{u:A0a}(hn:(A0R u).Nodup)(i:Nat):(A0R (A8h u (u.kids.drop i))).Nodup:=by have h:=C7f (u.kids.take i) (u.kids.drop i);rw[Z1b]at h;rw[C5h,h]at hn;rw[A8h,A0R];exact hn.sublist (List.Sublist.cons_cons _ (List.sublist_append_right _ _))
def B3J:∀{kind:Int} {ks b:List A0a},A6F kind ks b=true->∀i (h:i<ks.length),A4E kind ks[i].kind=true/\A3u ks[i]=true/\(∀a∈b,A7F a ks[i]=false)/\∀j (hj:j<i),A7F (ks[j]'(by omega)) ks[i]=false
 |kind,k::ks,b,h,i,hi=>by
  rw[A6F]at h;simp only[Z0f,Z2E]at h;obtain⟨⟨⟨h1,h2⟩,h3⟩,h4⟩:=h;cases i with
  |zero=>refine⟨h1,h2,λa ha=>?_,λj hj=>by omega⟩;exact by simpa using List.any_eq_false.1 h3 a ha
  |succ i=>
   obtain⟨k1,k2,k3,k4⟩:=B3J h4 i (by simpa using hi);refine⟨k1,k2,λa ha=>k3 a (by simp[ha]),λj hj=>?_⟩;cases j with
   |zero=>exact k3 k (by simp)
   |succ j=>exact k4 j (by omega)
def C8l{u:A0a}(h:A3u u=true):A6F u.kind u.kids []=true:=by obtain⟨a,b,c,d,e,f⟩:=u;rw[A3u]at h;simp only[Z0f]at h;exact h.2
def D5H{k:Int}(h:A4E 0 k=true):k=1\/k=2:=by simpa[A4E,A9F]using h
def D3f(a b:A0a):A7F a b=A7F b a:=by simp only[A7F];rw[show decide (a.kind=b.kind)=decide (b.kind=a.kind)by simp[eq_comm],show decide (a.label=b.label)=decide (b.label=a.label)by simp[eq_comm]]
def C1T(a b:A0a):A1J ⟨b.kind,b.label⟩ a=A7F a b:=rfl
def C6g{u:A0a}(h:A6b u=true)(hk:u.kind≠0):A0O u.label=true/\u.kind<=7:=by unfold A6b at h;simp only[Z0f,Z0k,Z0d hk]at h;exact⟨h.2,h.1.1.1.1.2⟩
def D4o{u:A0a}(h:A3u u=true)(h0:u.kind=0){i:Nat}(hi:i<u.kids.length):A9v 1 ⟨u.kids[i].kind,u.kids[i].label⟩/\(u.kids.drop i).filter (A1J ⟨u.kids[i].kind,u.kids[i].label⟩)=[u.kids[i]]:=by
 have hr:=C8l h;rw[h0]at hr;obtain⟨k1,k2,-,-⟩:=B3J hr i hi;have hk:=D5H k1;obtain⟨a1,a2⟩:=C6g (A7r k2) (by omega);refine⟨.inr ⟨?_,a2,a1⟩,?_⟩
 .show 0<u.kids[i].kind;omega
 .rw[Z0j hi,Z1Z,C1T,Z0e (by simp[A7F])];congr 1;rw[Z3b];intro a ha;obtain⟨j,hj,rfl⟩:=Z2r ha;have b:i+1+j<u.kids.length:=by simp at hj;omega
  rw[List.getElem_drop,C1T,D3f,(B3J hr (i+1+j) b).2.2.2 i (by omega)];simp
mutual
def C2N(x:IdD):∀u:A0a,x∉A0R u->B0v x u=none
 |.mk id k l h w ks,hn=>by rw[A0R,Z0s,Z2N]at hn;rw[B0v,Z0d (λe=>hn.1 e.symm)];exact C3e x ks hn.2
def C3e(x:IdD):∀ks:List A0a,x∉A3J ks->B3d x ks=none
 |[],_=>by rw[B3d]
 |k::ks,hn=>by rw[A3J,Z0S,Z2N]at hn;rw[B3d,C2N x k hn.1];exact C3e x ks hn.2
end
def C6d{k:A0a}:∀{ks:List A0a},(A3J ks).Nodup->k∈ks->B3d k.id ks=some [⟨k.kind,k.label⟩]
 |a::ks,hn,hk=>by
  rw[A3J]at hn;obtain⟨n1,n2,n3⟩:=Z1L.1 hn;rw[B3d];rcases Z0s.1 hk with rfl|hk
  ·(have:B0v k.id k=some []:=by obtain⟨a,b,c,d,e,f⟩:=k;rw[B0v];exact Z0e rfl);rw[this]
  .rw[C2N k.id a λh=>n3 _ h _ (A9U (B3T k) hk) rfl];exact C6d n2 hk
def D5Y{u k:A0a}(hn:(A0R u).Nodup)(hk:k∈u.kids):B4B u k.id=some [A3n,⟨k.kind,k.label⟩]:=by
 rw[C5h,Z1q]at hn;have hw:B0v k.id u=B3d k.id u.kids:=by
  obtain⟨a,b,c,d,e,f⟩:=u;rw[B0v,Z0d]
  .rfl
  .intro e';exact hn.1 (e'▸A9U (B3T k) hk)
 rw[B4B,hw,C6d hn.2 hk];rfl
def B5Q{a i:Int}(ha:inI a)(hi:inI i):∀(l:List ByteArray) (n:Nat),(∀t∈l,t.size<=maxLen)->n+l.length<=2000000000->∀w∈A4g a i n l,w.good
 |[],n,_,_,w,hw=>by simp[A4g]at hw
 |t::l,n,ht,hn,w,hw=>by
  rw[A4g]at hw;simp only[Z0x]at hn;rcases Z0s.1 hw with rfl|hw
  .refine⟨ht t (by simp),ha,hi,?_⟩;simp only[inI];omega
  .exact B5Q ha hi l (n+1) (λq hq=>ht q (by simp[hq])) (by omega) w hw
def B8X{l:List A0Q}(h:∀w∈l,w.good):∀t∈A0z l,t.size<=maxLen:=by intro t ht;obtain⟨w,hw,rfl⟩:=Z0C.1 ht;exact(h w hw).1
mutual
def B6d{a i:Int}(ha:inI a)(hi:inI i):∀(t:A0a) (n w:Nat),t.good->t.lims->n+A0r t<=1000000->w+wcU t<=1000000000->(A2p a i t n w).good/\(A2p a i t n w).lims
 |.mk id k l h ws ks,n,w,hg,hl,hn,hw=>by
  obtain⟨g1,g2,g3,g4,g5,g6,g7,g8,g9⟩:=(A0a.good_iff _).1 hg;obtain⟨⟨l1,l2,l3,l4⟩,l5⟩:=A3R _ hl;rw[A0r]at hn;rw[wcU]at hw;have g5:∀w∈h,w.good:=g5;have g7:∀w∈ws,w.good:=g7;have g9:∀k∈ks,k.good:=g9;have l3:ks.length<=1000:=l3;have l1:h.length<=100000000:=l1;have l2:ws.length<=100000000:=l2;have g8:ks.length<=maxLen:=g8;have hk:=B9I ha hi ks (n+1) (w+h.length+ws.length) g9 (A3Y.1 l5) (by omega) (by omega);have t1:(A0z h).length=h.length:=by simp[A0z]
  have t2:(A0z ws).length=ws.length:=by simp[A0z]
  rw[A2p];have hm:∀n:Nat,n<=100000000->n<=maxLen:=λn h=>by show n<=9223372036854775807;omega
  refine⟨(A0a.good_iff _).2 ⟨⟨ha,hi,?_⟩,g2,g3,?_,?_,?_,?_,?_,λk hk'=>(hk k hk').1⟩,?_⟩
  .show inI ((n+1:Nat):Int);simp only[inI];omega
  .show(A4g _ _ _ _).length<=maxLen;rw[B0e,t1];exact hm _ l1
  .exact B5Q ha hi _ _ (B8X g5) (by rw[t1];omega)
  .show(A4g _ _ _ _).length<=maxLen;rw[B0e,t2];exact hm _ l2
  .exact B5Q ha hi _ _ (B8X g7) (by rw[t2];omega)
  .show(A2A _ _ _ _ _).length<=maxLen;rw[B0C];exact g8
  .rw[A0a.lims];refine⟨⟨?_,?_,?_,l4⟩,A3Y.2 λk hk'=>(hk k hk').2⟩
   .show(A4g _ _ _ _).length<=_;rw[B0e,t1];exact l1
   .show(A4g _ _ _ _).length<=_;rw[B0e,t2];exact l2
   .show(A2A _ _ _ _ _).length<=_;rw[B0C];exact l3
def B9I{a i:Int}(ha:inI a)(hi:inI i):∀(ks:List A0a) (n w:Nat),(∀k∈ks,k.good)->(∀k∈ks,k.lims)->n+A0A ks<=1000000->w+wcL ks<=1000000000->∀k∈A2A a i ks n w,k.good/\k.lims
 |[],n,w,_,_,_,_,k,hk=>by rw[A2A]at hk;simp at hk
 |t::ks,n,w,hg,hl,hn,hw,k,hk=>by
  rw[A0A]at hn;rw[wcL]at hw;rw[A2A]at hk;rcases Z0s.1 hk with rfl|hk
  .exact B6d ha hi t n w (hg t (by simp)) (hl t (by simp)) (by omega) (by omega)
  .exact B9I ha hi ks _ _ (λq hq=>hg q (by simp[hq])) (λq hq=>hl q (by simp[hq])) (by omega) (by omega) k hk
end
mutual
def B9v:∀t:A0a,A3u t=true->wcU t<=512*A0r t
 |.mk id k l h ws ks,hr=>by obtain⟨_,h1,h2⟩:=A8V (A7r hr);have h1:A5V h=true:=h1;have h2:A5V ws=true:=h2;have:=(A7B h1).1;have:=(A7B h2).1;have hk:=C2w ks (λq hq=>B5P hr q hq);rw[wcU,A0r];omega
def C2w:∀ks:List A0a,(∀k∈ks,A3u k=true)->wcL ks<=512*A0A ks
 |[],_=>by rw[wcL];omega
 |k::ks,h=>by have:=B9v k (h k (by simp));have:=C2w ks λq hq=>h q (by simp[hq]);rw[wcL,A0A];omega
end
def C1o{t:A0a}(h:B0Y t=0):A3u t=true/\A0r t<=1024:=by
 unfold B0Y at h;split at h;case isFalse=>simp at h
 rename_i h1;simp only[B1v,Z0f,Z0k]at h1;exact⟨h1.1.1,h1.2⟩
def A8T(a:Int):∀(ts:List A5R) (j:Nat) (x:A0a),x∈A1T a ts j->∃t∈ts,∃j',j<=j'/\j'<j+ts.length/\x=A2p a (j':Nat) t.1 0 0
 |[],j,x,h=>by simp[A1T]at h
 |t::ts,j,x,h=>by
  rw[A1T]at h;rcases Z0s.1 h with rfl|h
  .exact⟨t,by simp,j,Z0n _,by simp,rfl⟩
  .obtain⟨t',h1,j',h2,h3,h4⟩:=A8T a ts (j+1) x h;exact⟨t',by simp[h1],j',by omega,by simp;omega,h4⟩
def B8q(a:Int):∀(ts:List A5R) (j:Nat),∀x∈A3J (A1T a ts j),x.item<((j+ts.length:Nat):Int)
 |[],j,x,h=>by rw[A1T,A3J]at h;simp at h
 |t::ts,j,x,h=>by
  rw[A1T,A3J,A9I]at h;rcases Z0S.1 h with h|h
  .rw[(B4z h).2];simp;omega
  .have:=B8q a ts (j+1) x h;simp at this|-;omega
end Go.Abs
