/- The texts CeW, CeX, CeY, CeZ, CfC, CfD, CfE, CfF, CfG, CfH, CbX4. -/
import Derived.Test.YtmpdkagfplajjaaGreatDoorFG36
import Derived.Test.YtmpdkagfplajjaaGreatDoorFG35
set_option linter.all false
set_option maxRecDepth 100000
namespace Go.Abs
open Go.Proofs TryTypes Tryz
@[simp] def E7u{a:ByteArray}{x y z:Int}:A1s prog .neq 152 (.agg [S a,I x,I y,I z]) (.agg [S a,I x,I y,I z])=some (B false):=by
 have h1:prog.eqGuardType prog.depth 152=false:=by kernel_rfl
 have h2:prog.stoodInHeld 152=false:=by kernel_rfl
 have h3:prog.stoodInHeld 150=false:=by kernel_rfl
 simp[A1s,A2F,A4t,A3H,A3E,h1,A7P,h2,h3,A2E]
@[simp] def E8m{k d:Int}:A1s prog .eql 46 (.agg [I k,I d,eS]) (.agg [I k,I d,eS])=some (B true):=by
 have h1:prog.eqGuardType prog.depth 46=false:=by kernel_rfl
 have h2:prog.stoodInHeld 46=false:=by kernel_rfl
 simp[A1s,A2F,A4t,A3H,A3E,h1,A7P,h2,A2E]
section
variable (gl:Nat->AV)
def C1g(l:List A0H)(o1 o2:Own)(M:Mem)(hl:l.length<=100000000):A0d (WC gl) 84 [.list 4 (A0g l) o1,.list 4 (A0g l) o2] M (λv M'=>v=B true/\M'=M):=by
 refine A0j hB func84 ?_;simp -dsimp -implicitDefEqProofs;refine A0v hB l.length 13 (λT M1=>∃i:Nat,M1=M/\i<=l.length/\T 0=.list 4 (A0g l) o1/\T 1=.list 4 (A0g l) o2/\T 12=I l.length/\T 13=I i) ?_ ?_
 .exact⟨0,rfl,by omega,by simp,by simp,by simp,by simp⟩
 rintro T M1 ⟨i,rfl,i1,t0,t1,b,c⟩;by_cases hi:i<l.length
 .have a:(i:Int)<l.length:=by omega
  have w1:IntKind.i64.wrap ((i:Int)+1)=(i+1:Nat):=by rw[A0T (by omega) (by omega)];omega
  simp -dsimp -implicitDefEqProofs[b,c,a];refine A1i hB (A0G gl) (λ_=>0) (λ_=>0) (by rfl) (by kernel_rfl) ?_;simp -dsimp -implicitDefEqProofs[t0,t1,b,c,hi,a,A0H.row,w1];exact⟨⟨i+1,by clear w1;omega,rfl⟩,by clear w1;omega⟩
 .have a:¬(i:Int)<l.length:=by omega
  simp -dsimp -implicitDefEqProofs[b,c,a]
def D5z(l:List A0a)(o1 o2:Own)(M:Mem)(hl:l.length<=1000000)(h:∀u∈l,∀M,A0d (WC gl) 28 [.agg u.row,.agg u.row] M (λv M'=>v=B true/\M'=M)):
 A0d (WC gl) 85 [.list 8 (A0r l) o1,.list 8 (A0r l) o2,fnV 28] M (λv M'=>v=B true/\M'=M):=by
 refine A4j (λ_=>trivial) ?_
 refine A0j hB func85 ?_
 simp -dsimp -implicitDefEqProofs
 refine A0v hB l.length 17 (λT M1=>∃i:Nat,Grow M M1/\i<=l.length/\T 1=.list 8 (A0r l) o2/\T 2=fnV 28/\T 15=.list 8 (A0r l) o1/\T 16=I l.length/\T 17=I i) ?_ ?_
 .exact⟨0,Grow.refl _,by omega,by simp,by simp,by simp,by simp,by simp⟩
 rintro T M1 ⟨i,hg,i1,t1,t2,e,c,d⟩
 by_cases hi:i<l.length
 case neg=>
  have g:¬(i:Int)<l.length:=by omega
  simp -dsimp -implicitDefEqProofs[c,d,g];exact hg
 have g:(i:Int)<l.length:=by omega
 have w1:=A1y (i:=i) (by omega)
 obtain⟨x,hx⟩:∃x,x=l[i]:=⟨_,rfl⟩
 have k:l[i]=x:=hx.symm
 have j:=A8l l i hi
 rw[k]at j
 obtain⟨M2,b⟩:∃M2,M2=M1++[A0l.cells 27 x.row]:=⟨_,rfl⟩
 have ha:M2[M1.length]?=some (A0l.cells 27 [I x.id.act,I x.id.item,I x.id.n,I x.kind,S x.label,.list 4 (A0g x.head) .no,.list 4 (A0g x.words) .no,.list 8 (A0r x.kids) .no]):=by rw[b,x.row_eq];simp
 have p:Grow M1 M2:=by rw[b];exact A0c.app none _ _
 obtain⟨M3,f⟩:∃M3,M3=M2++[A0l.cells 27 x.row]:=⟨_,rfl⟩
 have hb:M3[M2.length]?=some (A0l.cells 27 [I x.id.act,I x.id.item,I x.id.n,I x.kind,S x.label,.list 4 (A0g x.head) .no,.list 4 (A0g x.words) .no,.list 8 (A0r x.kids) .no]):=by rw[f,x.row_eq];simp
 have m:Grow M2 M3:=by rw[f];exact A0c.app none _ _
 have o:=m.get ha (by simp)
 have a:=h x (by rw[hx];exact Z0u hi) M3
 rw[x.row_eq]at a
 simp -dsimp -implicitDefEqProofs[t1,t2,e,c,d,hi,g,k,A0m,A0n,A0e]
 rw[show M1++[A0l.cells 27 x.row,A0l.cells 27 x.row]=M3 by rw[f,b];simp]
 simp -dsimp -implicitDefEqProofs[A0b o,show M1.length+1=M2.length by rw[b];simp,A0b hb]
 refine A0f func28 a ?_
 simp -dsimp -implicitDefEqProofs[t1,t2,e,c,d,w1]
 exact⟨⟨hg.trans (p.trans m),i+1,by clear w1;omega,rfl⟩,by clear w1;omega⟩
def B9m:∀(u:A0a) (M:Mem),u.lims->A0d (WC gl) 28 [.agg u.row,.agg u.row] M (λv M'=>v=B true/\M'=M)
 |.mk id kind lab hd ws ks,M,hlm=>by
  obtain⟨⟨b,a,e,-⟩,c⟩:=A3f _ hlm;have b:hd.length<=100000000:=b;have a:ws.length<=100000000:=a;have e:ks.length<=1000:=e;have c:=A2Z.1 c;have d:(A0a.mk id kind lab hd ws ks).row=[I id.act,I id.item,I id.n,I kind,S lab,.list 4 (A0g hd) .no,.list 4 (A0g ws) .no,.list 8 (A0r ks) .no]:=by rw[A0a.row]
  have he:=B5z id id;rw[Z0s rfl]at he;have hk:=D5z gl ks .no .no M (by omega) (λk hk M=>by have:=A0a.kid_lt (u:=.mk id kind lab hd ws ks) hk;exact B9m k M (c k hk));rw[d];refine A0j hB func28 ?_;simp -dsimp -implicitDefEqProofs[he];refine A0f func84 (C1g gl hd .no .no M b) ?_;simp -dsimp -implicitDefEqProofs;refine A0f func84 (C1g gl ws .no .no M a) ?_;simp -dsimp -implicitDefEqProofs;refine A0f func85 hk ?_;simp -dsimp -implicitDefEqProofs
termination_by u=>SizeOf.sizeOf u
def C5P(M:Mem):A0d (WC gl) 84 [A0i,A0i] M (λv M'=>v=B true/\M'=M):=by
 refine A0j hB func84 ?_;simp -dsimp -implicitDefEqProofs;refine A0v hB 0 13 (λT M1=>M1=M/\T 12=I 0/\T 13=I 0) ?_ ?_
 .exact⟨rfl,by simp,by simp⟩
 rintro T M1 ⟨rfl,a,b⟩;simp -dsimp -implicitDefEqProofs[a,b]
def B4u(M:Mem):A0d (WC gl) 326 [A0i,A0i] M (λv M'=>v=B true/\M'=M):=by
 refine A0j hB func326 ?_;simp -dsimp -implicitDefEqProofs;refine A0v hB 0 13 (λT M1=>M1=M/\T 12=I 0/\T 13=I 0) ?_ ?_
 .exact⟨rfl,by simp,by simp⟩
 rintro T M1 ⟨rfl,a,b⟩;simp -dsimp -implicitDefEqProofs[a,b]
def B5r(M:Mem):A0d (WC gl) 178 [A0i,A0i] M (λv M'=>v=B true/\M'=M):=by
 refine A0j hB func178 ?_;simp -dsimp -implicitDefEqProofs;refine A0v hB 0 13 (λT M1=>M1=M/\T 12=I 0/\T 13=I 0) ?_ ?_
 .exact⟨rfl,by simp,by simp⟩
 rintro T M1 ⟨rfl,a,b⟩;simp -dsimp -implicitDefEqProofs[a,b]
def D7Z(M:Mem):A0d (WC gl) 85 [A0i,A0i,fnV 28] M (λv M'=>v=B true/\M'=M):=by
 refine A0j hB func85 ?_;simp -dsimp -implicitDefEqProofs;refine A0v hB 0 17 (λT M1=>M1=M/\T 16=I 0/\T 17=I 0) ?_ ?_
 .exact⟨rfl,by simp,by simp⟩
 rintro T M1 ⟨rfl,a,b⟩;simp -dsimp -implicitDefEqProofs[a,b]
def C1t(M:Mem):A0d (WC gl) 327 [A0i,A0i,fnV 243] M (λv M'=>v=B true/\M'=M):=by
 refine A0j hB func327 ?_;simp -dsimp -implicitDefEqProofs;refine A0v hB 0 17 (λT M1=>M1=M/\T 16=I 0/\T 17=I 0) ?_ ?_
 .exact⟨rfl,by simp,by simp⟩
 rintro T M1 ⟨rfl,a,b⟩;simp -dsimp -implicitDefEqProofs[a,b]
def D6U(M:Mem):A0d (WC gl) 28 [.agg [I 0,I 0,I 0,I 0,eS,A0i,A0i,A0i],.agg [I 0,I 0,I 0,I 0,eS,A0i,A0i,A0i]] M (λv M'=>v=B true/\M'=M):=by have he:=B5z idZ idZ;rw[Z0s rfl]at he;simp only[idZ]at he;refine A0j hB func28 ?_;simp -dsimp -implicitDefEqProofs[he];refine A0f func84 (C5P gl M) ?_;simp -dsimp -implicitDefEqProofs;refine A0f func84 (C5P gl M) ?_;simp -dsimp -implicitDefEqProofs;refine A0f func85 (D7Z gl M) ?_;simp -dsimp -implicitDefEqProofs
def C2r(x:A0W)(M:Mem)(hp:∀p,x=.rep p->p.length<=1000000)(hu:∀u,x=.ins u->u.lims):A0d (WC gl) 243 [.agg x.row,.agg x.row] M (λv M'=>v=B true/\M'=M):=by
 cases x with
 |rep p=>have h1:=C1N gl p p .no .no M (hp p rfl);rw[Z0s rfl]at h1;have h2:=D6U gl M;refine A0j hB func243 ?_;simp -dsimp -implicitDefEqProofs[A0W.row];refine A0f func178 h1 ?_;simp -dsimp -implicitDefEqProofs;refine A0f func178 (B5r gl M) ?_;simp -dsimp -implicitDefEqProofs;refine A0f func326 (B4u gl M) ?_;simp -dsimp -implicitDefEqProofs;refine A0f func326 (B4u gl M) ?_;simp -dsimp -implicitDefEqProofs;refine A0f func28 h2 ?_;simp -dsimp -implicitDefEqProofs;refine A0f func327 (C1t gl M) ?_;simp -dsimp -implicitDefEqProofs
 |ins u=>have h2:=B9m gl u M (hu u rfl);rw[u.row_eq]at h2;refine A0j hB func243 ?_;simp -dsimp -implicitDefEqProofs[A0W.row];refine A0f func178 (B5r gl M) ?_;simp -dsimp -implicitDefEqProofs;refine A0f func178 (B5r gl M) ?_;simp -dsimp -implicitDefEqProofs;refine A0f func326 (B4u gl M) ?_;simp -dsimp -implicitDefEqProofs;refine A0f func326 (B4u gl M) ?_;simp -dsimp -implicitDefEqProofs;refine A0f func28 h2 ?_;simp -dsimp -implicitDefEqProofs;refine A0f func327 (C1t gl M) ?_;simp -dsimp -implicitDefEqProofs
end
def D0N{P:Program}{t kt et:TypeId}{k v:AV}{es:List (AV×AV×Nat)}{c:Nat}{M:Mem}(h1:A7G P t=some (kt,et))(h2:(A6b P kt||B4x P kt)=true)(h3:A5h P 30 kt k=true)(h4:A2R P kt k es=some none):A1u P t (M++[.map es c]) (.mapr M.length) k v=some (M++[.map (es++[(k,v,c)]) (c+1)]):=by
 have h:(M++[A0l.map es c])[M.length]?=some (.map es c):=by simp
 simp only[A1u,h1,h,h2,h3,Z3e,Z0H,h4]
 simp
def C4S{P:Program}{t kt et:TypeId}{k v:AV}{es:List (AV×AV×Nat)}{c b i:Nat}{M:Mem}(h0:M[b]?=some (.map es c))(h1:A7G P t=some (kt,et))(h2:(A6b P kt||B4x P kt)=true)(h3:A5h P 30 kt k=true)(h4:A2R P kt k es=some (some (i,v))):A1J P t M (.mapr b) k true=some (.tuple [v,.val (.bool true)]):=by simp only[A1J,h1,A4D,h0,h2,h3,Z3e,Z0H,h4]
def B3B{k:Int}{v:AV}{es:List (AV×AV×Nat)}{c:Nat}{M:Mem}(h4:A2R prog 3 (I k) es=some none):A1u prog 227 (M++[.map es c]) (.mapr M.length) (I k) v=some (M++[.map (es++[(I k,v,c)]) (c+1)]):=D0N (kt:=3) (et:=225) (by kernel_rfl) (by kernel_rfl) rfl h4
def A7F{k:Int}{v:AV}{es:List (AV×AV×Nat)}{c:Nat}{M:Mem}(h4:A2R prog 3 (I k) es=some none):A1u prog 262 (M++[.map es c]) (.mapr M.length) (I k) v=some (M++[.map (es++[(I k,v,c)]) (c+1)]):=D0N (kt:=3) (et:=260) (by kernel_rfl) (by kernel_rfl) rfl h4
def doE:List (AV×AV×Nat):=[(I 0,fnV 232,0),(I 1,fnV 233,1),(I 2,fnV 234,2),(I 3,fnV 235,3),(I 4,fnV 236,4),(I 5,fnV 237,5),(I 6,fnV 238,6)]
def rlV(a b:FuncId):AV:=.agg [fnV a,fnV b]
def ruE:List (AV×AV×Nat):=[(I 0,rlV 300 301,0),(I 1,rlV 304 305,1),(I 2,rlV 306 307,2),(I 3,rlV 310 311,3),(I 4,rlV 312 313,4),(I 5,rlV 314 315,5),(I 6,rlV 316 317,6),(I 7,rlV 444 445,7),(I 8,rlV 444 445,8),(I 9,rlV 444 445,9),(I 10,rlV 318 319,10),(I 11,rlV 321 322,11)]
def A4L{a b:FuncId}:A0D prog 260 [(0,fnV a),(1,fnV b)]=some (rlV a b):=by simp[A0D,A1l,A1H,AV.cells,AV.storable,rlV]
section
variable (gl:Nat->AV)
def B6G(M:Mem):A0d (WC gl) 189 [] M (λv M'=>v=.mapr M.length/\M'=M++[.map doE 7]):=by refine A0j hB func189 ?_;simp -dsimp -implicitDefEqProofs;rw[B3B (by kernel_rfl)];simp -dsimp -implicitDefEqProofs;rw[B3B (by kernel_rfl)];simp -dsimp -implicitDefEqProofs;rw[B3B (by kernel_rfl)];simp -dsimp -implicitDefEqProofs;rw[B3B (by kernel_rfl)];simp -dsimp -implicitDefEqProofs;rw[B3B (by kernel_rfl)];simp -dsimp -implicitDefEqProofs;rw[B3B (by kernel_rfl)];simp -dsimp -implicitDefEqProofs;rw[B3B (by kernel_rfl)];simp -dsimp -implicitDefEqProofs;rfl
def B6g(a:gl 3=.cptr [fnV 444,fnV 445])(M:Mem):A0d (WC gl) 239 [] M (λv M'=>v=.mapr M.length/\M'=M++[.map ruE 12]):=by
 have c:(WC gl).gl 3=.cptr [fnV 444,fnV 445]:=a;have b:A1g prog 260 [fnV 444,fnV 445]=some (rlV 444 445):=by kernel_rfl
 refine A0j hB func239 ?_;simp -dsimp -implicitDefEqProofs[A4L];rw[A7F (by kernel_rfl)];simp -dsimp -implicitDefEqProofs[A4L];rw[A7F (by kernel_rfl)];simp -dsimp -implicitDefEqProofs[A4L];rw[A7F (by kernel_rfl)];simp -dsimp -implicitDefEqProofs[A4L];rw[A7F (by kernel_rfl)];simp -dsimp -implicitDefEqProofs[A4L];rw[A7F (by kernel_rfl)];simp -dsimp -implicitDefEqProofs[A4L];rw[A7F (by kernel_rfl)];simp -dsimp -implicitDefEqProofs[A4L];rw[A7F (by kernel_rfl)];simp -dsimp -implicitDefEqProofs[a];rw[A7F (by kernel_rfl)];simp -dsimp -implicitDefEqProofs[a];rw[A7F (by kernel_rfl)];simp -dsimp -implicitDefEqProofs[a];rw[A7F (by kernel_rfl)];simp -dsimp -implicitDefEqProofs[A4L];rw[A7F (by kernel_rfl)];simp -dsimp -implicitDefEqProofs[A4L];rw[A7F (by kernel_rfl)];simp -dsimp -implicitDefEqProofs[];rfl
end
def C6w:∀(l:List (Nat×A0l)) (M:Mem),(fill M l).length=M.length
 |[],M=>rfl
 |p::l,M=>by show(fill (M.set p.1 p.2) l).length=_;rw[C6w l];simp
def C6p:∀(l:List (Nat×A0l)) (M X:Mem),(∀p∈l,p.1<M.length)->fill (M++X) l=fill M l++X
 |[],M,X,_=>rfl
 |p::l,M,X,h=>by show fill ((M++X).set p.1 p.2) l=fill (M.set p.1 p.2) l++X;have hp:=h p (by simp);rw[Z3F _ _ hp,C6p l _ _ λq hq=>by have:=h q (by simp[hq]);simpa using this]
def C1V{C:Ctx}{g:FuncId}{args:List AV}{M X:Mem}{r:Nat->AV}(h:∀M,A4d C g args M (λv M'=>v=r M.length/\M'=M++X)):C8O C g args M (r M.length) (M++X):=by refine⟨λs hs=>by rw[Z0h (Z0b.1 hs).1];exact hs,λl hb=>?_⟩;have:=h (fill M l);rw[C6w]at this;rw[C6p l M X λp hp=>(Z0b.1 (hb.1 p hp)).1];exact this
def C9u{f:Mem->Option (AV×Mem)}(ha:∀M v M1,f M=some (v,M1)->∃ws,A7W f M v M1 ws){M M1:Mem}{v:AV}(h:f M=some (v,M1)):D9j f M v M1:=by
 obtain⟨ws,h1⟩:=ha _ _ _ h;refine⟨h1.keep,λl=>?_⟩;clear h1;induction l generalizing M M1 with
 |nil=>intro _;exact h
 |cons p l ih=>intro hb;obtain⟨b1,b2⟩:=A9b hb;obtain⟨ws,h2⟩:=ha _ _ _ h;exact ih (h2.fill p.1 p.2 b1) b2
def B7M{ops:Array Oper}{cls:Nat->Nat}{aff:Nat->Nat->Bool}{fl:Bool}{r s:Nat}(h:r≠s):A4H ops ⟨cls,λ_=>r,λ_=>s,aff,fl⟩=A4H ops ⟨cls,λ_=>1,λ_=>0,aff,fl⟩:=by
 have e:(r==s)=false:=by simpa using h
 have e2:(s !=s)=false:=by simp
 simp only[A4H,A1N,e,e2];rfl
section
variable {C:Ctx} {h:A2x} {ops:Array Oper} {L:B1c} {k:Nat} {d:Option Tmp} {op:Op} {t:TypeId} {p:String} {af:Array Edge} {rest:List Oper} {T:Env} {M:Mem} {K:Env->Mem->Prop} {v:AV}
def B5c{fl:Bool}{c r s:Nat}{o:Oper}{ρ:Operand->AV}{K:AV->Mem->Prop}(h1:B5T o.op=false)(h3:∀e,o.op≠.alloc e) (hp:if c=0 then A0L ((A0q C h o ρ).or (A0E C o ρ)) (λv=>K v M)else if c=1 then A0M o ρ=some r/\A0L (A2s C o ρ M) (λv=>K v M)else if c=5 then A5U o ρ=some s/\A0L (A0A C h o ρ M) (λr=>K r.1 r.2)else c=2/\A5B fl (A0A C h o ρ) M K):dOp C h fl c r s o ρ M K:=by
 unfold dOp
 split
 .rename_i heq;rw[heq]at h1;simp[B5T]at h1
 .rename_i heq;rw[heq]at h1;simp[B5T]at h1
 .rename_i heq;exact absurd heq (h3 _)
 .exact hp
def A6g(b:B5T op=false)(a:∀e,op≠.alloc e)(hc:L.cls k=0)(he:pOp C h ⟨d,op,t,p,af,none⟩ (T.ev C)=some v)(hk:A1E C h ops L (k+1) rest (T.put d v) M K):A1E C h ops L k (⟨d,op,t,p,af,none⟩::rest) T M K:=by simp only[A1E,A6E];refine B5c b a ?_;rw[Z0d hc,A8u he];exact⟨λi _ _=>rfl,hk⟩
def D0E{mt:TypeId}{m x:Operand}{ok:Bool}(hc:L.cls k=1)(ho:A0M ⟨d,.lookup mt m x ok,t,p,af,none⟩ (T.ev C)=some (L.rob k))(he:A1J C.P mt M (T.ev C m) (T.ev C x) ok=some v)(hk:A1E C h ops L (k+1) rest (T.put d v) M K):A1E C h ops L k (⟨d,.lookup mt m x ok,t,p,af,none⟩::rest) T M K:=by simp only[A1E,A6E];refine B5c rfl (by simp) ?_;rw[Z0e (by omega),Z0d hc];refine⟨ho,?_⟩;simp only[A2s,he];exact⟨λi _ _=>rfl,hk⟩
def C6m{e:TypeId}{X:A0l}{s:Nat}(hc:L.cls k=4)(a:L.fl=true)(hs:L.slot k=s)(hb:M[s]?=some A1m)(hX:A8M C.P e=some X)(hq:∀i,L.rob i≠s)(hk:A1E C h ops L (k+1) rest (T.put d (.vptr s 1 0)) (M.set s X) K):A1E C h ops L k (⟨d,.alloc e,t,p,af,none⟩::rest) T M K:=by simp only[A1E,A6E];simp only[dOp];rw[Z0d hc,hs,hX];exact⟨a,hb,λi _ _=>Z0f (λe=>hq i e.symm),hk⟩
def C5z{st:TypeId}{a x:Operand}{s:Nat}{X:A0l}(hc:L.cls k=2)(he:A0A C h ⟨d,.store st a x,t,p,af,none⟩ (T.ev C) M=some (v,M.set s X))(hq:∀i,L.rob i≠s)(hk:A1E C h ops L (k+1) rest (T.put d v) (M.set s X) K):A1E C h ops L k (⟨d,.store st a x,t,p,af,none⟩::rest) T M K:=by simp only[A1E,A6E];refine B5c rfl (by simp) ?_;rw[Z0e (by omega),Z0e (by omega),Z0e (by omega)];refine⟨hc,?_⟩;unfold A5B;rw[he];exact⟨λ_=>C9u (λM v M1 h1=>⟨_,A9e h1⟩) he,λi _ _=>Z0f (λe=>hq i e.symm),hk⟩
def D0Z{f:Operand}{args:List Operand}{ts:Array TypeId}{g:FuncId}{first cap:List AV}{M1:Mem}(hc:L.cls k=2)(hf:T.ev C f=.func (.func g) first cap)(hi:A4d C g (first++args.map (T.ev C)++cap) M (λr m=>r=v/\m=M1))(a:C8O C g (first++args.map (T.ev C)++cap) M v M1)
 (hq:∀i,L.cls i=1->L.aff i k=false->M1[L.rob i]?=M[L.rob i]?)(hk:A1E C h ops L (k+1) rest (T.put d v) M1 K):A1E C h ops L k (⟨d,.call {callee:=.value f,args:=args.toArray,argTypes:=ts},t,p,af,none⟩::rest) T M K:=by
 simp only[A1E,A6E]
 simp only[dOp,hf]
 rw[Z0e (by omega)]
 exact⟨v,M1,hc,hi,λ_=>a,hq,hk⟩
end
def D0M:A8M prog 260=some (.vec 260 2 [.val .nilFunc,.val .nilFunc] 1 [(1,1)]):=by kernel_rfl
def D0D{M:Mem}{b:Nat}{k:Int}{i:Nat}{v:AV}(h0:M[b]?=some (.map ruE 12))(h4:A2R prog 3 (I k) ruE=some (some (i,v))):A1J prog 262 M (.mapr b) (I k) true=some (.tuple [v,B true]):=C4S h0 (kt:=3) (et:=260) (by kernel_rfl) (by kernel_rfl) rfl h4
section
variable (gl:Nat->AV)
def C4p(aa:gl 3=.cptr [fnV 444,fnV 445])(p:List A0I)(M:Mem)(hl:p.length<=9)(hp:∀i (h:i<p.length),B3r i p[i]):A0d (WC gl) 190 [.agg (A0W.rep p).row] M (λv M'=>v=B true/\M'=M):=by
 refine A4j (λ_=>trivial) ?_;obtain⟨s,hs⟩:∃s,s=M.length:=⟨_,rfl⟩;obtain⟨M1,d⟩:∃M1,M1=M++List.replicate 1 A1m:=⟨_,rfl⟩;have a7:M1[s]?=some A1m:=by rw[d,hs];simp
 have o:M1.length=s+1:=by rw[d,hs];simp
 obtain⟨M2,a⟩:∃M2,M2=M1++[A0l.map ruE 12]:=⟨_,rfl⟩;have ab:M2[s+1]?=some (.map ruE 12):=by rw[a,<-o];simp
 have a3:M2[s]?=some A1m:=by rw[a,Z0h (by omega)];exact a7
 have a2:∀M,A4d (WC gl) 239 [] M (λv M'=>v=.mapr M.length/\M'=M++[.map ruE 12]):=λM=>A1Y func239 rfl rfl (B6g gl aa M);have t:=a2 M1;have a6:=C1V (r:=λn=>.mapr n) (λM=>a2 M) (M:=M1);rw[<-a,o]at t a6;refine A0j hB func190 ?_;simp -dsimp -implicitDefEqProofs[A0W.row];refine B2a 1 ?_;rw[<-d];refine A8d (h:=hB) (A0G gl) ⟨λk=>if k=0\/k=8 then 2 else if k=3 then 1 else if k=7 then 4 else 0,λ_=>s+1,λ_=>s,λ_ j=>j==0,true⟩ (by rfl) (by rw[B7M (by omega)];kernel_rfl) ?_ ?_
 .intro k _ _;exact a7
 refine D0Z (args:=[]) rfl rfl t a6 (by simp) ?_;refine A6g rfl (by simp) rfl (by simp[pOp]<;>rfl) ?_;refine A6g rfl (by simp) rfl (by simp[pOp]<;>rfl) ?_;refine D0E rfl (by simp[A0M]<;>rfl) (D0D (i:=1) (v:=rlV 304 305) ab (by kernel_rfl)) ?_;refine A6g rfl (by simp) rfl (by simp[pOp]<;>rfl) ?_;refine A6g rfl (by simp) rfl (by simp[pOp]<;>rfl) ?_;refine A6g rfl (by simp) rfl (by simp[pOp]<;>rfl) ?_;refine C6m rfl rfl rfl a3 D0M (by simp) ?_;have a0:s<M2.length:=(Z0b.1 a3).1;have ac:(M2.set s (.vec 260 2 [.val .nilFunc,.val .nilFunc] 1 [(1,1)]))[s]?=some (.vec 260 2 [.val .nilFunc,.val .nilFunc] 1 [(1,1)]):=by simp[a0]
 refine C5z (s:=s) (X:=.vec 260 2 [fnV 304,fnV 305] 1 [(1,1)]) (v:=.val undef) rfl ?_ (by simp) ?_
 .rw[B0E];simp[A0U,ac,rlV,A1A,A0e,AV.cells,AV.storable]
 rw[Z2h];refine A6g rfl (by simp) rfl (by simp[pOp]<;>rfl) ?_;obtain⟨M3,c⟩:∃M3,M3=M2.set s (.vec 260 2 [fnV 304,fnV 305] 1 [(1,1)]):=⟨_,rfl⟩;have h3:M3[s]?=some (.vec 260 2 [fnV 304,fnV 305] 1 [(1,1)]):=by rw[c];simp[a0]
 have f:Grow M M3:=by refine⟨by rw[c,Z1o,a,Z0v,o];omega,λi hi _=>?_⟩;rw[c,Z0f (by omega),a,Z0h (by omega),d,Z0h hi]
 have a5:∀M,M[s]?=some (.vec 260 2 [fnV 304,fnV 305] 1 [(1,1)])->A1D prog 192 M (.vptr s 1 0)=some (fnV 304):=λM h=>by simp[A1D,A3b,h]
 have a1:∀M,M[s]?=some (.vec 260 2 [fnV 304,fnV 305] 1 [(1,1)])->A1D prog 148 M (.vptr s 1 1)=some (fnV 305):=λM h=>by simp[A1D,A3b,h]
 show A1E _ _ _ _ _ [] _ _ _;simp only[A1E];rw[<-c];have hh:=D2I gl M3 (.rep p);simp only[A0W.row,A6D]at hh;simp -dsimp -implicitDefEqProofs[a5 M3 h3];refine A0f func304 hh ?_;obtain⟨q,hq⟩:∃q,q=M3.length:=⟨_,rfl⟩;obtain⟨M5,m⟩:∃M5,M5=M3++[A0l.cells 128 [I 1,A0i,A0i,I 0,I 0,I 0,I 0,I 0,I 0,eS,A0i,A0i,A0i,A0i,A0i,eS,eS,I 0,I 0,eS,I 0,I 0,I 0,eS,A0i]]:=⟨_,rfl⟩;have a4:M5[q]?=some (A0l.cells 128 [I 1,A0i,A0i,I 0,I 0,I 0,I 0,I 0,I 0,eS,A0i,A0i,A0i,A0i,A0i,eS,eS,I 0,I 0,eS,I 0,I 0,I 0,eS,A0i]):=by rw[m,hq];simp
 have w:q<M5.length:=(Z0b.1 a4).1;have z:Grow M3 M5:=by rw[m];exact A0c.app none _ _
 have a9:M.length<=q:=by have:=f.1;omega
 have af:s<q:=by have:=(Z0b.1 h3).1;omega
 simp -dsimp -implicitDefEqProofs[A0m,A0n,A0e];rw[<-m,<-hq];refine A0f func132 (B1k gl M5 1) ?_;simp -dsimp -implicitDefEqProofs;have g:∀X,(M5.set q X)[q]?=some X:=λX=>by simp[w]
 refine A1i hB (A0G gl) (λk=>if k=7\/k=9\/k=11 then 2 else 0) (λ_=>0) (by rfl) (by kernel_rfl) ?_;simp -dsimp -implicitDefEqProofs[A0h a4,A0h (g (A0l.cells 128 [I 1,A6X p,A0i,I 0,I 0,I 0,I 0,I 0,I 0,eS,A0i,A0i,A0i,A0i,A0i,eS,eS,I 0,I 0,eS,I 0,I 0,I 0,eS,A0i]))];obtain⟨M6,b⟩:∃M6,M6=M5.set q (A0l.cells 128 [I 1,A6X p,A0i,I 0,I 0,I 0,I 0,I 0,I 0,eS,A0i,A0i,A0i,A0i,A0i,eS,eS,I 0,I 0,eS,I 0,I 0,I 0,eS,A0i]):=⟨_,rfl⟩;have ae:M6[q]?=some (A0l.cells 128 [I 1,A6X p,A0i,I 0,I 0,I 0,I 0,I 0,I 0,eS,A0i,A0i,A0i,A0i,A0i,eS,eS,I 0,I 0,eS,I 0,I 0,I 0,eS,A0i]):=by rw[b];exact g _
 have a8:M6[s]?=some (.vec 260 2 [fnV 304,fnV 305] 1 [(1,1)]):=by rw[b,Z0f (by omega)];exact z.get h3 (by simp)
 have ad:Grow M M6:=by rw[b];exact A1e (f.trans z) a9
 rw[<-b];have y:=C2r gl (.rep p) M6 (λp' e=>by cases e;omega) (λu e=>by cases e);have l:=D2f gl M6 (.rep p);simp only[A0W.row]at y l;refine A0f func240 (B6H gl p .no M6 hl hp) ?_;simp -dsimp -implicitDefEqProofs;refine A0f func242 (B3K gl M6) ?_;simp -dsimp -implicitDefEqProofs[A0b ae];refine A0f func243 y ?_;simp -dsimp -implicitDefEqProofs[a1 M6 a8];refine A0f func305 l ?_;simp -dsimp -implicitDefEqProofs;exact ad
def C2Y(a5:gl 0=A2z)(a0:gl 1=A2S)(ab:gl 3=.cptr [fnV 444,fnV 445])(u:A0a)(M:Mem)(hf:Fit u)(hb:A2P u)(hk:u.kind≠0)(hv:A7C u=0):A0d (WC gl) 190 [.agg (A0W.ins u).row] M (λv M'=>v=B true/\M'=M):=by
 refine A4j (λ_=>trivial) ?_;obtain⟨s,hs⟩:∃s,s=M.length:=⟨_,rfl⟩;obtain⟨M1,d⟩:∃M1,M1=M++List.replicate 1 A1m:=⟨_,rfl⟩;have a8:M1[s]?=some A1m:=by rw[d,hs];simp
 have o:M1.length=s+1:=by rw[d,hs];simp
 obtain⟨M2,a⟩:∃M2,M2=M1++[A0l.map ruE 12]:=⟨_,rfl⟩;have ac:M2[s+1]?=some (.map ruE 12):=by rw[a,<-o];simp
 have a3:M2[s]?=some A1m:=by rw[a,Z0h (by omega)];exact a8
 have a2:∀M,A4d (WC gl) 239 [] M (λv M'=>v=.mapr M.length/\M'=M++[.map ruE 12]):=λM=>A1Y func239 rfl rfl (B6g gl ab M);have p:=a2 M1;have a7:=C1V (r:=λn=>.mapr n) (λM=>a2 M) (M:=M1);rw[<-a,o]at p a7;refine A0j hB func190 ?_;simp -dsimp -implicitDefEqProofs[A0W.row];refine B2a 1 ?_;rw[<-d];refine A8d (h:=hB) (A0G gl) ⟨λk=>if k=0\/k=8 then 2 else if k=3 then 1 else if k=7 then 4 else 0,λ_=>s+1,λ_=>s,λ_ j=>j==0,true⟩ (by rfl) (by rw[B7M (by omega)];kernel_rfl) ?_ ?_
 .intro k _ _;exact a8
 refine D0Z (args:=[]) rfl rfl p a7 (by simp) ?_;refine A6g rfl (by simp) rfl (by simp[pOp]<;>rfl) ?_;refine A6g rfl (by simp) rfl (by simp[pOp]<;>rfl) ?_;refine D0E rfl (by simp[A0M]<;>rfl) (D0D (i:=0) (v:=rlV 300 301) ac (by kernel_rfl)) ?_;refine A6g rfl (by simp) rfl (by simp[pOp]<;>rfl) ?_;refine A6g rfl (by simp) rfl (by simp[pOp]<;>rfl) ?_;refine A6g rfl (by simp) rfl (by simp[pOp]<;>rfl) ?_;refine C6m rfl rfl rfl a3 D0M (by simp) ?_;have z:s<M2.length:=(Z0b.1 a3).1;have ad:(M2.set s (.vec 260 2 [.val .nilFunc,.val .nilFunc] 1 [(1,1)]))[s]?=some (.vec 260 2 [.val .nilFunc,.val .nilFunc] 1 [(1,1)]):=by simp[z]
 refine C5z (s:=s) (X:=.vec 260 2 [fnV 300,fnV 301] 1 [(1,1)]) (v:=.val undef) rfl ?_ (by simp) ?_
 .rw[B0E];simp[A0U,ad,rlV,A1A,A0e,AV.cells,AV.storable]
 rw[Z2h];refine A6g rfl (by simp) rfl (by simp[pOp]<;>rfl) ?_;obtain⟨M3,c⟩:∃M3,M3=M2.set s (.vec 260 2 [fnV 300,fnV 301] 1 [(1,1)]):=⟨_,rfl⟩;have h3:M3[s]?=some (.vec 260 2 [fnV 300,fnV 301] 1 [(1,1)]):=by rw[c];simp[z]
 have f:Grow M M3:=by refine⟨by rw[c,Z1o,a,Z0v,o];omega,λi hi _=>?_⟩;rw[c,Z0f (by omega),a,Z0h (by omega),d,Z0h hi]
 have a6:∀M,M[s]?=some (.vec 260 2 [fnV 300,fnV 301] 1 [(1,1)])->A1D prog 192 M (.vptr s 1 0)=some (fnV 300):=λM h=>by simp[A1D,A3b,h]
 have a1:∀M,M[s]?=some (.vec 260 2 [fnV 300,fnV 301] 1 [(1,1)])->A1D prog 148 M (.vptr s 1 1)=some (fnV 301):=λM h=>by simp[A1D,A3b,h]
 show A1E _ _ _ _ _ [] _ _ _;simp only[A1E];rw[<-c];have hh:=D1C gl M3 u;simp only[A0W.row,D1s]at hh;simp -dsimp -implicitDefEqProofs[a6 M3 h3];refine A0f func300 hh ?_;obtain⟨q,hq⟩:∃q,q=M3.length:=⟨_,rfl⟩;obtain⟨M5,m⟩:∃M5,M5=M3++[A0l.cells 128 [I 0,A0i,A0i,I 1,I 0,I u.id.act,I u.id.item,I u.id.n,I u.kind,S u.label,.list 4 (A0g u.head) .no,.list 4 (A0g u.words) .no,.list 8 (A0r u.kids) .no,A0i,A0i,eS,eS,I 0,I 0,eS,I 0,I 0,I 0,eS,A0i]]:=⟨_,rfl⟩;have a4:M5[q]?=some (A0l.cells 128 [I 0,A0i,A0i,I 1,I 0,I u.id.act,I u.id.item,I u.id.n,I u.kind,S u.label,.list 4 (A0g u.head) .no,.list 4 (A0g u.words) .no,.list 8 (A0r u.kids) .no,A0i,A0i,eS,eS,I 0,I 0,eS,I 0,I 0,I 0,eS,A0i]):=by rw[m,hq];simp
 have t:q<M5.length:=(Z0b.1 a4).1;have y:Grow M3 M5:=by rw[m];exact A0c.app none _ _
 have aa:M.length<=q:=by have:=f.1;omega
 have ag:s<q:=by have:=(Z0b.1 h3).1;omega
 simp -dsimp -implicitDefEqProofs[A0m,A0n,A0e];rw[<-m,<-hq];refine A0f func132 (B1k gl M5 0) ?_;simp -dsimp -implicitDefEqProofs;have g:∀X,(M5.set q X)[q]?=some X:=λX=>by simp[t]
 refine A1i hB (A0G gl) (λk=>if k=7\/k=9\/k=11 then 2 else 0) (λ_=>0) (by rfl) (by kernel_rfl) ?_;simp -dsimp -implicitDefEqProofs[A0h a4,A0h (g (A0l.cells 128 [I 0,A0i,A0i,I 1,I 0,I u.id.act,I u.id.item,I u.id.n,I u.kind,S u.label,.list 4 (A0g u.head) .no,.list 4 (A0g u.words) .no,.list 8 (A0r u.kids) .no,A0i,A0i,eS,eS,I 0,I 0,eS,I 0,I 0,I 0,eS,A0i]))];obtain⟨M6,b⟩:∃M6,M6=M5.set q (A0l.cells 128 [I 0,A0i,A0i,I 1,I 0,I u.id.act,I u.id.item,I u.id.n,I u.kind,S u.label,.list 4 (A0g u.head) .no,.list 4 (A0g u.words) .no,.list 8 (A0r u.kids) .no,A0i,A0i,eS,eS,I 0,I 0,eS,I 0,I 0,I 0,eS,A0i]):=⟨_,rfl⟩;have af:M6[q]?=some (A0l.cells 128 [I 0,A0i,A0i,I 1,I 0,I u.id.act,I u.id.item,I u.id.n,I u.kind,S u.label,.list 4 (A0g u.head) .no,.list 4 (A0g u.words) .no,.list 8 (A0r u.kids) .no,A0i,A0i,eS,eS,I 0,I 0,eS,I 0,I 0,I 0,eS,A0i]):=by rw[b];exact g _
 have a9:M6[s]?=some (.vec 260 2 [fnV 300,fnV 301] 1 [(1,1)]):=by rw[b,Z0f (by omega)];exact y.get h3 (by simp)
 have ae:Grow M M6:=by rw[b];exact A1e (f.trans y) aa
 rw[<-b];have w:=C2r gl (.ins u) M6 (λp' e=>by cases e) (λu e=>by cases e;exact hf.2.1);have l:=D2S gl a5 a0 u M6 hf hb hk hv (C1q gl a5 a0 u M6 hf hb);simp only[A0W.row]at w l;refine A0f func240 (C1z gl M6) ?_;simp -dsimp -implicitDefEqProofs;refine A0f func242 (B3K gl M6) ?_;simp -dsimp -implicitDefEqProofs[A0b af];refine A0f func243 w ?_;simp -dsimp -implicitDefEqProofs[a1 M6 a9];refine A0f func301 l ?_;simp -dsimp -implicitDefEqProofs;exact ae
end
def D3O(a b:IdD):A1s prog .neq 23 (.agg [I a.act,I a.item,I a.n]) (.agg [I b.act,I b.item,I b.n])=some (B (!decide (a=b))):=by
 have h0:A2F prog .neq 23 (.agg [I a.act,I a.item,I a.n]) (.agg [I b.act,I b.item,I b.n])=none:=by simp[A2F,A3H]
 have:=(A8Z 248 4 (by kernel_rfl)).eq a b;simp only[A2M,IdD.row]at this;simp only[A1s,h0,A4t,B5K,this];rfl
def D0S{M:Mem}{b:Nat}{k:Int}{i:Nat}{v:AV}(h0:M[b]?=some (.map doE 7))(h4:A2R prog 3 (I k) doE=some (some (i,v))):A1J prog 227 M (.mapr b) (I k) true=some (.tuple [v,B true]):=C4S h0 (kt:=3) (et:=225) (by kernel_rfl) (by kernel_rfl) rfl h4
section
variable (gl:Nat->AV)
def C2R(a9:gl 3=.cptr [fnV 444,fnV 445])(u k:A0a)(ks:List A0a)(h:Int)(i:Nat)(a8:Int)(M:Mem)(hk:u.kids=k::ks)(hf:Fit u)(hn:(A0V u).Nodup)
 (a0:B3r 1 ⟨k.kind,k.label⟩)(af:u.kids.filter (A4N ⟨k.kind,k.label⟩)=[k]):
 A0d (WC gl) 133 [.agg u.row,.agg (enR h i a8 (.rep [A3k,⟨k.kind,k.label⟩]))] M (λv M'=>v=.tuple [.agg (A8f u ks).row,I 0]/\M'=M):=by
 refine A0d.dataX ?_
 obtain⟨p,hp⟩:∃p:List A0I,p=[A3k,⟨k.kind,k.label⟩]:=⟨_,rfl⟩
 have a3:k∈A5G u:=by have:=B9X u u (B4M u) k (by rw[hk];simp);exact this
 have g:=λM=>B7t gl u k.id M hf
 rw[D7L hn a3]at g
 have q:=λM=>B3c gl u k (A6X p) M (λM=>by have:=D2N gl u ⟨k.kind,k.label⟩ .no M hf a0;rw[af,<-hp]at this;exact this)
 have a1:=λM=>C4p gl a9 p M (by rw[hp];simp) (by
  intro j hj;subst hp
  match j,hj with
  |0,_=>exact .inl ⟨rfl,rfl⟩
  |1,_=>exact a0)
 have s:=λd M=>C4m gl u k ks d M hk hf hn
 have a7:k.id.row=[I k.id.act,I k.id.item,I k.id.n]:=rfl
 have a6:¬k.id=u.id:=by intro e;obtain⟨a,b,c,d,e',f⟩:=u;rw[A0V,Z1U]at hn;have hk:f=k::ks:=hk;subst hk;refine hn.1 ?_;have e:k.id=a:=e;rw[<-e,A3v];exact Z2x _ (B9z k)
 have a2:=D3O k.id u.id
 rw[Z0w a6]at a2
 obtain⟨b,hb⟩:∃b,b=M.length:=⟨_,rfl⟩
 obtain⟨M1,o⟩:∃M1,M1=M++[z8]:=⟨_,rfl⟩
 have h1:M1[b]?=some z8:=by rw[o,hb];simp
 have ab:Grow M M1:=by rw[o];exact A0c.app none _ _
 obtain⟨M2,r⟩:∃M2,M2=M1++[A0l.map doE 7]:=⟨_,rfl⟩
 have ac:M2[M1.length]?=some (.map doE 7):=by rw[r];simp
 have ad:Grow M1 M2:=by rw[r];exact A0c.app none _ _
 have w:=A1Y (C:=WC gl) func189 rfl rfl (B6G gl M1)
 rw[<-r]at w
 obtain⟨M3,l⟩:∃M3,M3=M2++[A0l.cells 23 [I k.id.act,I k.id.item,I k.id.n]]:=⟨_,rfl⟩
 have a4:M3[M2.length]?=some (A0l.cells 23 [I k.id.act,I k.id.item,I k.id.n]):=by rw[l];simp
 have t:Grow M2 M3:=by rw[l];exact A0c.app none _ _
 obtain⟨M4,m⟩:∃M4,M4=M3++[A0l.cells 27 [I k.id.act,I k.id.item,I k.id.n,I k.kind,S k.label,.list 4 (A0g k.head) .no,.list 4 (A0g k.words) .no,.list 8 (A0r k.kids) .no]]:=⟨_,rfl⟩
 have aa:M4[M3.length]?=some (A0l.cells 27 [I k.id.act,I k.id.item,I k.id.n,I k.kind,S k.label,.list 4 (A0g k.head) .no,.list 4 (A0g k.words) .no,.list 8 (A0r k.kids) .no]):=by rw[m];simp
 have z:Grow M3 M4:=by rw[m];exact A0c.app none _ _
 have a5:=z.get a4 (by simp)
 have y:Grow M1 M4:=ad.trans (t.trans z)
 have h4:=y.get h1 (by simp)
 have ae:b<M4.length:=(Z0b.1 h4).1
 rw[A2j]at g
 rw[a7]at g q
 rw[<-hp]
 rw[k.row_eq]at g s
 rw[u.row_eq]at g q s|-
 simp only[A0W.row]at a1
 refine A0j hB func133 ?_
 simp -dsimp -implicitDefEqProofs[A0m,enR,A0W.row]
 rw[<-o,<-hb]
 refine A1i hB (A0G gl) (λk=>if k=0 then 2 else if k=4 then 1 else 0) (λ_=>M1.length) (by rfl) (by kernel_rfl) ?_
 simp -dsimp -implicitDefEqProofs
 refine A5f w ?_
 simp -dsimp -implicitDefEqProofs[A0M,D0S (k:=1) (i:=1) (v:=fnV 233) ac (by kernel_rfl)]
 refine A0f func190 (a1 M2) ?_
 simp -dsimp -implicitDefEqProofs
 refine A0f func191 (q M2) ?_
 simp -dsimp -implicitDefEqProofs[A0m,A0n,A0e]
 rw[<-l]
 simp -dsimp -implicitDefEqProofs[A0b a4]
 refine A0f func32 (g M3) ?_
 simp -dsimp -implicitDefEqProofs[A0m,A0n,A0e]
 rw[<-m]
 simp -dsimp -implicitDefEqProofs[A0b a5,a2,A0b aa]
 refine A0f func233 (s _ M4) ?_
 simp -dsimp -implicitDefEqProofs[A0h h4,A0y ae,A0k]
 exact⟨A1e (ab.trans y) (by omega),.tuple (.same (by simp only[bdd];exact A2J _ _) (.same trivial .nil)) .nil⟩
def C4G(a5:gl 0=A2z)(aj:gl 1=A2S)(ae:gl 3=.cptr [fnV 444,fnV 445])(u t:A0a)(g:Int)(i:Nat)(a2:Int)(M:Mem)(hf:Fit u)(a8:Fit t)(af:A2P t)(ak:t.kind≠0)(aa:A7C t=0)
 (hw:wcU t<=1000000000)(hx:Fit (A2g g i t 0 0))(am:u.kids.length<64)(a9:A1w t<8)
 (ad:A0o u+A0o t<=1024)(ac:B5C u (A2g g i t 0 0)=0)(s:((A0V (A2g g i t 0 0)).any λy=>(A0V u).any λz=>decide (z=y))=false):
 A0d (WC gl) 133 [.agg u.row,.agg (enR g i a2 (.ins t))] M (λv M'=>v=.tuple [.agg (A8f u (u.kids++[A2g g i t 0 0])).row,I 0]/\M'=M):=by
 refine A0d.dataX ?_
 have ao:A1k u.id u=some u:=by obtain⟨a,b,c,d,e,f⟩:=u;rw[A1k];exact Z0d rfl
 have h:=λM=>B7t gl u u.id M hf
 rw[ao]at h
 have p:=λM=>B3c gl u u A0i M (λM=>D0T gl u M)
 have a3:=λM=>C2Y gl a5 aj ae t M a8 af ak aa
 have j:=λM=>C4s gl a5 u t g i a2 M hf a8 hw hx am a9 ad ac s
 have ab:u.id.row=[I u.id.act,I u.id.item,I u.id.n]:=rfl
 have a6:=D3O u.id u.id
 rw[Z0s rfl]at a6
 obtain⟨y,hy⟩:∃y,y=A8f u (u.kids++[A2g g i t 0 0]):=⟨_,rfl⟩
 rw[<-hy]at j|-
 obtain⟨b,hb⟩:∃b,b=M.length:=⟨_,rfl⟩
 obtain⟨M1,o⟩:∃M1,M1=M++[z8]:=⟨_,rfl⟩
 have h1:M1[b]?=some z8:=by rw[o,hb];simp
 have a4:Grow M M1:=by rw[o];exact A0c.app none _ _
 obtain⟨M2,q⟩:∃M2,M2=M1++[A0l.map doE 7]:=⟨_,rfl⟩
 have ah:M2[M1.length]?=some (.map doE 7):=by rw[q];simp
 have ai:Grow M1 M2:=by rw[q];exact A0c.app none _ _
 have w:=A1Y (C:=WC gl) func189 rfl rfl (B6G gl M1)
 rw[<-q]at w
 obtain⟨M3,l⟩:∃M3,M3=M2++[A0l.cells 23 [I u.id.act,I u.id.item,I u.id.n]]:=⟨_,rfl⟩
 have a7:M3[M2.length]?=some (A0l.cells 23 [I u.id.act,I u.id.item,I u.id.n]):=by rw[l];simp
 have r:Grow M2 M3:=by rw[l];exact A0c.app none _ _
 obtain⟨M4,m⟩:∃M4,M4=M3++[A0l.cells 27 [I u.id.act,I u.id.item,I u.id.n,I u.kind,S u.label,.list 4 (A0g u.head) .no,.list 4 (A0g u.words) .no,.list 8 (A0r u.kids) .no]]:=⟨_,rfl⟩
 have ag:M4[M3.length]?=some (A0l.cells 27 [I u.id.act,I u.id.item,I u.id.n,I u.kind,S u.label,.list 4 (A0g u.head) .no,.list 4 (A0g u.words) .no,.list 8 (A0r u.kids) .no]):=by rw[m];simp
 have a1:Grow M3 M4:=by rw[m];exact A0c.app none _ _
 have an:=a1.get a7 (by simp)
 have a0:Grow M1 M4:=ai.trans (r.trans a1)
 have h4:=a0.get h1 (by simp)
 have al:b<M4.length:=(Z0b.1 h4).1
 rw[A2j]at h
 rw[ab]at h p
 rw[u.row_eq]at h p j|-
 simp only[A0W.row,enR,Z1g,Z2d]at a3 j
 refine A0j hB func133 ?_
 simp -dsimp -implicitDefEqProofs[A0m,enR,A0W.row]
 rw[<-o,<-hb]
 refine A1i hB (A0G gl) (λk=>if k=0 then 2 else if k=4 then 1 else 0) (λ_=>M1.length) (by rfl) (by kernel_rfl) ?_
 simp -dsimp -implicitDefEqProofs
 refine A5f w ?_
 simp -dsimp -implicitDefEqProofs[A0M,D0S (k:=0) (i:=0) (v:=fnV 232) ah (by kernel_rfl)]
 refine A0f func190 (a3 M2) ?_
 simp -dsimp -implicitDefEqProofs
 refine A0f func191 (p M2) ?_
 simp -dsimp -implicitDefEqProofs[A0m,A0n,A0e]
 rw[<-l]
 simp -dsimp -implicitDefEqProofs[A0b a7]
 refine A0f func32 (h M3) ?_
 simp -dsimp -implicitDefEqProofs[A0m,A0n,A0e]
 rw[<-m]
 simp -dsimp -implicitDefEqProofs[A0b an,a6,A0b ag]
 refine A0f func232 (j M4) ?_
 simp -dsimp -implicitDefEqProofs[A0h h4,A0y al,A0k]
 exact⟨A1e (a4.trans a0) (by omega),.tuple (.same (by simp only[bdd];exact A2J _ _) (.same trivial .nil)) .nil⟩
end
structure EnD where
 number:Int
 i:Nat
 day:Int
 it:A0W
def EnD.row(x:EnD):List AV:=enR x.number x.i x.day x.it
@[simp] def EnD.row_len(x:EnD):x.row.length=28:=D7p _ _ _ _
@[simp] def EnD.row_take(x:EnD):List.take 28 x.row=x.row:=Z0k (by simp)
def A0W.kind:A0W->Int
 |.rep _=>1
 |.ins _=>0
def enL(number day:Int)(items:List A0W):List EnD:=items.zipIdx.map λx=>⟨number,x.2,day,x.1⟩
def D8g(b c:Int)(a:List A0W):(enL b c a).length=a.length:=by simp[enL]
def D8v(b c:Int)(a:List A0W)(i:Nat)(h:i<a.length):(enL b c a)[i]?=some ⟨b,i,c,a[i]⟩:=by simp[enL,h]
def hAl:A2x:=⟨λd=>d !=2,λ_=>false,λ_=>false⟩
@[simp] def E4T:hAl.imm=λd=>d !=2:=rfl
section
variable (gl:Nat->AV)
set_option maxHeartbeats 1000000 in
def D4q(L:List EnD)(U:Nat->A0a)(v:AV)(M:Mem)(hl:L.length<=1000)(ho:A1n 143 28 EnD.row M v L)(hU:∀i (h:i<L.length) M,A0d (WC gl) 133 [.agg (U i).row,.agg L[i].row] M (λv M'=>v=.tuple [.agg (U (i+1)).row,I 0]/\M'=M)):
 A0d (WC gl) 79 [.agg (U 0).row,v] M (λr M'=>r=.tuple [.agg (U L.length).row,A0i]/\M'=M):=by
 refine A0d.dataX ?_
 obtain⟨b,hb⟩:∃b,b=M.length:=⟨_,rfl⟩
 obtain⟨M1,j⟩:∃M1,M1=M++[A0l.cells 27 (U 0).row,z8]:=⟨_,rfl⟩
 have h1:M1[b]?=some (.cells 27 (U 0).row):=by rw[j,hb];simp
 have h2:M1[b+1]?=some z8:=by rw[j,hb];simp[]
 have ae:Grow M M1:=by rw[j];exact A0c.app none _ _
 have a5:=ho.len (P:=prog) underlying141
 refine A0j hAl func79 ?_
 simp -dsimp -implicitDefEqProofs[A0m,a5]
 rw[<-j,<-hb]
 refine A0v hAl L.length 13 (λT Mi=>∃i:Nat,i<=L.length/\T 2=.ptr b 0/\T 4=.ptr (b+1) 0/\T 6=A0i/\T 11=v/\T 12=I L.length/\T 13=I i/\Grow M Mi/\Mi[b]?=some (.cells 27 (U i).row)/\Mi[b+1]?=some z8) ?_ ?_
 .exact⟨0,by omega,by simp,by simp,by simp,by simp,by simp,by simp,ae,h1,h2⟩
 rintro T Mi ⟨i,i1,t2,t4,t6,f,d,c,l,g,w⟩
 have aj:b<Mi.length:=(Z0b.1 g).1
 have af:b+1<Mi.length:=(Z0b.1 w).1
 by_cases hi:i<L.length
 case neg=>
  have a1:¬(i:Int)<L.length:=by omega
  have e:i=L.length:=by omega
  subst e;have ah:A1D prog 27 Mi (.ptr b 0)=some (.agg (U L.length).row):=by rw[(U L.length).row_eq]at g|-;rw[A0b g];simp
  simp -dsimp -implicitDefEqProofs[t2,t4,t6,d,c,ah,A0h w,A0y af,A0k];exact⟨A1e l (by omega),.tuple (.same (by simp only[bdd];exact A2J _ _) (.same trivial .nil)) .nil⟩
 have a1:(i:Int)<L.length:=by omega
 have w1:=A1y (i:=i) (by omega)
 obtain⟨x,hx⟩:∃x,x=L[i]:=⟨_,rfl⟩
 have ai:=ho.keep l (by simp)
 obtain⟨pt,ab,-,a7,-⟩:=ai.at_ (P:=prog) (t:=143) EnD.row_len D9G E2C hi
 rw[<-hx]at a7
 have a:=hU i hi
 rw[<-hx]at a
 obtain⟨q,hq⟩:∃q,q=Mi.length:=⟨_,rfl⟩
 obtain⟨M2,s⟩:∃M2,M2=Mi++[A0l.cells 143 x.row]:=⟨_,rfl⟩
 have z:M2[q]?=some (.cells 143 x.row):=by rw[s,hq];simp
 have p:Grow Mi M2:=by rw[s];exact A0c.app none _ _
 have a6:A1D prog 143 M2 (.ptr q 0)=some (.agg x.row):=by rw[A0b z];simp[A0k,A7r]
 have aa:A1D prog 3 M2 (.ptr q 3)=some (I x.it.kind):=by rw[A0b z];obtain⟨n0,i0,d0,it⟩:=x;cases it<;>simp[EnD.row,enR,A0W.row,A0W.kind]
 have u:=p.get g (by simp)
 have ac:=p.get w (by simp)
 have a3:A1D prog 27 M2 (.ptr b 0)=some (.agg (U i).row):=by rw[(U i).row_eq]at u|-;rw[A0b u];simp
 have ad:(decide (0<=x.it.kind)&&decide (x.it.kind<=6))=true:=by cases x.it<;>simp[A0W.kind]
 have k:=B1k gl M2 x.it.kind
 rw[ad]at k
 obtain⟨y,hy⟩:∃y,y=U (i+1):=⟨_,rfl⟩
 rw[<-hy]at a
 obtain⟨M3,m⟩:∃M3,M3=M2++[A0l.cells 27 y.row]:=⟨_,rfl⟩
 have a2:M3[M2.length]?=some (.cells 27 y.row):=by rw[m];simp
 have a0:A1D prog 27 M3 (.ptr M2.length 0)=some (.agg y.row):=by rw[y.row_eq]at a2|-;rw[A0b a2];simp
 have o:Grow M2 M3:=by rw[m];exact A0c.app none _ _
 have a8:=o.get u (by simp)
 have ag:=o.get ac (by simp)
 have a9:A0n (some 8) M3 (.ptr b 0) (.agg y.row)=some (M3.set b (.cells 27 y.row)):=by rw[A0h a8];simp[A0e,Z1Z]
 have a4:b<M3.length:=(Z0b.1 a8).1
 simp -dsimp -implicitDefEqProofs[f,d,c,a1,ab,a7,A0m,A0n,A0e]
 rw[<-s,<-hq]
 simp -dsimp -implicitDefEqProofs[aa]
 refine A0f func132 k ?_
 simp -dsimp -implicitDefEqProofs[t2,a6,a3]
 refine A0f func133 (a M2) ?_
 simp -dsimp -implicitDefEqProofs[A0m,A0n,A0e]
 rw[<-m]
 simp -dsimp -implicitDefEqProofs[t2,t4,t6,f,d,c,a0,a9,w1]
 refine⟨⟨i+1,by clear w1;omega,rfl,A1e (l.trans (p.trans o)) (by omega),by rw[hy];simp[a4],?_⟩,by clear w1;omega⟩
 exact ag
def D4V{a b:Int}{i:Nat}{it:A0W}:A0D prog 143 [(0,I a),(1,I i),(2,I b),(3,.agg it.row)]=some (.agg (EnD.mk a i b it).row):=by cases it<;>simp[A0D,A1l,A1H,AV.cells,AV.storable,EnD.row,enR,A0W.row]
@[simp] def A0W.row_take(x:A0W):List.take 25 x.row=x.row:=Z0k (by simp)
set_option maxHeartbeats 1000000 in
def D6o(u:A0a)(c d:Int)(a:List A0W)(U:Nat->A0a)(M:Mem)(hl:a.length<=1000)(h0:U 0=u)(hU:∀i (h:i<a.length) M,A0d (WC gl) 133 [.agg (U i).row,.agg (enR c i d a[i])] M (λv M'=>v=.tuple [.agg (U (i+1)).row,I 0]/\M'=M)):
 A0d (WC gl) 26 [.agg u.row,C0S c d a] M (λr M'=>r=.tuple [.agg (U a.length).row,A0i]/\M'=M):=by
 refine A0d.dataX ?_
 obtain⟨b,hb⟩:∃b,b=M.length:=⟨_,rfl⟩
 obtain⟨M1,q⟩:∃M1,M1=M++[z8]:=⟨_,rfl⟩
 have h1:M1[b]?=some z8:=by rw[q,hb];simp
 have a4:Grow M M1:=by rw[q];exact A0c.app none _ _
 have m:=D8v c d a
 have w:=D8g c d a
 have f:=λv M' (ho:A1n 143 28 EnD.row M' v (enL c d a))=>D4q gl (enL c d a) U v M' (by omega) ho (λi h M=>by
  have hi:i<a.length:=by omega
  have e:=m i hi;rw[Z0l h]at e;rw[Z1V e];exact hU i hi M)
 rw[w,h0]at f
 have a5:∀i (h:i<a.length),(a.map A0W.row)[i]?=some a[i].row:=λi h=>by simp[h]
 rw[u.row_eq]at f|-
 rw[C0S]
 refine A0j (hQ [26]) func26 ?_
 simp -dsimp -implicitDefEqProofs[A0m]
 rw[<-q,<-hb]
 refine A0v (hQ [26]) a.length 12 (λT Mi=>∃i:Nat,i<=a.length/\T 2=.cptr [I u.id.act,I u.id.item,I u.id.n,I u.kind,S u.label,.list 4 (A0g u.head) .no,.list 4 (A0g u.words) .no,.list 8 (A0r u.kids) .no]/\T 3=.cptr [I c,S A3t,I d,I 1,I d,eS,.list 25 (a.map A0W.row) .no]/\T 4=.ptr b 0/\T 10=.list 25 (a.map A0W.row) .no/\T 11=I a.length/\T 12=I i/\Grow M1 Mi/\Arr 143 28 EnD.row M1.length Mi (T 6) ((enL c d a).take i)) ?_ ?_
 .exact⟨0,by omega,by simp,by simp,by simp,by simp,by simp,by simp,Grow.refl _,by simpa using Arr.nil⟩
 rintro T Mi ⟨i,i1,t2,t3,t4,g,k,j,o,ha⟩
 by_cases hi:i<a.length
 case neg=>
  have p:¬(i:Int)<a.length:=by omega
  rw[Z0k (by omega)]at ha;have t:=o.get h1 (by simp);have a1:b<Mi.length:=(Z0b.1 t).1;generalize l:T 6=ov at*;simp -dsimp -implicitDefEqProofs[t2,k,j,p,l];refine A0f func79 (f ov Mi ha.own) ?_;simp -dsimp -implicitDefEqProofs[t4,A0h t,A0y a1,A0k];exact⟨A1e (a4.trans o) (by omega),.tuple (.same (by simp only[bdd];exact A2J _ _) (.same trivial .nil)) .nil⟩
 have p:(i:Int)<a.length:=by omega
 have w1:=A1y (i:=i) (by omega)
 obtain⟨x,hx⟩:∃x,x=a[i]:=⟨_,rfl⟩
 have a0:=a5 i hi
 rw[<-hx]at a0
 have a2:a[i]=x:=hx.symm
 obtain⟨M2,s⟩:∃M2,M2=Mi++[A0l.cells 128 x.row]:=⟨_,rfl⟩
 have a7:M2[Mi.length]?=some (.cells 128 x.row):=by rw[s];simp
 have y:Grow Mi M2:=by rw[s];exact A0c.app none _ _
 have z:=ha.keep y
 have a6:A1D prog 128 M2 (.ptr Mi.length 0)=some (.agg x.row):=by rw[A0b a7];simp[A0k,A7r]
 have a3:(enL c d a).take (i+1)=(enL c d a).take i++[⟨c,i,d,x⟩]:=by rw[Z1k,m i hi,hx];rfl
 generalize l:T 6=ov at*
 simp -dsimp -implicitDefEqProofs[t3,g,k,j,hi,p,a2,l,A0m,A0n,A0e]
 rw[<-s]
 simp -dsimp -implicitDefEqProofs[a6,D4V,A0p,A0Z]
 refine A3V (C:=WC gl) (enc:=EnD.row) (e:=143) (sz:=28) (bytes:=392) (news:=[⟨c,i,d,x⟩]) D8c E0D D9U EnD.row_len z.own (by simp[A0z]) (by simp;omega) rfl ?_
 intro v' M' k1 k2 k3 _
 obtain⟨g1,g2⟩:=A2T (X:=[]) (o.trans y) z.lat (by simpa using k2) (by simpa using k3)
 simp -dsimp -implicitDefEqProofs[t2,t3,t4,g,k,j,w1]
 exact⟨⟨i+1,by clear w1;omega,rfl,g1,by rw[a3];exact⟨k1,g2⟩⟩,by clear w1;omega⟩
end
open Go.Proofs TryTypes
def B8D{u:A0a}{ks:List A0a}(hf:Fit u)(h1:∀k∈ks,k.good/\k.lims)(h2:1+A0u ks<=1000):Fit (A8f u ks):=by
 obtain⟨g1,g2,g3,g4,g5,g6,g7,g8,g9⟩:=(A0a.good_iff u).1 hf.1;obtain⟨⟨l1,l2,l3,l4⟩,l5⟩:=A3f _ hf.2.1;have hl:=A1O ks;refine⟨(A0a.good_iff _).2 ⟨g1,g2,g3,g4,g5,g6,g7,?_,λk hk=>(h1 k hk).1⟩,?_,?_⟩
 .show ks.length<=9223372036854775807;omega
 .rw[A8f,A0a.lims];exact⟨⟨l1,l2,by show ks.length<=1000;omega,l4⟩,A2Z.2 λk hk=>(h1 k hk).2⟩
 .rw[A8f,A0o];exact h2
def C6U:∀(a b:List A0a),A3v (a++b)=A3v a++A3v b
 |[],b=>by rw[A3v];rfl
 |k::a,b=>by rw[Z1g,A3v,A3v,C6U a b,Z0X]
def C7Q(u:A0a):A0o u=1+A0u u.kids:=by obtain⟨a,b,c,d,e,f⟩:=u;rw[A0o];rfl
def C4Z(u:A0a):A0V u=u.id::A3v u.kids:=by obtain⟨a,b,c,d,e,f⟩:=u;rw[A0V];rfl
def D5K{u:A0a}(hf:Fit u)(i:Nat):Fit (A8f u (u.kids.drop i)):=by have h1:=((A0a.good_iff u).1 hf.1).2.2.2.2.2.2.2.2;have h2:=A2Z.1 (A3f _ hf.2.1).2;have h3:=A8g (u.kids.take i) (u.kids.drop i);rw[Z0U]at h3;have h4:=C7Q u;have h5:=hf.2.2;exact B8D hf (λk hk=>⟨h1 k (Z1s hk),h2 k (Z1s hk)⟩) (by omega)
def C9w{u:A0a}(hn:(A0V u).Nodup)(i:Nat):(A0V (A8f u (u.kids.drop i))).Nodup:=by have h:=C6U (u.kids.take i) (u.kids.drop i);rw[Z0U]at h;rw[C4Z,h]at hn;rw[A8f,A0V];exact hn.sublist (List.Sublist.cons_cons _ (List.sublist_append_right _ _))
def B3o:∀{kind:Int} {ks b:List A0a},A4h kind ks b=true->∀i (h:i<ks.length),A1o kind ks[i].kind=true/\A2l ks[i]=true/\(∀a∈b,A2k a ks[i]=false)/\∀j (hj:j<i),A2k (ks[j]'(by omega)) ks[i]=false
 |kind,k::ks,b,h,i,hi=>by
  rw[A4h]at h;simp only[Z0g,Z1Q]at h;obtain⟨⟨⟨h1,h2⟩,h3⟩,h4⟩:=h;cases i with
  |zero=>refine⟨h1,h2,λa ha=>?_,λj hj=>by omega⟩;exact by simpa using List.any_eq_false.1 h3 a ha
  |succ i=>
   obtain⟨k1,k2,k3,k4⟩:=B3o h4 i (by simpa using hi);refine⟨k1,k2,λa ha=>k3 a (by simp[ha]),λj hj=>?_⟩;cases j with
   |zero=>exact k3 k (by simp)
   |succ j=>exact k4 j (by omega)
def C7W{u:A0a}(h:A2l u=true):A4h u.kind u.kids []=true:=by obtain⟨a,b,c,d,e,f⟩:=u;rw[A2l]at h;simp only[Z0g]at h;exact h.2
def D5w{k:Int}(h:A1o 0 k=true):k=1\/k=2:=by simpa[A1o,A3y]using h
def D3f(a b:A0a):A2k a b=A2k b a:=by simp only[A2k];rw[show decide (a.kind=b.kind)=decide (b.kind=a.kind)by simp[eq_comm],show decide (a.label=b.label)=decide (b.label=a.label)by simp[eq_comm]]
def C1B(a b:A0a):A4N ⟨b.kind,b.label⟩ a=A2k a b:=rfl
def C6e{u:A0a}(h:A3U u=true)(hk:u.kind≠0):A0N u.label=true/\u.kind<=7:=by unfold A3U at h;simp only[Z0g,Z0m,Z0e hk]at h;exact⟨h.2,h.1.1.1.1.2⟩
def C5A{u:A0a}(h:A2l u=true)(h0:u.kind=0){i:Nat}(hi:i<u.kids.length):B3r 1 ⟨u.kids[i].kind,u.kids[i].label⟩/\(u.kids.drop i).filter (A4N ⟨u.kids[i].kind,u.kids[i].label⟩)=[u.kids[i]]:=by
 have hr:=C7W h;rw[h0]at hr;obtain⟨k1,k2,-,-⟩:=B3o hr i hi;have hk:=D5w k1;obtain⟨a1,a2⟩:=C6e (A6n k2) (by omega);refine⟨.inr ⟨?_,a2,a1⟩,?_⟩
 .show 0<u.kids[i].kind;omega
 .rw[Z0j hi,Z3d,C1B,Z0d (by simp[A2k])];congr 1;rw[Z2V];intro a ha;obtain⟨j,hj,rfl⟩:=Z3g ha;have b:i+1+j<u.kids.length:=by simp at hj;omega
  rw[List.getElem_drop,C1B,D3f,(B3o hr (i+1+j) b).2.2.2 i (by omega)];simp
mutual
def C2v(x:IdD):∀u:A0a,x∉A0V u->B0c x u=none
 |.mk id k l h w ks,hn=>by rw[A0V,Z0A,Z2N]at hn;rw[B0c,Z0e (λe=>hn.1 e.symm)];exact C2P x ks hn.2
def C2P(x:IdD):∀ks:List A0a,x∉A3v ks->B2y x ks=none
 |[],_=>by rw[B2y]
 |k::ks,hn=>by rw[A3v,Z0Y,Z2N]at hn;rw[B2y,C2v x k hn.1];exact C2P x ks hn.2
end
def C6b{k:A0a}:∀{ks:List A0a},(A3v ks).Nodup->k∈ks->B2y k.id ks=some [⟨k.kind,k.label⟩]
 |a::ks,hn,hk=>by
  rw[A3v]at hn;obtain⟨n1,n2,n3⟩:=Z2a.1 hn;rw[B2y];rcases Z0A.1 hk with rfl|hk
  ·(have:B0c k.id k=some []:=by obtain⟨a,b,c,d,e,f⟩:=k;rw[B0c];exact Z0d rfl);rw[this]
  .rw[C2v k.id a λh=>n3 _ h _ (B4g (B9z k) hk) rfl];exact C6b n2 hk
def C7n{u k:A0a}(hn:(A0V u).Nodup)(hk:k∈u.kids):B3X u k.id=some [A3k,⟨k.kind,k.label⟩]:=by
 rw[C4Z,Z1U]at hn;have hw:B0c k.id u=B2y k.id u.kids:=by
  obtain⟨a,b,c,d,e,f⟩:=u;rw[B0c,Z0e]
  .rfl
  .intro e';exact hn.1 (e'▸B4g (B9z k) hk)
 rw[B3X,hw,C6b hn.2 hk];rfl
def B5i{a i:Int}(ha:inI a)(hi:inI i):∀(l:List ByteArray) (n:Nat),(∀t∈l,t.size<=maxLen)->n+l.length<=2000000000->∀w∈A4J a i n l,w.good
 |[],n,_,_,w,hw=>by simp[A4J]at hw
 |t::l,n,ht,hn,w,hw=>by
  rw[A4J]at hw;simp only[Z0C]at hn;rcases Z0A.1 hw with rfl|hw
  .refine⟨ht t (by simp),ha,hi,?_⟩;simp only[inI];omega
  .exact B5i ha hi l (n+1) (λq hq=>ht q (by simp[hq])) (by omega) w hw
def B8G{l:List A0H}(h:∀w∈l,w.good):∀t∈A0Y l,t.size<=maxLen:=by intro t ht;obtain⟨w,hw,rfl⟩:=Z0J.1 ht;exact(h w hw).1
mutual
def B5u{a i:Int}(ha:inI a)(hi:inI i):∀(t:A0a) (n w:Nat),t.good->t.lims->n+A0o t<=1000000->w+wcU t<=1000000000->(A2g a i t n w).good/\(A2g a i t n w).lims
 |.mk id k l h ws ks,n,w,hg,hl,hn,hw=>by
  obtain⟨g1,g2,g3,g4,g5,g6,g7,g8,g9⟩:=(A0a.good_iff _).1 hg;obtain⟨⟨l1,l2,l3,l4⟩,l5⟩:=A3f _ hl;rw[A0o]at hn;rw[wcU]at hw;have g5:∀w∈h,w.good:=g5;have g7:∀w∈ws,w.good:=g7;have g9:∀k∈ks,k.good:=g9;have l3:ks.length<=1000:=l3;have l1:h.length<=100000000:=l1;have l2:ws.length<=100000000:=l2;have g8:ks.length<=maxLen:=g8;have hk:=B9A ha hi ks (n+1) (w+h.length+ws.length) g9 (A2Z.1 l5) (by omega) (by omega);have t1:(A0Y h).length=h.length:=by simp[A0Y]
  have t2:(A0Y ws).length=ws.length:=by simp[A0Y]
  rw[A2g];have hm:∀n:Nat,n<=100000000->n<=maxLen:=λn h=>by show n<=9223372036854775807;omega
  refine⟨(A0a.good_iff _).2 ⟨⟨ha,hi,?_⟩,g2,g3,?_,?_,?_,?_,?_,λk hk'=>(hk k hk').1⟩,?_⟩
  .show inI ((n+1:Nat):Int);simp only[inI];omega
  .show(A4J _ _ _ _).length<=maxLen;rw[A9Q,t1];exact hm _ l1
  .exact B5i ha hi _ _ (B8G g5) (by rw[t1];omega)
  .show(A4J _ _ _ _).length<=maxLen;rw[A9Q,t2];exact hm _ l2
  .exact B5i ha hi _ _ (B8G g7) (by rw[t2];omega)
  .show(A2B _ _ _ _ _).length<=maxLen;rw[B0h];exact g8
  .rw[A0a.lims];refine⟨⟨?_,?_,?_,l4⟩,A2Z.2 λk hk'=>(hk k hk').2⟩
   .show(A4J _ _ _ _).length<=_;rw[A9Q,t1];exact l1
   .show(A4J _ _ _ _).length<=_;rw[A9Q,t2];exact l2
   .show(A2B _ _ _ _ _).length<=_;rw[B0h];exact l3
def B9A{a i:Int}(ha:inI a)(hi:inI i):∀(ks:List A0a) (n w:Nat),(∀k∈ks,k.good)->(∀k∈ks,k.lims)->n+A0u ks<=1000000->w+wcL ks<=1000000000->∀k∈A2B a i ks n w,k.good/\k.lims
 |[],n,w,_,_,_,_,k,hk=>by rw[A2B]at hk;simp at hk
 |t::ks,n,w,hg,hl,hn,hw,k,hk=>by
  rw[A0u]at hn;rw[wcL]at hw;rw[A2B]at hk;rcases Z0A.1 hk with rfl|hk
  .exact B5u ha hi t n w (hg t (by simp)) (hl t (by simp)) (by omega) (by omega)
  .exact B9A ha hi ks _ _ (λq hq=>hg q (by simp[hq])) (λq hq=>hl q (by simp[hq])) (by omega) (by omega) k hk
end
mutual
def B9j:∀t:A0a,A2l t=true->wcU t<=512*A0o t
 |.mk id k l h ws ks,hr=>by obtain⟨_,h1,h2⟩:=A7x (A6n hr);have h1:A3l h=true:=h1;have h2:A3l ws=true:=h2;have:=(A5V h1).1;have:=(A5V h2).1;have hk:=C2h ks (λq hq=>B2g hr q hq);rw[wcU,A0o];omega
def C2h:∀ks:List A0a,(∀k∈ks,A2l k=true)->wcL ks<=512*A0u ks
 |[],_=>by rw[wcL];omega
 |k::ks,h=>by have:=B9j k (h k (by simp));have:=C2h ks λq hq=>h q (by simp[hq]);rw[wcL,A0u];omega
end
def C1j{t:A0a}(h:A7C t=0):A2l t=true/\A0o t<=1024:=by
 unfold A7C at h;split at h;case isFalse=>simp at h
 rename_i h1;simp only[A5k,Z0g,Z0m]at h1;exact⟨h1.1.1,h1.2⟩
def A8Q(a:Int):∀(ts:List A5R) (j:Nat) (x:A0a),x∈A1P a ts j->∃t∈ts,∃j',j<=j'/\j'<j+ts.length/\x=A2g a (j':Nat) t.1 0 0
 |[],j,x,h=>by simp[A1P]at h
 |t::ts,j,x,h=>by
  rw[A1P]at h;rcases Z0A.1 h with rfl|h
  .exact⟨t,by simp,j,Z0o _,by simp,rfl⟩
  .obtain⟨t',h1,j',h2,h3,h4⟩:=A8Q a ts (j+1) x h;exact⟨t',by simp[h1],j',by omega,by simp;omega,h4⟩
def B7W(a:Int):∀(ts:List A5R) (j:Nat),∀x∈A3v (A1P a ts j),x.item<((j+ts.length:Nat):Int)
 |[],j,x,h=>by rw[A1P,A3v]at h;simp at h
 |t::ts,j,x,h=>by
  rw[A1P,A3v,A9A]at h;rcases Z0Y.1 h with h|h
  .rw[(B3V h).2];simp;omega
  .have:=B7W a ts (j+1) x h;simp at this|-;omega
section
variable {F:IdD->Option A0a} {l:List A0S} {s:List A1R}
def D1X(hp:∀j:Nat,j<l.length->A3w l j<j):∀(n f g:Nat),n<l.length->n<f->n<g->A3a l f n=A3a l g n:=by
 intro n;induction n using Nat.strongRecOn with
 |ind n ih=>
  intro f g hn hf hg;obtain⟨f,rfl⟩:∃f',f=f'+1:=⟨f-1,by omega⟩;obtain⟨g,rfl⟩:∃g',g=g'+1:=⟨g-1,by omega⟩;rw[A3a,A3a,Z0e (by omega),Z0e (by omega)];congr 1;have h1:=hp n hn;by_cases hneg:A3w l n<0
  .have z:∀f,A3a l f (A3w l n)=0:=λf=>by
    cases f with
    |zero=>rw[A3a]
    |succ f=>rw[A3a,Z0d hneg]
   rw[z,z]
  .obtain⟨p,a⟩:∃p:Nat,A3w l n=p:=⟨(A3w l n).toNat,by omega⟩;rw[a];exact ih p (by omega) f g (by omega) (by omega) (by omega)
def C8h{ks:List A0a}{m:Nat}(h:∀k∈ks,1+A1w k<=m):A2v ks<=m:=by
 induction ks with
 |nil=>rw[A2v];omega
 |cons k ks ih=>rw[A2v];have:=h k (by simp);have:=ih λq hq=>h q (by simp[hq]);omega
def B6I(a:∀j,j<l.length->B2A l j)(h8:∀n,n<l.length->A3a l (n+1) n<=8):∀f n,n<l.length->l.length<=f+n->A1w (A2N F l s f n).1+A3a l (n+1) n<=8
 |0,n,h1,h2=>by omega
 |f+1,n,h1,h2=>by
  have hp:∀j:Nat,j<l.length->A3w l j<j:=λj hj=>by have:=(a j hj j hj (Z0o _)).2;simpa[A3w,hj]using this
  have c:=h8 n h1;rw[A2N];simp only;rw[A1w];have:A2v (((A4m l n l.length).map (A2N F l s f)).map (·.1))<=8-A3a l (n+1) n:=by
   refine C8h λk hk=>?_;rw[Z1O]at hk;obtain⟨q,hq,rfl⟩:=Z0J.1 hk;obtain⟨h3,h4⟩:=B5H a hq;have ih:=B6I a h8 f q h4 (by omega);have b:A3w l q=(n:Int):=by simp only[A4m,Z1A,Z1i,Z0m]at hq;exact hq.2
   (have e:A3a l (q+1) q=A3a l (n+1) n+1:=by rw[A3a,Z0e (by omega),b,D1X hp n q (n+1) h1 h3 (by omega)]);show 1+A1w (A2N F l s f q).1<=_
   omega
  omega
end
structure D4R (u:A0a) (l:List A0S):Prop where
 deep:∀n,n<l.length->A3a l (n+1) n<=8
 nest:∀n,n<l.length->A1o (A4U (λx=>A1k x u) l (A3w l n)) (A6U (λx=>A1k x u) l n).kind=true
 dup:∀n (h:n<l.length),∀k∈A4m l (A3w l n) n,¬(B1T l k=B1T l n/\(A6U (λx=>A1k x u) l k).kind=(A6U (λx=>A1k x u) l n).kind)
def B3l{u:A0a}{l:List A0S}(hS:A7z u l){n:Nat}(hn:n<l.length):A4U (λx=>A1k x u) l n=(A6U (λx=>A1k x u) l n).kind:=by
 obtain⟨x,hx,_⟩:=hS.fd n hn;have h1:A6U (λx=>A1k x u) l n=x:=by simp[A6U,hn,hx]
 rw[h1];have:¬((n:Int)<0):=by omega
 simp[A4U,hn,hx,C0k,this]
def D5Q{u:A0a}{l:List A0S}(hS:A7z u l)(h:A8c (λx=>A1k x u) u l=0):D4R u l:=by
 unfold A8c at h;split at h
 .simp at h
 split at h;case isFalse hne=>exact absurd h hne
 rename_i hfe;have he:=λn (hn:n<l.length)=>B1G _ _ hfe n (Z3f _) (by omega);have key:∀n (h:n<l.length),A1o (A4U (λx=>A1k x u) l l[n].parent) (A4U (λx=>A1k x u) l n)=true/\(A4m l l[n].parent n).any (C3S (λx=>A1k x u) l n l[n].label)=false/\A3a l (n+1) n<=8:=by
  intro n hn;have h:=he n hn;simp only[B5v,Z0l hn]at h;split at h
  .simp at h
  split at h
  .simp at h
  split at h
  .simp at h
  split at h
  .simp at h
  split at h
  .simp at h
  rename_i h5;split at h
  .simp at h
  rename_i h6;split at h
  .simp at h
  rename_i h7;simp only[Z1H,Z0m,Z2N]at h7;exact⟨by simpa using h5,by simpa using h6,by omega⟩
 have a:∀n (h:n<l.length),A3w l n=l[n].parent:=λn hn=>by simp[A3w,hn]
 have b:∀n (h:n<l.length),B1T l n=l[n].label:=λn hn=>by simp[B1T,hn]
 refine⟨λn hn=>(key n hn).2.2,λn hn=>?_,λn hn k hk hc=>?_⟩
 .rw[a n hn,<-B3l hS hn];exact(key n hn).1
 .rw[a n hn]at hk;have:=List.any_eq_false.1 (key n hn).2.1 k hk;refine this ?_;have c:=A9c hk;simp only[C3S,Z0g,Z0m];rw[B3l hS hn,B3l hS (by omega:k<l.length),<-b n hn];exact hc
def C3f(l:List A0S):(A3m l).Pairwise (·<·):=by unfold A3m A4m;exact List.Pairwise.filter _ List.pairwise_lt_range
def B8c{l:List A0S}{n:Nat}(h:n∈A3m l):n<l.length/\A3w l n=-1:=by simp only[A3m,A4m,Z1A,Z1i,Z0m]at h;exact h
def C1C{F:IdD->Option A0a}{l:List A0S}{s:List A1R}{f n:Nat}:(A2N F l s (f+1) n).1.kind=(A6U F l n).kind/\(A2N F l s (f+1) n).1.label=B1T l n:=⟨rfl,rfl⟩
def C4U(a i:Int)(t:A0a)(n w:Nat):(A2g a i t n w).kind=t.kind/\(A2g a i t n w).label=t.label:=by obtain⟨x1,x2,x3,x4,x5,x6⟩:=t;rw[A2g];exact⟨rfl,rfl⟩
section
variable {u:A0a} {l:List A0S} {s:List A1R}
abbrev A2D(u:A0a)(l:List A0S)(s:List A1R):List A5R:=A2n (λx=>A1k x u) l s
def B5g(u:A0a)(number:Int)(ts:List A5R)(i:Nat):A0a:=if i<=u.kids.length then A8f u (u.kids.drop i)else A8f u (A1P number (ts.take (i-u.kids.length)) u.kids.length)
def C4l(a:Int)(ts:List A5R){i:Nat}(h:i<=u.kids.length):B5g u a ts i=A8f u (u.kids.drop i):=Z0d h
def B7s(a:Int)(ts:List A5R)(j:Nat):B5g u a ts (u.kids.length+j)=A8f u (A1P a (ts.take j) u.kids.length):=by
 unfold B5g;by_cases h:j=0
 .subst h;rw[Z0d (by omega)];simp[A1P]
 .rw[Z0e (by omega),Z2n]
def D3U(g:Int)(ts:List A5R):B5g u g ts 0=u:=by rw[C4l g ts (Z3f _),Z1q];obtain⟨a,b,c,d,e,f⟩:=u;rfl
def D6O(a:Int)(ts:List A5R):B5g u a ts (u.kids.length+ts.length)=A6f u a ts:=by rw[B7s,List.take_length];rfl
structure E2N (u t:A0a) (number:Int) (i:Nat):Prop where
 hf:Fit u
 hft:Fit t
 hbt:A2P t
 hkt:t.kind≠0
 hvt:A7C t=0
 hw:wcU t<=1000000000
 hx:Fit (A2g number i t 0 0)
 h64:u.kids.length<64
 hdp:A1w t<8
 hcn:A0o u+A0o t<=1024
 htk:B5C u (A2g number i t 0 0)=0
 hids:((A0V (A2g number i t 0 0)).any λy=>(A0V u).any λz=>decide (z=y))=false
def C4H(ts:List A5R)(j:Nat)(h:j<ts.length):A0u ((ts.take j).map (·.1))+A0o ts[j].1<=A0u (ts.map (·.1)):=by
 have h1:ts.map (·.1)=(ts.take j).map (·.1)++(ts.drop j).map (·.1):=by rw[<-Z0Q,Z0U]
 rw[h1,A8g,Z0j h,Z0B,A0u];omega
def D4S(a9:Fit u)(hS:A7z u l)(hl:l.length<=500)(ai:∀s∈l,s.good)(ht:∀m∈s,m.to.length<=40)(hP:D4R u l)(am:u.kind=0)(ag:u.id=idZ)(b:Int)(ap:1<=b)(ar:b<=1048576) (af:u.kids.length+(A2D u l s).length<=32)(a0:∀t∈A2D u l s,A7C t.1=0){j:Nat}(hj:j<(A2D u l s).length):E2N (B5g u b (A2D u l s) (u.kids.length+j)) (A2D u l s)[j].1 b (u.kids.length+j):=by
 obtain⟨ts,d⟩:∃ts,ts=A2D u l s:=⟨_,rfl⟩
 have a6:=C1c (s:=s) hS b
 rw[A6f,A0o,A5M]at a6
 have aq:ts.length=(A3m l).length:=by rw[d];simp[A2n]
 have a8:∀q,(h:q<ts.length)->∃f,(A3m l)[q]'(by omega)<l.length/\ts[q]=A2N (λx=>A1k x u) l s (f+1) ((A3m l)[q]'(by omega))/\l.length=f+1:=λq h=>by have hr:=(B8c (Z0u (show q<(A3m l).length by omega))).1;refine⟨l.length-1,hr,?_,by omega⟩;subst d;rw[show l.length-1+1=l.length by omega];simp[A2D,A2n]
 have g:∀t∈ts,Fit t.1/\A2P t.1:=λt h=>by rw[d]at h;obtain⟨n,hn,rfl⟩:=Z0J.1 h;exact⟨B4Z hS (by omega) ai ht (A9c hn) (by omega),B3e _ _ _ _ _⟩
 have a6:1+A0u (ts.map (·.1))=l.length+1:=by rw[d];exact a6
 rw[<-d]at af a0 hj
 have al:inI b:=by simp only[inI];omega
 have aa:∀t∈ts,∀i:Nat,i<=1000->Fit (A2g b i t.1 0 0)/\wcU t.1<=1000000000:=λt h i hi=>by obtain⟨r1,r2⟩:=C1j (a0 t h);have hw:=B9j t.1 r1;obtain⟨f1,f2⟩:=g t h;have hc:=f1.2.2;obtain⟨g1,g2⟩:=B5u (a:=b) (i:=i) al (by simp only[inI];omega) t.1 0 0 f1.1 f1.2.1 (by omega) (by omega);exact⟨⟨g1,g2,by rw[A8N];exact hc⟩,by omega⟩
 have e:(A2D u l s)[j]'(by rw[<-d];exact hj)=ts[j]:=by subst d;rfl
 rw[e,<-d,B7s]
 have k:ts[j]∈ts:=Z0u hj
 obtain⟨f,a4,a7,au⟩:=a8 j hj
 have p:=C1C (F:=λx=>A1k x u) (l:=l) (s:=s) (f:=f) (n:=(A3m l)[j]'(by omega))
 rw[<-a7]at p
 have ah:(A3m l)[j]'(by omega)∈A3m l:=Z0u _
 have a2:=(B8c ah).2
 have c:=hP.nest _ a4
 rw[a2]at c
 have ak:A4U (λx=>A1k x u) l (-1)=0:=rfl
 rw[ak]at c
 have ao:=C4H ts j hj
 have a5:∀x∈A1P b (ts.take j) u.kids.length,x.good/\x.lims:=λx hx=>by obtain⟨t,h1,j',h2,h3,rfl⟩:=A8Q b _ _ x hx;have:=(aa t (Z1p h1) j' (by have:=List.length_take_le j ts;omega)).1;exact⟨this.1,this.2.1⟩
 obtain⟨s1,s2⟩:=aa _ k (u.kids.length+j) (by omega)
 have a1:=C4U b (u.kids.length+j:Nat) ts[j].1 0 0
 refine⟨B8D a9 a5 (by rw[A5M];omega),(g _ k).1,(g _ k).2,?_,a0 _ k,s2,s1,?_,?_,?_,?_,?_⟩
 .rw[p.1];have:=D5w c;omega
 .show(A1P _ _ _).length<64;rw[B6m,Z0F];omega
 .have hd:=B6I (F:=λx=>A1k x u) (s:=s) hS.ord hP.deep (f+1) _ a4 (by omega);rw[<-a7]at hd;have h1:A3a l ((A3m l)[j]'(by omega)+1) ((A3m l)[j]'(by omega):Nat)=1:=by
   rw[A3a,Z0e (by omega),a2];cases(A3m l)[j]'(by omega)with
   |zero=>rw[A3a]
   |succ q=>rw[A3a,Z0d (by omega)]
  omega
 .rw[A8f,A0o,A5M];omega
 .unfold B5C;have ad:(A8f u (A1P b (ts.take j) u.kids.length)).kind=0:=am;rw[ad,a1.1,p.1,c,Z0e (by simp),Z0e];intro ab;obtain⟨x,hx,o⟩:=Z2u.1 ab;obtain⟨t,h1,j',h2,h3,rfl⟩:=A8Q b _ _ x hx;obtain⟨q,hq,rfl⟩:=Z3g h1;have an:q<j:=by simp at hq;omega
  have ac:q<ts.length:=by omega
  obtain⟨f',r1,r2,r3⟩:=a8 q ac;have r:=C1C (F:=λx=>A1k x u) (l:=l) (s:=s) (f:=f') (n:=(A3m l)[q]'(by omega));rw[<-r2]at r;have w:=C4U b (j':Nat) ts[q].1 0 0;rw[List.getElem_take]at o;simp only[kl2,Z0g,Z0m]at o;rw[w.1,w.2,a1.1,a1.2,p.1,p.2,r.1,r.2]at o;have aj:(A3m l)[q]'(by omega)<(A3m l)[j]'(by omega):=Z3i.1 (C3f l) q j (by omega) (by omega) an;have ae:=(B8c (Z0u (show q<(A3m l).length by omega))).2;exact hP.dup _ a4 _ (by rw[a2];exact D4p aj ae) ⟨o.2,o.1⟩
 .rw[List.any_eq_false];intro y hy hc;obtain⟨z,hz,a3⟩:=Z2u.1 hc;have a3:z=y:=by simpa using a3
  subst a3;rw[A9A]at hy;obtain⟨y1,y2⟩:=B3V hy;rw[A8f,A0V]at hz;rcases Z0A.1 hz with hz|hz
  .rw[hz,ag]at y1;simp[idZ]at y1;omega
  .have:=B7W b _ _ z hz;rw[y2,Z0F]at this;omega
end
def B4B(u:A0a)(l:List A0S)(s:List A1R)(number day:Int):Int:=
 if A8c (λx=>A1k x u) u l≠0 then A8c (λx=>A1k x u) u l
 else if B6Z number day=true then 1
 else if((A0V u).tail.any λx=>decide (x.act=number))=true then 5
 else C5S u (A2D u l s)
def D0l(u:A0a)(l:List A0S)(s:List A1R)(number day:Int):D8i u l s number day=if B4B u l s number day=0 then .tuple [C0S number day (A1U u++A2u (A2D u l s)),.list 6 ((A7i number u (A2D u l s)).map A4W) .no,I 0]else A5A (B4B u l s number day):=by
 unfold D8i B4B
 simp only
 split
 .rfl
 split
 .rw[Z0e (by omega)]
 split
 .rw[Z0e (by omega)]
 split
 .rfl
 .rename_i h;rw[Z0d (by simpa using h)]
structure B7H (u:A0a) (l:List A0S) (s:List A1R) (number day:Int):Prop where
 plan:A8c (λx=>A1k x u) u l=0
 n1:1<=number
 n2:number<=1048576
 new:∀x∈(A0V u).tail,x.act≠number
 len:u.kids.length+(A2D u l s).length<=32
 fmt:∀t∈A2D u l s,A7C t.1=0
 sound:A7z u l
 slots:D4R u l
 kind:u.kind=0
 id:u.id=idZ
 right:A2l u=true
def C9x{a b:Int}(h:A9z a b=0):a=0/\b=0:=by
 unfold A9z at h;split at h
 .rename_i h1;rcases h1 with rfl|h1
  .simp at h
  .exact⟨h1,h⟩
 .rename_i h1;omega
def B8m:∀(ts:List A5R) (e:Int),A7J ts e=0->e=0/\∀t∈ts,C7K t=0
 |[],e,h=>⟨h,by simp⟩
 |t::ts,e,h=>by
  have h2:A7J ts (A9z e (C7K t))=0:=h;obtain⟨h3,h4⟩:=B8m ts _ h2;obtain⟨h5,h6⟩:=C9x h3;refine⟨h5,λq hq=>?_⟩;rcases Z0A.1 hq with rfl|hq
  .exact h6
  .exact h4 q hq
def D8w{u:A0a}(h:B2J u=true):u.id=idZ:=by
 simp only[B2J,C4k,Z0g,Z0m]at h;obtain⟨⟨c,⟨⟨hr,d⟩,hc⟩,a⟩,b⟩:=h;have e:(A0V u).Nodup:=by have:=A9f (A0V u) [] List.nodup_nil b;simpa using this
 unfold C4q at a;simp only[Z1H,Z0g,Z0t,Z0m,Z2I]at a;rcases a with h|h
 .exact h _ (B9z u)
 .have:=h.1;rw[Z0s c]at this;simpa using this
def C2j{u:A0a}{l:List A0S}{s:List A1R}{number day:Int}(hf:Fit u)(h:B4B u l s number day=0):B7H u l s number day:=by
 unfold B4B at h;split at h
 .rename_i h1;exact absurd h h1
 rename_i hp;simp only[ne_eq,Decidable.not_not]at hp;split at h
 .simp at h
 rename_i hb;split at h
 .simp at h
 rename_i hn;have hS:=C5h hf hp;have b:B2J u=true:=by
  unfold A8c at hp;split at hp
  .simp at hp
  .rename_i h1;simpa using h1
 have a:=b;simp only[B2J,C4k,Z0g,Z0m]at a;simp only[B6Z,Z1H,Z0m,Z2N]at hb;unfold C5S at h;split at h
 .simp at h
 rename_i h32;have c:=(B8m _ _ h).2;refine⟨hp,by omega,by omega,λx hx e=>?_,by omega,λt ht=>?_,hS,D5Q hS hp,a.1.1,D8w b,a.1.2.1.1.1⟩
 .refine hn (Z2u.2 ⟨x,hx,by simpa using e⟩)
 .have:=c t ht;unfold C7K at this;split at this
  .assumption
  .simp at this
section
variable {u:A0a} {l:List A0S} {s:List A1R} {number day:Int}
def C1F(hA:B7H u l s number day):(A0V u).Nodup:=hA.sound.nu
def D5L(gl:Nat->AV)(f:gl 0=A2z)(o:gl 1=A2S)(b:gl 3=.cptr [fnV 444,fnV 445])(hf:Fit u)(hl:l.length<=500)(k:∀s∈l,s.good)(ht:∀m∈s,m.to.length<=40)(hA:B7H u l s number day)(d:Int):∀i (h:i<(A1U u++A2u (A2D u l s)).length) M,A0d (WC gl) 133 [.agg (B5g u number (A2D u l s) i).row,.agg (enR number i d (A1U u++A2u (A2D u l s))[i])] M (λv M'=>v=.tuple [.agg (B5g u number (A2D u l s) (i+1)).row,I 0]/\M'=M):=by
 intro i h M
 have a:(A1U u).length=u.kids.length:=by simp[A1U]
 have e:(A2u (A2D u l s)).length=(A2D u l s).length:=by simp[A2u]
 rw[Z0v,a,e]at h
 have hn:=C1F hA
 by_cases hi:i<u.kids.length
 .have e1:(A1U u++A2u (A2D u l s))[i]'(by rw[Z0v];omega)=.rep [A3k,⟨u.kids[i].kind,u.kids[i].label⟩]:=by rw[Z4d (by omega)];simp only[A1U,Z2i];rw[C7n hn (Z0u hi)];rfl
  rw[e1,C4l _ _ (by omega),C4l _ _ (by omega)];obtain⟨k1,k2⟩:=C5A hA.right hA.kind hi;exact C2R gl b (A8f u (u.kids.drop i)) u.kids[i] (u.kids.drop (i+1)) number i d M (Z0j hi) (D5K hf i) (C9w hn i) k1 k2
 .obtain⟨j,rfl⟩:∃j,i=u.kids.length+j:=⟨i-u.kids.length,by omega⟩;have hj:j<(A2D u l s).length:=by omega
  have e1:(A1U u++A2u (A2D u l s))[u.kids.length+j]'(by rw[Z0v];omega)=.ins (A2D u l s)[j].1:=by rw[Z2J (by omega)];simp only[a,Z2n,A2u,Z2i]
  have hI:=D4S hf hA.sound hl k ht hA.slots hA.kind hA.id number hA.n1 hA.n2 hA.len hA.fmt hj;have c:=C4G gl f o b (B5g u number (A2D u l s) (u.kids.length+j)) (A2D u l s)[j].1 number (u.kids.length+j) d M hI.hf hI.hft hI.hbt hI.hkt hI.hvt hI.hw hI.hx hI.h64 hI.hdp hI.hcn hI.htk hI.hids;rw[e1];have e2:A8f (B5g u number (A2D u l s) (u.kids.length+j)) ((B5g u number (A2D u l s) (u.kids.length+j)).kids++[A2g number (u.kids.length+j:Nat) (A2D u l s)[j].1 0 0])=B5g u number (A2D u l s) (u.kids.length+j+1):=by rw[show u.kids.length+j+1=u.kids.length+(j+1)by omega,B7s,B7s];have g:(A2D u l s)[j]?=some (A2D u l s)[j]:=Z0l hj;rw[Z1k,g,B6s,Z0F,Z1E (by omega)];rfl
  rw[e2]at c;exact c
def B8M(gl:Nat->AV)(f:gl 0=A2z)(e:gl 1=A2S)(a:gl 3=.cptr [fnV 444,fnV 445])(hf:Fit u)(hl:l.length<=500)(c:∀s∈l,s.good)(ht:∀m∈s,m.to.length<=40)(hA:B7H u l s number day)(d:Int)(M:Mem):A0d (WC gl) 26 [.agg u.row,C0S number d (A1U u++A2u (A2D u l s))] M (λr M'=>r=.tuple [.agg (A6f u number (A2D u l s)).row,A0i]/\M'=M):=by
 have b:(A1U u++A2u (A2D u l s)).length=u.kids.length+(A2D u l s).length:=by simp[A1U,A2u]
 have h:=D6o gl u number d (A1U u++A2u (A2D u l s)) (B5g u number (A2D u l s)) M (by have:=hA.len;omega) (D3U _ _) (D5L gl f e a hf hl c ht hA d)
 rw[b,D6O]at h
 exact h
end
def D6q(u:A0a)(l:List A0S)(s:List A1R)(number:Int):AV:=if B4B u l s number 0=0 then .tuple [.agg (A6f u number (A2D u l s)).row,.list 6 ((A7i number u (A2D u l s)).map A4W) .no,I 0]else .tuple [.agg zU,A0i,I (B4B u l s number 0)]
def D2e(n:Nat)(D:List (IdD×IdD)):bdd n (.list 6 (D.map A4W) .no):=A7U (λx=>by simp[A4W,A1Q,bdd]) D
def C1m:A0D prog 27 []=some (.agg zU):=by simp[A0D,A1l,zU]
section
variable (gl:Nat->AV)
set_option maxHeartbeats 1000000 in
def D3z(q:gl 0=A2z)(p:gl 1=A2S)(z:gl 3=.cptr [fnV 444,fnV 445])(u:A0a)(l:List A0S)(s:List A1R)(number:Int)(M:Mem)(hf:Fit u)(hl:l.length<=500)(r:∀s∈l,s.good)(hs:s.length<=1000)(ht:∀m∈s,m.to.length<=40):A0d (WC gl) 24 [.agg u.row,.list 5 (A2C l) .no,.list 5 (A3P s) .no,I number] M (λv M'=>v=D6q u l s number/\M'=M):=by
 refine A0d.dataX ?_
 have a:=λM=>D5s gl q p u l s number 0 M hf (by omega) r hs ht
 rw[D0l]at a
 obtain⟨b,hb⟩:∃b,b=M.length:=⟨_,rfl⟩
 obtain⟨M1,i⟩:∃M1,M1=M++[z8]:=⟨_,rfl⟩
 have h1:M1[b]?=some z8:=by rw[i,hb];simp
 have k:Grow M M1:=by rw[i];exact A0c.app none _ _
 unfold D6q
 by_cases he:B4B u l s number 0=0
 .have g:=λM=>B8M gl q p z hf hl r ht (C2j hf he) 0 M;rw[Z0d he]at a|-;have a2:=D2e M.length (A7i number u (A2D u l s));obtain⟨y,hy⟩:∃y,y=A6f u number (A2D u l s):=⟨_,rfl⟩;rw[<-hy]at g|-;generalize(A7i number u (A2D u l s)).map A4W=D at*;generalize A1U u++A2u (A2D u l s)=f at*;obtain⟨M2,c⟩:∃M2,M2=M1++[A0l.cells 49 [I number,S A3t,I 0,I 1,I 0,eS,.list 25 (f.map A0W.row) .no]]:=⟨_,rfl⟩;have hq:M2[M1.length]?=some (A0l.cells 49 [I number,S A3t,I 0,I 1,I 0,eS,.list 25 (f.map A0W.row) .no]):=by rw[c];simp
  have d:Grow M1 M2:=by rw[c];exact A0c.app none _ _
  obtain⟨M3,o⟩:∃M3,M3=M2++[A0l.cells 27 y.row]:=⟨_,rfl⟩;have j:Grow M2 M3:=by rw[o];exact A0c.app none _ _
  have hp:A1D prog 27 M3 (.ptr M2.length 0)=some (.agg y.row):=by
   (have h:M3[M2.length]?=some (A0l.cells 27 y.row):=by rw[o];simp);rw[y.row_eq]at h|-
   rw[A0b h];simp
  have h3:=j.get (d.get h1 (by simp)) (by simp);have a0:b<M3.length:=(Z0b.1 h3).1;rw[C0S]at a g;rw[u.row_eq]at a g|-;refine A0j hB func24 ?_;simp -dsimp -implicitDefEqProofs[A0m];rw[<-i,<-hb];refine A0f func20 (a M1) ?_;simp -dsimp -implicitDefEqProofs[A0m,A0n,A0e];rw[<-c];simp -dsimp -implicitDefEqProofs[A0b hq];refine A0f func26 (g M2) ?_;simp -dsimp -implicitDefEqProofs[A0m,A0n,A0e];rw[<-o];simp -dsimp -implicitDefEqProofs[hp,A0h h3,A0y a0,A0k];exact⟨A1e (k.trans (d.trans j)) (by omega),.tuple (.same (by simp only[bdd];exact A2J _ _) (.same (by rw[hb];exact a2) (.same trivial .nil))) .nil⟩
 .rw[Z0e he]at a|-;obtain⟨e,t⟩:∃e,e=B4B u l s number 0:=⟨_,rfl⟩;rw[<-t]at he a|-;obtain⟨M2,c⟩:∃M2,M2=M1++[A0l.cells 49 [I 0,eS,I 0,I 0,I 0,eS,A0i]]:=⟨_,rfl⟩;have d:Grow M1 M2:=by rw[c];exact A0c.app none _ _
  have h2:=d.get h1 (by simp);have w:b<M2.length:=(Z0b.1 h2).1;rw[A5A,A5Z]at a;rw[u.row_eq]at a|-;refine A0j hB func24 ?_;simp -dsimp -implicitDefEqProofs[A0m];rw[<-i,<-hb];refine A0f func20 (a M1) ?_;simp -dsimp -implicitDefEqProofs[A0m,A0n,A0e,he];rw[<-c];have a3:A0n (some 8) M2 (.ptr b 0) (.agg zU)=some (M2.set b (.cells 27 zU)):=by rw[A0h h2];rfl
  have a1:A1g prog 27 zU=some (.agg zU):=by kernel_rfl
  simp -dsimp -implicitDefEqProofs[h2,A0y w];exact⟨A1e (k.trans d) (by omega),.tuple (.same (by simp[bdd,A1Q,zU]) (.same trivial (.same trivial .nil))) .nil⟩
end
section
variable (gl:Nat->AV) (M:Mem)
end
section
variable {u:A0a} {l:List A0S} {s:List A1R} {number day:Int}
def D8p(hf:Fit u)(hl:l.length<=500)(c:∀s∈l,s.good)(ht:∀m∈s,m.to.length<=40)(hA:B7H u l s number day):Fit (A6f u number (A2D u l s)):=by
 have d:A0o (A6f u number (A2D u l s))=l.length+1:=C1c (s:=s) hA.sound number;have b:inI number:=by have:=hA.n1;have:=hA.n2;simp only[inI];omega
 have e:=hA.len;refine B8D (u:=u) (ks:=A1P number (A2D u l s) u.kids.length) hf (λx hx=>?_) ?_
 .obtain⟨t,h1,j',h2,h3,rfl⟩:=A8Q number _ _ x hx;obtain⟨r1,r2⟩:=C1j (hA.fmt t h1);have hw:=B9j t.1 r1;obtain⟨n,hn,rfl⟩:=Z0J.1 h1;have f1:=B4Z hA.sound (by omega) c ht (A9c hn) (f:=l.length) (by omega);have hc:=f1.2.2;exact B5u (a:=number) (i:=j') b (by simp only[inI];omega) _ 0 0 f1.1 f1.2.1 (by omega) (by omega)
 .have:A0o (A6f u number (A2D u l s))=1+A0u (A1P number (A2D u l s) u.kids.length):=by rw[A6f,A0o]
  omega
def C9l(hA:B7H u l s number day):((A7i number u (A2D u l s)).map (·.1)).Nodup/\((A7i number u (A2D u l s)).map (·.2)).Nodup/\(A7i number u (A2D u l s)).length=l.length:=by
 have hS:=hA.sound;have e:=C9T (s:=s) hS number;have hn:(A0V u).tail.Nodup:=hS.nu.sublist (List.tail_sublist _);rw[show A7i number u (A2D u l s)=_ from e,Z1O,Z1O,Z0V];refine⟨?_,?_,hS.len.symm⟩
 .have:((λx:IdD×IdD=>x.1)∘λx=>(x,B5f u l s number x))=id:=rfl;rw[this,List.map_id];exact hn
 .unfold List.Nodup;rw[Z3V];refine Z2P ?_ hn;intro a b ha hb c e;exact c (D5k (s:=s) hS number ha hb e)
end
section
variable (gl:Nat->AV)
end
end Go.Abs
