/- The texts CyBase, CyS, CyA, CyB, CyC, CyD, CvSa, CvSb, CvSc, CvSd, CvSe, CvA, CvB, CaTypes, CbTypes, CeTypes. -/
import Derived.Test.YtmpdkagfplajjaaGreatDoorEG22
import Derived.Test.YtmpdkagfplajjaaGreatDoorEG21
import Derived.Test.YtmpdkagfplajjaaGreatDoorEG23
import Derived.Test.YtmpdkagfplajjaaGreatDoorEG12
import Derived.Test.YtmpdkagfplajjaaGreatDoorEG19
set_option linter.all false
set_option maxRecDepth 100000
namespace Go.Abs
open Go.Proofs Tryz
noncomputable def WC(gl:Nat->AV):Ctx:=⟨prog,gl,λ_=>none,λ_=>false⟩
@[simp] def E5T(gl:Nat->AV):(WC gl).P=prog:=rfl
@[simp] def E3H(gl:Nat->AV):(WC gl).data=λ_=>false:=rfl
@[simp] def E7B(gl:Nat->AV):(WC gl).gl=gl:=rfl
def hB:A2r:=⟨λ_=>true,λ_=>true,λ_=>false⟩
def hV:A2r:=⟨λ_=>false,λ_=>false,λ_=>true⟩
def hW:A2r:=⟨λ_=>true,λ_=>false,λ_=>true⟩
@[simp] def E5E:hW.imm=λ_=>true:=rfl
@[simp] def E6n:hW.own=λ_=>false:=rfl
@[simp] def E5u:hW.vec=λ_=>true:=rfl
@[simp] def E5K:hB.imm=λ_=>true:=rfl
@[simp] def E6C:hB.own=λ_=>true:=rfl
@[simp] def E6P:hB.vec=λ_=>false:=rfl
@[simp] def E5v:hV.own=λ_=>false:=rfl
@[simp] def E5Z:hV.vec=λ_=>true:=rfl
def A0I(gl:Nat->AV):(WC gl).P.follows .mixedOrders=true:=by kernel_rfl
attribute [simp] underlying22 underlying23 underlying24 underlying25 underlying26 underlying27 underlying28 underlying31 underlying68 underlying69 underlying85 underlying92 underlying93 underlying94 underlying96 underlying130 underlying150 underlying152 underlying242 underlying245 underlying247 underlying248 underlying249 underlying278 underlying321 underlying3 underlying4 underlying5 underlying9 underlying21 underlying37 underlying38 underlying39 underlying40 underlying110 underlying113 underlying114 underlying116 underlying159 underlying178 underlying215
attribute [simp] Env.of
def A1c(l:List ByteArray):List (List AV):=l.map λs=>[S s]
@[simp] def B5v(l:List ByteArray):(A1c l).length=l.length:=by simp[A1c]
section
variable {P:Program} {t e:TypeId} {s:ByteArray} {k k2:IntKind} {i j:Int}
@[simp] def D5g(h:P.underlying t=some .string):A2o P t (.val (.string s)) (some (.val (.int k i))) none none=if 0<=i/\i<=s.size then some (.val (.string (s.extract i.toNat s.size)))else none:=by
 by_cases hc:0<=i/\i<=s.size
 .simp[A2o,A3S,h,A1p,hc]
 .simp[A2o,A3S,h,A1p,hc]
@[simp] def D5t(h:P.underlying t=some .string):A2o P t (.val (.string s)) none (some (.val (.int k i))) none=if 0<=i/\i<=s.size then some (.val (.string (s.extract 0 i.toNat)))else none:=by
 by_cases hc:0<=i/\i<=s.size
 .simp[A2o,A3S,h,A1p,hc]
 .simp[A2o,A3S,h,A1p,hc]
variable {sz:Nat} {rows:List (List AV)} {own:Own}
@[simp] def D3H(h:A0S P t=some e)(hs:A1b P e=some sz):A2o P t (.list sz rows own) (some (.val (.int k i))) none none=if 0<=i/\i<=rows.length then some (.list sz (rows.drop i.toNat) (A9E rows.length i.toNat rows.length none own))else none:=by
 by_cases hc:0<=i/\i<=rows.length
 .simp[A2o,A3S,A4b,h,hs,A1p,hc]
 .simp[A2o,A3S,A4b,h,hs,A1p,hc]
@[simp] def D1k(h:A0S P t=some e)(hs:A1b P e=some sz):A2o P t (.list sz rows own) (some (.val (.int k i))) (some (.val (.int k2 j))) none=if 0<=i/\i<=j/\j<=rows.length then some (.list sz ((rows.take j.toNat).drop i.toNat) (A9E rows.length i.toNat j.toNat none own))else none:=by
 by_cases hj:0<=j/\j<=rows.length
 .by_cases hc:0<=i/\i<=(j.toNat:Int)
  ·(have:0<=i/\i<=j/\j<=rows.length:=by omega);simp[A2o,A3S,A4b,h,hs,A1p,hj,hc.1,show i<=max j 0 from by omega];omega
  ·(have:¬(0<=i/\i<=j/\j<=rows.length):=by omega);rw[Z0e this]
   simp only[A2o,A3S,A4b,h,hs,A1p,Z3p,Z0d hj,Z0e hc,Z2D,Z2O,Z0F]
 .have:¬(0<=i/\i<=j/\j<=rows.length):=by omega
  simp only[A2o,A3S,A4b,h,hs,A1p,Z3p,Z0e hj,Z0e this];simp
end
def A1T{C}{f}{fn}{c}{args}{M}{Q:AV->Mem->Prop}(hf:C.P.funcs[f]?=some fn)(hb:fn.body=some c)(hn:(fn.name== "runtime.NumGoroutine")=false)(h:A0e C f args M Q):A3V C f args M Q:=.inl ⟨A9m hf hb hn,h⟩
def A0Z{n}(h1:-9223372036854775808<=n)(h2:n<=9223372036854775807):IntKind.i64.wrap n=n:=IntWalk.i64_in _ ⟨h1,h2⟩
structure A0G where
 k:Int
 lab:ByteArray
def A0G.row(s:A0G):List AV:=[I s.k,S s.lab]
abbrev A8K(p:List A0G):AV:=.list 2 (p.map A0G.row) .no
structure A1w where
 k:Int
 path:List A0G
 to:ByteArray
 frm:Int
 at_:Int
def A1w.row(c:A1w):List AV:=[I c.k,A8K c.path,S c.to,I c.frm,I c.at_]
abbrev A1w.v(c:A1w):AV:=.agg c.row
open Go.Proofs
def A5q(e:TypeId)(M:Mem)(v:AV)(cs:List AV):Prop:=(v=.val (.slice none 0 0)/\cs=[])\/∃f g hist,v=.vref f g 1 0 cs.length/\M[f]?=some (.vec e 1 cs g hist)/\hist.lookup g=some cs.length
def A5q.lt{e:TypeId}{M}{v}{cs}(h:A5q e M v cs){f}(hf:obj v=some f):f<M.length:=by
 rcases h with⟨rfl,_⟩|⟨f',g,a,rfl,hm,_⟩
 .simp at hf
 .simp at hf;subst hf;exact(Z0b.1 hm).1
def A5q.keep{e:TypeId}{M M'}{v}{cs}(h:A5q e M v cs){o}(hk:A0c o M M')(ho:∀f,obj v=some f->o≠some f):A5q e M' v cs:=by
 rcases h with⟨rfl,h⟩|⟨f',g,a,rfl,hm,hl⟩
 .exact .inl ⟨rfl,h⟩
 .exact .inr ⟨f',g,a,rfl,hk.get hm (ho _ rfl),hl⟩
def A5q.src{e:TypeId}{M}{v}{cs}(h:A5q e M v cs):A0A M 1 v=some (cs,cs.length):=by
 rcases h with⟨rfl,rfl⟩|⟨f',g,a,rfl,hm,hl⟩
 .rfl
 .simp[A0A,hm,hl]
def A5q.len{e:TypeId}{M}{v}{cs}(h:A5q e M v cs){P}{t:TypeId}(ht:P.underlying t=some (.slice e)):A1V P t v=some cs.length:=by rcases h with⟨rfl,rfl⟩|⟨f',g,a,rfl,hm,hl⟩<;>simp[A1V,ht]
section
variable {C:Ctx} {M:Mem} {K:AV->Mem->Prop}
def push{own vec}{st xt e:TypeId}{bytes m}{s x}{cs news}{tg}(h1:A0S C.P st=some e)(h2:A3W C.P xt)(h3:A3j C.P e 1 bytes)(ho:A5q e M s cs)
 (hx:A0A M 1 x=some (news,m))(hm:news.length=m)(hb:(cs.length+m)*bytes<=140737488355328)(b:vec=true)
 (hk:∀v' M',A5q e M' v' (cs++news)->A0c (obj s) M M'->(obj v'=obj s\/A1m M.length v')->(news=[]->v'=s/\M'=M)->K v' M'):A5H C own vec st xt s x M K tg:=by
 subst b
 rcases ho with⟨rfl,rfl⟩|⟨f,g,a,rfl,hf,hl⟩
 .refine A6U h1 h2 h3 (by rfl) hx hb (by simp only[A3a,hx]) ?_ rfl;simp only[A2H,hx];by_cases h0:m=0
  .rw[Z0d h0];have hn:news=[]:=Z0s (by omega);subst hn;exact hk _ _ (.inl ⟨rfl,rfl⟩) (A0c.refl _ _) (.inl rfl) λ_=>⟨rfl,rfl⟩
  .rw[Z0e h0];(refine hk _ _ (.inr ⟨M.length,0,[(0,m)],by simp[hm],by simp,by simp[List.lookup,hm]⟩) (.app _ _ _) (.inr ?_) λhn=>by subst hn;simp at hm;omega);intro f hf;simp at hf;omega
 .have d:A0A M 1 (.vref f g 1 0 cs.length)=some (cs,cs.length):=A5q.src (.inr ⟨f,g,a,rfl,hf,hl⟩);refine A6U h1 h2 h3 d hx hb ?_ ?_ rfl
  .simp only[A3a,hx,hf,hl];by_cases h0:0<m<;>simp<;>omega
  .simp only[A2H,hx,hf,hl];rw[Z0d (by simp)];by_cases h0:m=0
   .rw[Z0d h0];have hn:news=[]:=Z0s (by omega);subst hn;simp only[Z1D]at hk;exact hk _ _ (.inr ⟨f,g,a,rfl,hf,hl⟩) (A0c.refl _ _) (.inl rfl) λ_=>⟨rfl,rfl⟩
   .rw[Z0e h0];have c:f<M.length:=(Z0b.1 hf).1;refine hk _ _ (.inr ⟨f,g+1,(g+1,cs.length+m)::a.filter (λp=>decide (p.2<=cs.length)),by simp[hm],by simp[c,Z0j],by simp[List.lookup,hm]⟩) (.set _ _ _) (.inl rfl) λhn=>by subst hn;simp at hm;omega
end
section
variable (gl:Nat->AV) (M:Mem)
def C9j(a b:A1w):A0e (WC gl) 61 [a.v,b.v] M (λv M'=>v=B (decide (a.frm=b.frm/\a.at_=b.at_))/\M'=M):=by
 refine A0m hB func61 ?_;by_cases h1:a.frm=b.frm
 .simp -dsimp -implicitDefEqProofs[Env.of,A1w.row,h1];by_cases h2:a.at_=b.at_<;>simp[h2]
 .simp -dsimp -implicitDefEqProofs[Env.of,A1w.row,h1]
def A5l(c:Int):Bool:=decide (c=44)||decide (c=59)||decide (c=46)||decide (c=58)||decide (c=41)
def B1M(s:ByteArray):ByteArray:=if s.size=0 then .empty else if A5l (A1I s (s.size-1))then s.extract (s.size-1) s.size else .empty
def A8e{s:ByteArray}:s=⟨#[]⟩<->s.size=0:=by
 constructor
 .rintro rfl;rfl
 .intro h;refine D4L ?_;have:s.data.size=0:=h;simp[Array.eq_empty_of_size_eq_zero this]
end
open Go.Proofs TryTypes Tryz
def A4l(M:Mem)(l:List ByteArray)(v:AV)(M':Mem):Prop:=A5q 9 M' v (l.map S)/\A0c none M M'/\A1m M.length v
def C7c(l:List ByteArray):(A1c l).flatten=l.map S:=by
 induction l with
 |nil=>rfl
 |cons a l ih=>simp only[A1c,Z0t,Z0T]at ih|-;rw[ih];rfl
def D9F(M:Mem)(l:List ByteArray)(o:Own):A0A M 1 (.list 1 (A1c l) o)=some (l.map S,l.length):=by simp[A0A,C7c]
@[simp] def D8M{M}:A1H prog 37 0 [] M=some (.vref M.length 0 1 0 0,M++[.vec 9 1 [] 0 [(0,0)]]):=by simp[A1H,A1f]
def D0Z(M:Mem):A5q 9 (M++[.vec 9 1 [] 0 [(0,0)]]) (.vref M.length 0 1 0 0) []:=.inr ⟨M.length,0,[(0,0)],rfl,by simp,by simp[List.lookup]⟩
def C3e{M M':Mem}{X:A0j}{v':AV}{l:List ByteArray}(h1:A5q 9 M' v' (l.map S))(h2:A0c (some M.length) (M++[X]) M')(h3:obj v'=some M.length\/A1m (M++[X]).length v'):A4l M l v' M':=by
 refine⟨h1,⟨by have:=h2.1;simp at this;omega,λi hi _=>?_⟩,?_⟩
 .rw[h2.2 i (by simp;omega) (by simp;omega),Z0h hi]
 .intro f hf;rcases h3 with h|h
  .rw[h]at hf;simp at hf;omega
  .have:=h f hf;simp at this;omega
section
variable (gl:Nat->AV) (M:Mem)
def C6G(l:List ByteArray)(o:Own)(hl:l.length*16<=140737488355328):A0e (WC gl) 59 [.list 1 (A1c l) o] M (A4l M l):=by
 refine A0m hW func59 ?_;have tail:∀(K:AV->Mem->Prop) (tg:Tag K),(∀v M',A4l M l v M'->K v M')->A5H (WC gl) (A1O hW.own (some 7)) (A1O hW.vec (some 7)) 37 37 (.vref M.length 0 1 0 0) (.list 1 (A1c l) o) (M++[.vec 9 1 [] 0 [(0,0)]]) K tg:=by intro K tg hk;refine push (C:=WC gl) (e:=9) A8j B0S B8l (D0Z M) (D9F _ l o) (by simp) (by simp;omega) rfl ?_;intro v' M' h1 h2 h3 _;exact hk _ _ (C3e (by simpa using h1) h2 h3)
 cases l with
 |nil=>
  simp -dsimp -implicitDefEqProofs[A1c];rw[A8M (.inl rfl) underlying37];intro b;cases b
  .simp -dsimp -implicitDefEqProofs;refine tail _ _ λv M' h=>?_;simp -dsimp -implicitDefEqProofs;exact h
  .simp -dsimp -implicitDefEqProofs[A4l,A5q,A0c.refl,A1m]
 |cons a l=>simp -dsimp -implicitDefEqProofs[A1c];refine tail _ _ λv M' h=>?_;simp -dsimp -implicitDefEqProofs;exact h
end
section
variable (gl:Nat->AV) (M:Mem)
def D6a{h}{d}{x}{t:TypeId}{p}{af}{g}{ρ:Operand->AV}{M}{b}{a buf}(hx:ρ x=.ptr b 0)(hM:M[b]?=some (.cells 116 [a,buf])):A0w (WC gl) h ⟨d,.convert 113 215 x,t,p,af,g⟩ ρ M=some (.ptr b 0,M):=by simp[A0w,A0n,A0T,A0P,A0B,A2G,hx,A6L,B5T,hM,B0e]
def D2b{h}{d}{x}{t:TypeId}{p}{af}{g}{ρ:Operand->AV}{M}{b}{a buf}(hx:ρ x=.ptr b 0)(hM:M[b]?=some (.cells 116 [a,buf])):A0w (WC gl) h ⟨d,.convert 215 113 x,t,p,af,g⟩ ρ M=some (.ptr b 0,M):=by
 simp[A0w,A0n,A0T,A0P,A0B,A2G,hx,A6L,B5T,hM,B0e]
 kernel_rfl
@[simp] def D9g{P}{a b:TypeId}{x o}:A6L P a b (.ptr x o)=none:=by unfold A6L;split<;>simp_all
def List.set_eq_of_getElem?{α:Type}{l:List α}{i:Nat}{a:α}(h:l[i]?=some a):l.set i a=l:=by
 apply Z1F;intro j;rw[Z2j];split
 .rename_i e;subst e;obtain⟨h1,h2⟩:=Z0b.1 h;simp[h1,h2]
 .rfl
def D5x(M:Mem)(v:AV):A3V (WC gl) 170 [v] M (λr m=>r=v/\m=M):=(C5J (C:=WC gl) func170 rfl rfl (by kernel_rfl) (by kernel_rfl) [v] M v M [] rfl).1
@[simp] def E0m{P}{t:TypeId}{op}{y}{f:AV->Prop}{tg}:B9t P op t (.val (.pointer none)) y f tg=A1i (A1B P op t (.val (.pointer none)) y) f ⟨⟩:=C4f
@[simp] def D3E{P}{t e:TypeId}(h:P.underlying t=some (.pointer e)):A1B P .eql t (.val (.pointer none)) (.val (.pointer none))=some (.val (.bool true)):=by simp[A1B,A3I,A4J,h,A3q,B4I]
def C2N(b:Nat)(a c:AV)(hM:M[b]?=some (.cells 116 [a,c]))(ha:a=.val (.pointer none)\/a=.ptr b 0):A0e (WC gl) 118 [.ptr b 0] M (λv M'=>M'=M.set b (.cells 116 [.ptr b 0,c])):=by
 refine A0m hB func118 ?_
 rcases ha with rfl|rfl
 .simp -dsimp -implicitDefEqProofs[A0b hM,A0f hM];rw[D6a gl (by rfl) hM];simp -dsimp -implicitDefEqProofs;refine A4o (D5x gl _ _) ?_;rintro r M' ⟨rfl,rfl⟩;simp -dsimp -implicitDefEqProofs;rw[D2b gl (by rfl) hM];have d:b<M'.length:=(Z0b.1 hM).1;simp -dsimp -implicitDefEqProofs[A0f hM,A0d,AV.storable,d,B0X]
 .simp -dsimp -implicitDefEqProofs[A0b hM,A0f hM,B0X];rw[List.set_eq_of_getElem? hM]
def A6E(s:ByteArray):List AV:=s.data.toList.map λb=>.val (.int .u8 b.toNat)
@[simp] def C7L(s:ByteArray):(A6E s).length=s.size:=by simp[A6E]
def C7f(a b:ByteArray):A6E (a++b)=A6E a++A6E b:=by simp[A6E,B4R]
def Bld(n b:Nat)(M:Mem)(bs:ByteArray):Prop:=n<=b/\∃a buf,M[b]?=some (.cells 116 [a,buf])/\(a=.val (.pointer none)\/a=.ptr b 0)/\A5q 5 M buf (A6E bs)/\(∀f,obj buf=some f->n<=f/\f≠b)/\(bs.size=0->buf=.val (.slice none 0 0))
def A0W(n:Nat)(M M':Mem):Prop:=M.length<=M'.length/\∀i,i<n->M'[i]?=M[i]?
def A0W.refl(n:Nat)(M:Mem):A0W n M M:=⟨Z0n _,λ_ _=>rfl⟩
def A0W.trans{n}{A B C}(h1:A0W n A B)(h2:A0W n B C):A0W n A C:=⟨Z0Q h1.1 h2.1,λi hi=>(h2.2 i hi).trans (h1.2 i hi)⟩
def A0W.get{n}{A B}(h:A0W n A B){i}(hi:i<n){X}(hx:A[i]?=some X):B[i]?=some X:=by rw[h.2 i hi,hx]
def A0c.low{o}{A B}(h:A0c o A B){n}(hn:n<=A.length)(ho:∀f,o=some f->n<=f):A0W n A B:=⟨h.1,λi hi=>h.2 i (by omega) λe=>by have:=ho i e;omega⟩
def A0W.set{n f}(M:Mem)(X:A0j)(h:n<=f):A0W n M (M.set f X):=⟨by simp,λi hi=>by rw[Z0f (by omega)]⟩
def C6e(n b:Nat)(bs s:ByteArray)(h:Bld n b M bs)(q:bs.size+s.size<=140737488355328)(hn:n<=M.length):A0e (WC gl) 62 [.ptr b 0,S s] M (λv M'=>Bld n b M' (bs++s)/\A0W n M M'):=by
 obtain⟨k,a,c,hM,ha,ho,d,h0⟩:=h
 have p:b<M.length:=(Z0b.1 hM).1
 refine A0m hW func62 ?_
 simp -dsimp -implicitDefEqProofs
 refine A0r func118 (C2N gl M b a c hM ha) ?_
 rintro r M1 rfl
 have o:(M.set b (.cells 116 [.ptr b 0,c]))[b]?=some (.cells 116 [.ptr b 0,c]):=by simp[p]
 simp -dsimp -implicitDefEqProofs[A0b o]
 have t:A5q 5 (M.set b (.cells 116 [.ptr b 0,c])) c (A6E bs):=ho.keep (.set M b _) λf hf=>by have:=(d f hf).2;simp;omega
 refine push (C:=WC gl) (e:=5) D5U (.inr (by kernel_rfl)) E5z t (news:=A6E s) (m:=s.size) rfl (by simp) (by simpa using q) rfl ?_
 intro v' M' p1 p2 p3 p4
 have j:M'[b]?=some (.cells 116 [.ptr b 0,c]):=p2.get o λe=>(d b e).2 rfl
 have u:bs.size+s.size=0->v'=.val (.slice none 0 0):=λe=>by have:A6E s=[]:=Z0s (by rw[C7L];omega);rw[(p4 this).1];exact h0 (by omega)
 have i:∀f,obj v'=some f->n<=f/\f≠b:=by
  intro f hf;rcases p3 with e|e
  .rw[e]at hf;exact d f hf
  .have:=e f hf;simp at this;omega
 have fin:∀(w:AV) (hw:w=v'),Bld n b (M'.set b (.cells 116 [.ptr b 0,w])) (bs++s)/\A0W n M (M'.set b (.cells 116 [.ptr b 0,w])):=by
  intro w hw;subst hw;have l:b<M'.length:=(Z0b.1 j).1;refine⟨⟨k,.ptr b 0,w,by simp[l],.inr rfl,?_,i,by simpa using u⟩,?_⟩
  .rw[C7f];exact p1.keep (.set M' b _) λf hf=>by have:=(i f hf).2;simp;omega
  .refine((A0W.set M _ k).trans (p2.low (by simp;exact hn) λf hf=>(d f hf).1)).trans (.set M' _ k)
 rcases p1 with⟨e,_⟩|⟨f,g,y,e,_,_⟩
 .rw[e]at fin|-;simp -dsimp -implicitDefEqProofs[A0f j,A0d];exact fin _ rfl
 .rw[e]at fin|-;simp -dsimp -implicitDefEqProofs[A0f j,A0d];exact fin _ (by simp)
def C1f:∀l:List UInt8,A9X (l.map λb=>AV.val (.int .u8 b.toNat))=some l
 |[]=>rfl
 |a::l=>by have:=a.toNat_lt;simp only[Z0t,A9X];rw[Z0d ⟨by omega,by omega⟩,C1f l];simp
def D6V(s:ByteArray):A9X (A6E s)=some s.data.toList:=C1f _
def D0L(n b:Nat)(bs:ByteArray)(h:Bld n b M bs)(y:bs.size<=140737488355328)(hn:n<=M.length):A0e (WC gl) 64 [.ptr b 0] M (λv M'=>v=S bs/\A0W n M M'):=by
 obtain⟨u,a,w,hM,ha,ho,q,h0⟩:=h
 have t:b<M.length:=(Z0b.1 hM).1
 refine A0m hW func64 ?_
 rcases ho with⟨rfl,he⟩|⟨f,g,s,rfl,hf,hl⟩
 .have hs:bs.size=0:=by have:=congrArg List.length he;simpa using this
  have he:bs=⟨#[]⟩:=A8e.2 hs;simp -dsimp -implicitDefEqProofs;refine B9R hW (A0I gl) (λk=>if k=3\/k=8 then 1 else if k=4\/k=10 then 2 else 0) b (by rfl) (by kernel_rfl) ?_;simp -dsimp -implicitDefEqProofs[A0b hM,A3x,A2k,he,A0W.refl];rfl
 .have hs:bs.size≠0:=λe=>by have:=h0 e;simp at this
  have d:=q f rfl;simp -dsimp -implicitDefEqProofs;refine B9R hW (A0I gl) (λk=>if k=3\/k=8 then 1 else if k=4\/k=10 then 2 else 0) b (by rfl) (by kernel_rfl) ?_;have l:¬bs=ByteArray.empty:=λe=>hs (by rw[e];rfl);have i:0<bs.size:=by omega
  have p:prog.cellsOf 5=1:=by kernel_rfl
  have r:(bs.size:Int)<=9223372036854775807:=by omega
  have m:List.take bs.size (A6E bs)=A6E bs:=Z0j (by simp);have j:¬f=b:=d.2;have o:(⟨bs.data.toList.toArray⟩:ByteArray)=bs:=by simp
  have c:A0W n M (M.set f .gone):=.set M _ d.1;simp -dsimp -implicitDefEqProofs[A0b hM,A3x,A2k,hf,hl,l,i,p,r,m,D6V,j,o,c]
end
section
variable (gl:Nat->AV) (M:Mem)
def A6v:ByteArray:=⟨#[44,59,46,58,41]⟩
def A6R(c:Int):Int:=if c=44 then 0 else if c=59 then 1 else if c=46 then 2 else if c=58 then 3 else if c=41 then 4 else -1
def C5U(c:Int):decide (0<=A6R c)=A5l c:=by
 unfold A6R A5l;by_cases h1:c=44
 .simp[h1]
 by_cases h2:c=59
 .simp[h2]
 by_cases h3:c=46
 .simp[h3]
 by_cases h4:c=58
 .simp[h4]
 by_cases h5:c=41
 .simp[h5]
 simp[h1,h2,h3,h4,h5]
def D0V(c:UInt8):(match(List.range A6v.size).find? λi=>A6v[i]! ==c with
 |some i=>goInt i
 |none=>goInt (-1))=.int .i64 (A6R (c.toNat:Int)):=by
 have key:∀n:Fin 256,(match(List.range A6v.size).find? λi=>A6v[i]! ==UInt8.ofNat n.val with
  |some i=>(i:Int)
  |none=>-1)=A6R (n.val:Int):=by decide+kernel
 have k:=key ⟨c.toNat,c.toNat_lt⟩
 simp only[UInt8.ofNat_toNat]at k
 rw[<-k]
 cases(List.range A6v.size).find? λi=>A6v[i]! ==c<;>rfl
def D2W(c:UInt8):A3V (WC gl) 344 [S A6v,.val (.int .u8 c.toNat)] M (λr m=>r=I (A6R c.toNat)/\m=M):=by refine(B2F (C:=WC gl) func344 rfl rfl (by kernel_rfl) (by kernel_rfl) [S A6v,.val (.int .u8 c.toNat)] M _ M [] rfl).1.mono ?_;rintro r m ⟨rfl,rfl⟩;refine⟨?_,rfl⟩;have:=D0V c;simp only[Int.toNat_natCast,Nat.toUInt8_eq,UInt8.ofNat_toNat];exact congrArg AV.val this
def C4Y(c:UInt8):A0e (WC gl) 271 [S A6v,.val (.int .u8 c.toNat)] M (λr m=>r=I (A6R c.toNat)/\m=M):=by refine A0m hB func271 ?_;simp -dsimp -implicitDefEqProofs;refine A4o (D2W gl M c) ?_;rintro r m ⟨rfl,rfl⟩;simp -dsimp -implicitDefEqProofs
def D3b(t:ByteArray)(ht:t.size=1):A0e (WC gl) 220 [S A6v,S t] M (λr m=>r=I (A6R (A1I t 0))/\m=M):=by
 refine A0m hB func220 ?_;have a:¬t=A6v:=λe=>by rw[e]at ht;revert ht;decide
 simp -dsimp -implicitDefEqProofs[ht,a];refine A0r func271 (C4Y gl M (t.data.getD 0 0)) ?_;rintro r m ⟨rfl,rfl⟩;simp -dsimp -implicitDefEqProofs[A1I]
def D2p(t:ByteArray)(ht:t.size=1):A0e (WC gl) 171 [S A6v,S t] M (λr m=>r=I (A6R (A1I t 0))/\m=M):=by refine A0m hB func171 ?_;simp -dsimp -implicitDefEqProofs;refine A0r func220 (D3b gl M t ht) ?_;rintro r m ⟨rfl,rfl⟩;simp -dsimp -implicitDefEqProofs
def C5T(t:ByteArray)(ht:t.size=1):A0e (WC gl) 119 [S A6v,S t] M (λr m=>r=B (A5l (A1I t 0))/\m=M):=by refine A0m hB func119 ?_;simp -dsimp -implicitDefEqProofs;refine A0r func171 (D2p gl M t ht) ?_;rintro r m ⟨rfl,rfl⟩;simp -dsimp -implicitDefEqProofs[<-C5U]
def A7X{s}{i j k}(h:i+k<j)(hj:j<=s.size):A1I (s.extract i j) k=A1I s (i+k):=by
 have h1:k<(s.extract i j).size:=by simp;omega
 have h2:i+k<s.size:=by omega
 have e:(s.extract i j)[k]=s[i+k]:=ByteArray.getElem_extract h1;have g:∀(t:ByteArray) (n:Nat) (h:n<t.size),A1I t n=(t[n].toNat:Int):=by intro t n h;have h':n<t.data.size:=h;simp only[A1I,Z3G,Z0P h',Z1B];rfl
 rw[g _ _ h1,g _ _ h2,e]
def D6e(s:ByteArray)(hs:s.size<=maxLen):A0e (WC gl) 63 [S s] M (λv M'=>v=S (B1M s)/\M'=M):=by
 refine A0m hB func63 ?_;by_cases h0:s.size=0
 .have he:s=⟨#[]⟩:=A8e.2 h0;simp -dsimp -implicitDefEqProofs[he];rfl
 .have he:¬s=⟨#[]⟩:=λh=>h0 (A8e.1 h);have hw:IntKind.i64.wrap ((s.size:Int)-1)=(s.size-1:Nat):=by rw[A0Z (by omega) (by simp only[maxLen]at hs;omega)];omega
  have b:s.size-1<s.size:=by omega
  have d:s.size-1<=s.size:=by omega
  have a:B1M s=if A5l (A1I s (s.size-1))then s.extract (s.size-1) s.size else .empty:=by rw[B1M,Z0e h0]
  have c:A1I (s.extract (s.size-1) s.size) 0=A1I s (s.size-1):=A7X (by omega) (by omega);simp -dsimp -implicitDefEqProofs[he,hw,b];refine A0r func119 (C5T gl M (s.extract (s.size-1) s.size) (by simp;omega)) ?_;rintro r m ⟨rfl,rfl⟩;rw[c];cases hb:A5l (A1I s (s.size-1))
  .rw[hb]at a;simp -dsimp -implicitDefEqProofs[a];rfl
  .rw[hb]at a;simp -dsimp -implicitDefEqProofs[hw,a,b]
end
open Go.Proofs TryTypes
section
variable (gl:Nat->AV) {α:Type} {enc:α->List AV} {c:α->α->Int} {fid:FuncId} {first cap:List AV} {f g n:Nat} {M0:Mem}
end
def A2s{i:Nat}(h:i<=1000000):IntKind.i64.wrap ((i:Int)+1)=((i+1:Nat):Int):=by rw[A0Z (by omega) (by omega)];omega
section
variable (gl:Nat->AV) {α:Type} {enc:α->List AV} {c:α->α->Int} {fid:FuncId} {first cap:List AV} {f g n:Nat} {M0:Mem}
end
section
variable (gl:Nat->AV) {α:Type} {enc:α->List AV} {c:α->α->Int} {fid:FuncId} {first cap:List AV} {f g n:Nat} {M0:Mem}
end
section
variable (gl:Nat->AV) {α:Type} {enc:α->List AV} {c:α->α->Int} {fid:FuncId} {first cap:List AV} {f g n:Nat} {M0:Mem}
end
section
variable (gl:Nat->AV) {α:Type} {enc:α->List AV} {c:α->α->Int} {fid:FuncId} {first cap:List AV} {f g n:Nat} {M0:Mem}
end
section
variable (gl:Nat->AV) (M:Mem)
end
def A7P(l:List A0M):Bool:=l.all (λw=>decide (w.text.size<=100))&&decide (l.length<=300)
mutual
def B1L:A0a->Bool
 |.mk _ _ l h w ks=>decide (l.size<=30)&&A7P h&&A7P w&&B0a ks
def B0a:List A0a->Bool
 |[]=>true
 |k::ks=>B1L k&&B0a ks
end
mutual
def A9B:A0a->Int->Int->Int
 |.mk _ _ _ _ _ ks,deep,most=>if 20<deep then most+1 else A7M ks deep most 1
def A7M:List A0a->Int->Int->Int->Int
 |[],_,_,n=>n
 |k::ks,deep,most,n=>if n<=most then A7M ks deep most (n+A9B k (deep+1) (most-n))else n
end
mutual
def C4s:∀(u:A0a) (b a:Int),0<=a->1<=A9B u b a/\A9B u b a<=a+1
 |.mk _ _ _ _ _ ks,b,a,h=>by
  rw[A9B];split
  .omega
  .exact C6t ks b a 1 h (by omega) (by omega)
def C6t:∀(ks:List A0a) (b a n:Int),0<=a->1<=n->n<=a+1->1<=A7M ks b a n/\A7M ks b a n<=a+1
 |[],b,a,n,h,h1,h2=>by rw[A7M];exact⟨h1,h2⟩
 |k::ks,b,a,n,h,h1,h2=>by
  rw[A7M];split
  .have:=C4s k (b+1) (a-n) (by omega);exact C6t ks b a _ h (by omega) (by omega)
  .exact⟨h1,h2⟩
end
def B6v(u:A0a)(most:Int):Bool:=decide (A9B u 0 most<=most)&&B1L u
section
variable (gl:Nat->AV) (M:Mem)
def C1m(l:List A0M)(o:Own)(hl:l.length<=maxLen):A0e (WC gl) 149 [.list 4 (A0i l) o] M (λv M'=>v=B (A7P l)/\M'=M):=by
 refine A0m hB func149 ?_;have e:l.length<=9223372036854775807:=by simpa[maxLen]using hl
 simp -dsimp -implicitDefEqProofs;refine A0F hB l.length 3 (λT M1=>∃i:Nat,i<=l.length/\T 0=.list 4 (A0i l) o/\T 3=I i/\M1=M/\A7P l=((l.drop i).all (λw=>decide (w.text.size<=100))&&decide (l.length<=300))) ?_ ?_
 .exact⟨0,by omega,by simp,by simp,rfl,by simp[A7P]⟩
 .rintro T M1 ⟨i,i1,t0,t3,rfl,ho⟩;by_cases hi:i<l.length
  ·(have b:(i:Int)<l.length:=by omega);have w1:IntKind.i64.wrap ((i:Int)+1)=(i+1:Nat):=by rw[A0Z (by omega) (by omega)];omega
   have hd:l.drop i=l[i]::l.drop (i+1):=Z0l hi;rw[hd,Z1C]at ho;by_cases h0:l[i].text.size<=100
   ·(have a:¬(100:Int)<l[i].text.size:=by omega);have c:¬(l[i].text.size:Int)>100:=a
    rw[Z0w h0,Z0J]at ho;simp -dsimp -implicitDefEqProofs[t0,t3,hi,b,a,c,w1,A0M.row];exact⟨⟨i+1,by clear w1;omega,rfl,ho⟩,by clear w1;omega⟩
   ·(have a:(100:Int)<l[i].text.size:=by omega);have c:(l[i].text.size:Int)>100:=a
    rw[Z0z h0,Z0L,Z0L]at ho;simp -dsimp -implicitDefEqProofs[t0,t3,hi,b,a,c,A0M.row,ho]
  ·(have b:¬(i:Int)<l.length:=by omega);rw[show l.drop i=[]from Z0x (by omega),Z3X,Z0J]at ho
   simp -dsimp -implicitDefEqProofs[t0,t3,b,ho];by_cases h3:l.length<=300
   ·(have d:(l.length:Int)<=300:=by omega);simp[h3,d]
   ·(have d:¬(l.length:Int)<=300:=by omega);simp[h3,d]
end
section
variable (gl:Nat->AV)
def C1Q:∀(u:A0a) (M:Mem),u.good->A0e (WC gl) 101 [.agg u.row] M (λv M'=>v=B (B1L u)/\M'=M)
 |.mk id kind lab hd ws ks,M,hg=>by
  obtain⟨_,_,_,hh,_,hw,_,hk,g⟩:=(A0a.good_iff _).1 hg;have h:ks.length<=9223372036854775807:=hk;refine A0m hB func101 ?_;have a:B1L (.mk id kind lab hd ws ks)=(decide (lab.size<=30)&&A7P hd&&A7P ws&&B0a ks):=by rw[B1L]
  by_cases h1:lab.size<=30;case neg=>
   (have b:(30:Int)<lab.size:=by omega);have d:(lab.size:Int)>30:=b
   rw[Z0z h1]at a;simp only[Z0L]at a;simp -dsimp -implicitDefEqProofs[A0a.row,b,d,a]
  have b:¬(30:Int)<lab.size:=by omega
  have d:¬(lab.size:Int)>30:=b;rw[Z0w h1,Z0J]at a;simp -dsimp -implicitDefEqProofs[A0a.row,b,d];refine A0g func149 (C1m gl M hd .no hh) ?_;cases h2:A7P hd;case false=>rw[h2,Z0L,Z0L]at a;simp -dsimp -implicitDefEqProofs[a]
  rw[h2,Z0J]at a;simp -dsimp -implicitDefEqProofs;refine A0g func149 (C1m gl _ ws .no hw) ?_;cases h3:A7P ws;case false=>rw[h3,Z0L]at a;simp -dsimp -implicitDefEqProofs[a]
  rw[h3,Z0J]at a;simp -dsimp -implicitDefEqProofs;refine A0F hB ks.length 3 (λT M1=>∃i:Nat,i<=ks.length/\T 1=.cptr [I id.act,I id.item,I id.n,I kind,S lab,.list 4 (A0i hd) .no,.list 4 (A0i ws) .no,.list 8 (A0u ks) .no]/\T 3=I i/\M1=M/\B0a ks=B0a (ks.drop i)) ?_ ?_
  .exact⟨0,by omega,by simp,by simp,rfl,by simp⟩
  .rintro T M1 ⟨i,i1,t1,t3,rfl,ho⟩;by_cases hi:i<ks.length
   ·(have e:(i:Int)<ks.length:=by omega);have w1:IntKind.i64.wrap ((i:Int)+1)=(i+1:Nat):=by rw[A0Z (by omega) (by omega)];omega
    have f:ks.drop i=ks[i]::ks.drop (i+1):=Z0l hi;have c:ks[i]∈ks:=Z0y hi;rw[f,B0a]at ho;simp -dsimp -implicitDefEqProofs[t1,t3,hi,e];have:=A0a.kid_lt (u:=.mk id kind lab hd ws ks) c;refine A0g func101 (C1Q ks[i] M1 (g _ c)) ?_;cases h4:B1L ks[i]
    .rw[h4,Z0L]at ho;simp -dsimp -implicitDefEqProofs[t1,t3,a,ho]
    .rw[h4,Z0J]at ho;simp -dsimp -implicitDefEqProofs[t1,t3,w1];exact⟨⟨i+1,by clear w1;omega,rfl,ho⟩,by clear w1;omega⟩
   ·(have e:¬(i:Int)<ks.length:=by omega);rw[show ks.drop i=[]from Z0x (by omega),B0a]at ho
    simp -dsimp -implicitDefEqProofs[t1,t3,e,a,ho]
termination_by u=>SizeOf.sizeOf u
def C5Z:∀(u:A0a) (b a:Int) (M:Mem),u.good->0<=b->b<=30->0<=a->a<=1000->A0e (WC gl) 100 [.agg u.row,I b,I a] M (λv M'=>v=I (A9B u b a)/\M'=M)
 |.mk id kind lab hd ws ks,b,a,M,hg,d0,d1,m0,m1=>by
  obtain⟨_,_,_,hh,_,hw,_,hk,h⟩:=(A0a.good_iff _).1 hg;have j:ks.length<=9223372036854775807:=hk;refine A0m hB func100 ?_;have c:A9B (.mk id kind lab hd ws ks) b a=if 20<b then a+1 else A7M ks b a 1:=by rw[A9B]
  by_cases h1:20<b
  .have f:b>20:=h1;have w1:IntKind.i64.wrap (a+1)=a+1:=A0Z (by omega) (by omega);rw[Z0d h1]at c;simp -dsimp -implicitDefEqProofs[A0a.row,h1,f,w1,c]
  have f:¬b>20:=h1;rw[Z0e h1]at c;simp -dsimp -implicitDefEqProofs[A0a.row,h1,f];refine A0F hB ks.length 8 (λT M1=>∃i:Nat,i<=ks.length/\T 1=I b/\T 2=I a/\T 3=.cptr [I id.act,I id.item,I id.n,I kind,S lab,.list 4 (A0i hd) .no,.list 4 (A0i ws) .no,.list 8 (A0u ks) .no]/\T 8=I i/\M1=M/\∃n:Int,T 7=I n/\1<=n/\n<=a+1/\A7M ks b a 1=A7M (ks.drop i) b a n) ?_ ?_
  .exact⟨0,by omega,by simp,by simp,by simp,by simp,rfl,1,by simp,by omega,by omega,by simp⟩
  .rintro T M1 ⟨i,i1,t1,t2,t3,t8,rfl,n,t7,n1,n2,ho⟩;by_cases hi:i<ks.length
   ·(have d:(i:Int)<ks.length:=by omega);have w1:IntKind.i64.wrap ((i:Int)+1)=(i+1:Nat):=by rw[A0Z (by omega) (by omega)];omega
    have g:ks.drop i=ks[i]::ks.drop (i+1):=Z0l hi;have e:ks[i]∈ks:=Z0y hi;rw[g,A7M]at ho;by_cases hn:n<=a
    .rw[Z0d hn]at ho;have w2:IntKind.i64.wrap (b+1)=b+1:=A0Z (by omega) (by omega);have w3:IntKind.i64.wrap (a-n)=a-n:=A0Z (by omega) (by omega);simp -dsimp -implicitDefEqProofs[t1,t2,t3,t7,t8,hi,d,hn,w2,w3];have:=A0a.kid_lt (u:=.mk id kind lab hd ws ks) e;refine A0g func100 (C5Z ks[i] (b+1) (a-n) M1 (h _ e) (by omega) (by omega) (by omega) (by omega)) ?_;have hs:=C4s ks[i] (b+1) (a-n) (by omega);generalize A9B ks[i] (b+1) (a-n)=z at*;have w4:IntKind.i64.wrap (n+z)=n+z:=A0Z (by omega) (by omega);simp -dsimp -implicitDefEqProofs[t1,t2,t3,t7,t8,w1,w4];exact⟨⟨i+1,by clear w1;omega,rfl,by omega,by omega,ho⟩,by clear w1;omega⟩
    .rw[Z0e hn]at ho;simp -dsimp -implicitDefEqProofs[t1,t2,t3,t7,t8,hi,d,hn,c,ho]
   ·(have d:¬(i:Int)<ks.length:=by omega);rw[show ks.drop i=[]from Z0x (by omega),A7M]at ho
    simp -dsimp -implicitDefEqProofs[t1,t2,t3,t7,t8,d,c,ho]
termination_by u=>SizeOf.sizeOf u
def D3W(u:A0a)(a:Int)(M:Mem)(hg:u.good)(m0:0<=a)(m1:a<=1000):A0e (WC gl) 46 [.agg u.row,I a] M (λv M'=>v=B (B6v u a)/\M'=M):=by
 refine A0m hB func46 ?_;simp -dsimp -implicitDefEqProofs;refine A0g func100 (C5Z gl u 0 a M hg (by omega) (by omega) m0 m1) ?_;by_cases h1:A9B u 0 a<=a
 .simp -dsimp -implicitDefEqProofs[h1];refine A0g func101 (C1Q gl u _ hg) ?_;simp -dsimp -implicitDefEqProofs[B6v,h1]
 .simp -dsimp -implicitDefEqProofs[h1,B6v]
end
namespace TryTypes
@[simp] def E3C:A0S prog 235=some 237:=by kernel_rfl
@[simp] def E6w:A2e prog 237=some false:=by kernel_rfl
@[simp] def E7g:A1b prog 237=some 1:=by kernel_rfl
@[simp] def E5d:A0z prog 237=some [.nilFunc]:=by kernel_rfl
@[simp] def E6H:A2e prog 240=some true:=by kernel_rfl
@[simp] def E7u:A1b prog 240=some 3:=by kernel_rfl
@[simp] def E1h:A1j prog 240 0=some 0:=by kernel_rfl
@[simp] def E1D:A0N prog 240 0=some (0,37):=by kernel_rfl
@[simp] def E1A:A1j prog 240 1=some 1:=by kernel_rfl
@[simp] def E2u:A0N prog 240 1=some (1,3):=by kernel_rfl
@[simp] def E2g:A1j prog 240 2=some 2:=by kernel_rfl
@[simp] def E5U:A2P prog 240=true:=by kernel_rfl
@[simp] def E4M:A0z prog 240=some [.slice none 0 0,.int .i64 0,.bool false]:=by kernel_rfl
end TryTypes
attribute [simp] underlying235 underlying237 underlying238 underlying240 underlying146
namespace TryTypes
@[simp] def E6G:A0S prog 44=some 90:=by kernel_rfl
@[simp] def E7z:A2e prog 46=some true:=by kernel_rfl
@[simp] def E7X:A1b prog 46=some 3:=by kernel_rfl
@[simp] def E4k:A1j prog 46 0=some 0:=by kernel_rfl
@[simp] def E3M:A0N prog 46 0=some (0,3):=by kernel_rfl
@[simp] def E3Q:A1j prog 46 1=some 1:=by kernel_rfl
@[simp] def E4j:A0N prog 46 1=some (1,3):=by kernel_rfl
@[simp] def E4z:A1j prog 46 2=some 2:=by kernel_rfl
@[simp] def E7l:A2P prog 46=true:=by kernel_rfl
@[simp] def E6a:A0z prog 46=some [.int .i64 0,.int .i64 0,.string ⟨#[]⟩]:=by kernel_rfl
@[simp] def E7m:A2e prog 47=some false:=by kernel_rfl
@[simp] def E7P:A1b prog 47=some 1:=by kernel_rfl
@[simp] def D3n:A0S prog 47=some 128:=by kernel_rfl
def D7B:A3W prog 47:=.inl ⟨128,by kernel_rfl⟩
@[simp] def E7k:A2e prog 49=some true:=by kernel_rfl
@[simp] def E7N:A1b prog 49=some 7:=by kernel_rfl
@[simp] def E5e:A1j prog 49 0=some 0:=by kernel_rfl
@[simp] def E3Y:A0N prog 49 0=some (0,3):=by kernel_rfl
@[simp] def E4r:A1j prog 49 1=some 1:=by kernel_rfl
@[simp] def E4g:A0N prog 49 1=some (1,9):=by kernel_rfl
@[simp] def E3P:A1j prog 49 2=some 2:=by kernel_rfl
@[simp] def E5c:A0N prog 49 2=some (2,3):=by kernel_rfl
@[simp] def E4c:A1j prog 49 3=some 3:=by kernel_rfl
@[simp] def E3A:A0N prog 49 3=some (3,46):=by kernel_rfl
@[simp] def E5k:A1j prog 49 4=some 6:=by kernel_rfl
@[simp] def E7I:A2P prog 49=true:=by kernel_rfl
@[simp] def E5X:A0z prog 49=some [.int .i64 0,.string ⟨#[]⟩,.int .i64 0,.int .i64 0,.int .i64 0,.string ⟨#[]⟩,.slice none 0 0]:=by kernel_rfl
@[simp] def D8I:A0S prog 50=some 79:=by kernel_rfl
def E3w:A3W prog 50:=.inl ⟨79,by kernel_rfl⟩
@[simp] def E7v:A2e prog 79=some true:=by kernel_rfl
@[simp] def E7V:A1b prog 79=some 6:=by kernel_rfl
@[simp] def E3T:A1j prog 79 0=some 0:=by kernel_rfl
@[simp] def E4R:A0N prog 79 0=some (0,23):=by kernel_rfl
@[simp] def E4m:A1j prog 79 1=some 3:=by kernel_rfl
@[simp] def E4S:A0N prog 79 1=some (3,23):=by kernel_rfl
@[simp] def E7a:A2P prog 79=true:=by kernel_rfl
@[simp] def E6f:A0z prog 79=some [.int .i64 0,.int .i64 0,.int .i64 0,.int .i64 0,.int .i64 0,.int .i64 0]:=by kernel_rfl
def E1S:A3j prog 79 6 48:=⟨_,_,type79,rfl,rfl,rfl,rfl,by decide⟩
@[simp] def E7i:A2e prog 90=some true:=by kernel_rfl
@[simp] def E8a:A1b prog 90=some 5:=by kernel_rfl
@[simp] def E4Y:A1j prog 90 0=some 0:=by kernel_rfl
@[simp] def E4t:A1j prog 90 1=some 3:=by kernel_rfl
@[simp] def E4n:A1j prog 90 2=some 4:=by kernel_rfl
@[simp] def E6t:A2e prog 128=some true:=by kernel_rfl
@[simp] def E7x:A1b prog 128=some 25:=by kernel_rfl
@[simp] def E1l:A1j prog 128 0=some 0:=by kernel_rfl
@[simp] def E2d:A0N prog 128 0=some (0,3):=by kernel_rfl
@[simp] def E2P:A1j prog 128 1=some 1:=by kernel_rfl
@[simp] def E3v:A0N prog 128 1=some (1,40):=by kernel_rfl
@[simp] def E2W:A1j prog 128 2=some 2:=by kernel_rfl
@[simp] def E1Z:A1j prog 128 3=some 3:=by kernel_rfl
@[simp] def E3o:A0N prog 128 3=some (3,3):=by kernel_rfl
@[simp] def E3t:A1j prog 128 4=some 4:=by kernel_rfl
@[simp] def E0Y:A1j prog 128 5=some 5:=by kernel_rfl
@[simp] def E2a:A0N prog 128 5=some (5,27):=by kernel_rfl
@[simp] def E2j:A1j prog 128 6=some 13:=by kernel_rfl
@[simp] def E2O:A1j prog 128 7=some 14:=by kernel_rfl
@[simp] def E2T:A1j prog 128 8=some 15:=by kernel_rfl
@[simp] def E1t:A1j prog 128 9=some 16:=by kernel_rfl
@[simp] def E0F:A1j prog 128 10=some 17:=by kernel_rfl
@[simp] def E0U:A1j prog 128 11=some 20:=by kernel_rfl
@[simp] def E0y:A1j prog 128 12=some 21:=by kernel_rfl
@[simp] def E0B:A1j prog 128 13=some 22:=by kernel_rfl
@[simp] def E0K:A1j prog 128 14=some 23:=by kernel_rfl
@[simp] def E0k:A1j prog 128 15=some 24:=by kernel_rfl
@[simp] def E5t:A2P prog 128=true:=by kernel_rfl
@[simp] def E4s:A0z prog 128=some [.int .i64 0,.slice none 0 0,.slice none 0 0,.int .i64 0,.int .i64 0,.int .i64 0,.int .i64 0,.int .i64 0,.int .i64 0,.string ⟨#[]⟩,.slice none 0 0,.slice none 0 0,.slice none 0 0,.slice none 0 0,.slice none 0 0,.string ⟨#[]⟩,.string ⟨#[]⟩,.int .i64 0,.int .i64 0,.string ⟨#[]⟩,.int .i64 0,.int .i64 0,.int .i64 0,.string ⟨#[]⟩,.slice none 0 0]:=by kernel_rfl
def D3l:A3j prog 128 25 368:=⟨_,_,type128,rfl,rfl,rfl,rfl,by decide⟩
end TryTypes
attribute [simp] underlying44 underlying46 underlying47 underlying49 underlying50 underlying79 underlying90 underlying128 underlying129
namespace TryTypes
@[simp] def D6O:A0S prog 141=some 143:=by kernel_rfl
def D9o:A3W prog 141:=.inl ⟨143,by kernel_rfl⟩
@[simp] def D8r:A2e prog 143=some true:=by kernel_rfl
@[simp] def E1p:A1b prog 143=some 28:=by kernel_rfl
@[simp] def E1V:A1j prog 143 0=some 0:=by kernel_rfl
@[simp] def E1B:A0N prog 143 0=some (0,3):=by kernel_rfl
@[simp] def E1W:A1j prog 143 1=some 1:=by kernel_rfl
@[simp] def E1c:A0N prog 143 1=some (1,3):=by kernel_rfl
@[simp] def E1u:A0N prog 143 2=some (2,3):=by kernel_rfl
@[simp] def E2t:A1j prog 143 3=some 3:=by kernel_rfl
@[simp] def E1q:A0N prog 143 3=some (3,128):=by kernel_rfl
@[simp] def E6J:A2P prog 143=true:=by kernel_rfl
@[simp] def E4a:A0z prog 143=some [.int .i64 0,.int .i64 0,.int .i64 0,.int .i64 0,.slice none 0 0,.slice none 0 0,.int .i64 0,.int .i64 0,.int .i64 0,.int .i64 0,.int .i64 0,.int .i64 0,.string ⟨#[]⟩,.slice none 0 0,.slice none 0 0,.slice none 0 0,.slice none 0 0,.slice none 0 0,.string ⟨#[]⟩,.string ⟨#[]⟩,.int .i64 0,.int .i64 0,.string ⟨#[]⟩,.int .i64 0,.int .i64 0,.int .i64 0,.string ⟨#[]⟩,.slice none 0 0]:=by kernel_rfl
def D8E:A3j prog 143 28 392:=⟨_,_,type143,rfl,rfl,rfl,rfl,by decide⟩
@[simp] def E5p:A2e prog 148=some false:=by kernel_rfl
@[simp] def E7q:A1b prog 148=some 1:=by kernel_rfl
@[simp] def E6y:A2e prog 192=some false:=by kernel_rfl
@[simp] def E7r:A1b prog 192=some 1:=by kernel_rfl
@[simp] def E6M:A2e prog 260=some true:=by kernel_rfl
@[simp] def E7s:A1b prog 260=some 2:=by kernel_rfl
@[simp] def E2q:A1j prog 260 0=some 0:=by kernel_rfl
@[simp] def E2G:A0N prog 260 0=some (0,192):=by kernel_rfl
@[simp] def E1m:A1j prog 260 1=some 1:=by kernel_rfl
@[simp] def E1Q:A0N prog 260 1=some (1,148):=by kernel_rfl
@[simp] def E6d:A2P prog 260=true:=by kernel_rfl
@[simp] def E3O:A0z prog 260=some [.nilFunc,.nilFunc]:=by kernel_rfl
@[simp] def E5A:A2e prog 335=some true:=by kernel_rfl
@[simp] def E7n:A1b prog 335=some 4:=by kernel_rfl
@[simp] def E1b:A1j prog 335 0=some 0:=by kernel_rfl
@[simp] def E2L:A0N prog 335 0=some (0,23):=by kernel_rfl
@[simp] def E1a:A1j prog 335 1=some 3:=by kernel_rfl
@[simp] def E3f:A0N prog 335 1=some (3,3):=by kernel_rfl
@[simp] def E6F:A2P prog 335=true:=by kernel_rfl
@[simp] def E3Z:A0z prog 335=some [.int .i64 0,.int .i64 0,.int .i64 0,.int .i64 0]:=by kernel_rfl
@[simp] def E7J:A1b prog 339=some 4:=by kernel_rfl
@[simp] def E1E:A1j prog 339 0=some 0:=by kernel_rfl
@[simp] def E1k:A0N prog 339 0=some (0,3):=by kernel_rfl
@[simp] def E2Y:A1j prog 339 1=some 1:=by kernel_rfl
@[simp] def E3h:A0N prog 339 1=some (1,3):=by kernel_rfl
@[simp] def E2Z:A1j prog 339 2=some 2:=by kernel_rfl
@[simp] def E2R:A1j prog 339 3=some 3:=by kernel_rfl
@[simp] def E5x:A2P prog 339=true:=by kernel_rfl
@[simp] def E4A:A0z prog 339=some [.int .i64 0,.int .i64 0,.int .i64 0,.int .i64 0]:=by kernel_rfl
@[simp] def E6o:A2e prog 366=some true:=by kernel_rfl
@[simp] def E7o:A1b prog 366=some 4:=by kernel_rfl
@[simp] def E4Z:A0z prog 366=some [.nilFunc,.nilFunc,.nilFunc,.nilFunc]:=by kernel_rfl
end TryTypes
attribute [simp] underlying58 underlying75 underlying126 underlying139 underlying141 underlying143 underlying148 underlying189 underlying192 underlying204 underlying227 underlying260 underlying262 underlying301 underlying303 underlying335 underlying339 underlying357 underlying366 underlying368 underlying371
end Go.Abs
