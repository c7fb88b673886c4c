/- The texts CyBase, CyS, CyA, CyB, CyC, CyD, CvSa, CvSb, CvSc, CvSd, CvSe, CvA, CvB, CaTypes, CbTypes, CeTypes. -/
import Derived.Test.YtmpdkagfplajjaaGreatDoorFG22
import Derived.Test.YtmpdkagfplajjaaGreatDoorFG21
import Derived.Test.YtmpdkagfplajjaaGreatDoorFG23
import Derived.Test.YtmpdkagfplajjaaGreatDoorFG12
import Derived.Test.YtmpdkagfplajjaaGreatDoorFG19
set_option linter.all false
set_option maxRecDepth 100000
namespace Go.Abs
open Go.Proofs Tryz
noncomputable def WC(gl:Nat->AV):Ctx:=⟨prog,gl,λ_=>none,λ_=>false⟩
@[simp] def E7f(gl:Nat->AV):(WC gl).P=prog:=rfl
@[simp] def E4V(gl:Nat->AV):(WC gl).data=λ_=>false:=rfl
@[simp] def E8O(gl:Nat->AV):(WC gl).gl=gl:=rfl
def hB:A2x:=⟨λ_=>true,λ_=>true,λ_=>false⟩
def hV:A2x:=⟨λ_=>false,λ_=>false,λ_=>true⟩
def hW:A2x:=⟨λ_=>true,λ_=>false,λ_=>true⟩
@[simp] def E6Q:hW.imm=λ_=>true:=rfl
@[simp] def E7z:hW.own=λ_=>false:=rfl
@[simp] def E6H:hW.vec=λ_=>true:=rfl
@[simp] def E6W:hB.imm=λ_=>true:=rfl
@[simp] def E7O:hB.own=λ_=>true:=rfl
@[simp] def E8c:hB.vec=λ_=>false:=rfl
@[simp] def E6I:hV.own=λ_=>false:=rfl
@[simp] def E7l:hV.vec=λ_=>true:=rfl
def A0G(gl:Nat->AV):(WC gl).P.follows .mixedOrders=true:=by kernel_rfl
attribute [simp] underlying22 underlying23 underlying24 underlying25 underlying26 underlying27 underlying28 underlying31 underlying68 underlying69 underlying85 underlying92 underlying93 underlying94 underlying96 underlying130 underlying150 underlying152 underlying242 underlying245 underlying247 underlying248 underlying249 underlying278 underlying321 underlying3 underlying4 underlying5 underlying9 underlying21 underlying37 underlying38 underlying39 underlying40 underlying110 underlying113 underlying114 underlying116 underlying159 underlying178 underlying215
attribute [simp] Env.of
def A1b(l:List ByteArray):List (List AV):=l.map λs=>[S s]
@[simp] def B5F(l:List ByteArray):(A1b l).length=l.length:=by simp[A1b]
section
variable {P:Program} {t e:TypeId} {s:ByteArray} {k k2:IntKind} {i j:Int}
@[simp] def D6s(h:P.underlying t=some .string):A2r P t (.val (.string s)) (some (.val (.int k i))) none none=if 0<=i/\i<=s.size then some (.val (.string (s.extract i.toNat s.size)))else none:=by
 by_cases hc:0<=i/\i<=s.size
 .simp[A2r,A4b,h,A1v,hc]
 .simp[A2r,A4b,h,A1v,hc]
@[simp] def D6F(h:P.underlying t=some .string):A2r P t (.val (.string s)) none (some (.val (.int k i))) none=if 0<=i/\i<=s.size then some (.val (.string (s.extract 0 i.toNat)))else none:=by
 by_cases hc:0<=i/\i<=s.size
 .simp[A2r,A4b,h,A1v,hc]
 .simp[A2r,A4b,h,A1v,hc]
variable {sz:Nat} {rows:List (List AV)} {own:Own}
@[simp] def D4Z(h:A0R P t=some e)(hs:A1h P e=some sz):A2r P t (.list sz rows own) (some (.val (.int k i))) none none=if 0<=i/\i<=rows.length then some (.list sz (rows.drop i.toNat) (A9X rows.length i.toNat rows.length none own))else none:=by
 by_cases hc:0<=i/\i<=rows.length
 .simp[A2r,A4b,A4l,h,hs,A1v,hc]
 .simp[A2r,A4b,A4l,h,hs,A1v,hc]
@[simp] def D2u(h:A0R P t=some e)(hs:A1h P e=some sz):A2r P t (.list sz rows own) (some (.val (.int k i))) (some (.val (.int k2 j))) none=if 0<=i/\i<=j/\j<=rows.length then some (.list sz ((rows.take j.toNat).drop i.toNat) (A9X rows.length i.toNat j.toNat none own))else none:=by
 by_cases hj:0<=j/\j<=rows.length
 .by_cases hc:0<=i/\i<=(j.toNat:Int)
  ·(have:0<=i/\i<=j/\j<=rows.length:=by omega);simp[A2r,A4b,A4l,h,hs,A1v,hj,hc.1,show i<=max j 0 from by omega];omega
  ·(have:¬(0<=i/\i<=j/\j<=rows.length):=by omega);rw[Z0e this]
   simp only[A2r,A4b,A4l,h,hs,A1v,Z3t,Z0d hj,Z0e hc,Z3m,Z1X,Z0H]
 .have:¬(0<=i/\i<=j/\j<=rows.length):=by omega
  simp only[A2r,A4b,A4l,h,hs,A1v,Z3t,Z0e hj,Z0e this];simp
end
def A1Y{C}{f}{fn}{c}{args}{M}{Q:AV->Mem->Prop}(hf:C.P.funcs[f]?=some fn)(hb:fn.body=some c)(hn:(fn.name== "runtime.NumGoroutine")=false)(h:A0d C f args M Q):A4d C f args M Q:=.inl ⟨A9I hf hb hn,h⟩
def A0T{n}(h1:-9223372036854775808<=n)(h2:n<=9223372036854775807):IntKind.i64.wrap n=n:=IntWalk.i64_in _ ⟨h1,h2⟩
structure A0I where
 k:Int
 lab:ByteArray
def A0I.row(s:A0I):List AV:=[I s.k,S s.lab]
abbrev A6X(p:List A0I):AV:=.list 2 (p.map A0I.row) .no
structure A1G where
 k:Int
 path:List A0I
 to:ByteArray
 frm:Int
 at_:Int
def A1G.row(c:A1G):List AV:=[I c.k,A6X c.path,S c.to,I c.frm,I c.at_]
abbrev A1G.v(c:A1G):AV:=.agg c.row
open Go.Proofs
def A5X(e:TypeId)(M:Mem)(v:AV)(cs:List AV):Prop:=(v=.val (.slice none 0 0)/\cs=[])\/∃f g hist,v=.vref f g 1 0 cs.length/\M[f]?=some (.vec e 1 cs g hist)/\hist.lookup g=some cs.length
def A5X.lt{e:TypeId}{M}{v}{cs}(h:A5X e M v cs){f}(hf:obj v=some f):f<M.length:=by
 rcases h with⟨rfl,_⟩|⟨f',g,a,rfl,hm,_⟩
 .simp at hf
 .simp at hf;subst hf;exact(Z0b.1 hm).1
def A5X.keep{e:TypeId}{M M'}{v}{cs}(h:A5X e M v cs){o}(hk:A0c o M M')(ho:∀f,obj v=some f->o≠some f):A5X e M' v cs:=by
 rcases h with⟨rfl,h⟩|⟨f',g,a,rfl,hm,hl⟩
 .exact .inl ⟨rfl,h⟩
 .exact .inr ⟨f',g,a,rfl,hk.get hm (ho _ rfl),hl⟩
def A5X.src{e:TypeId}{M}{v}{cs}(h:A5X e M v cs):A0z M 1 v=some (cs,cs.length):=by
 rcases h with⟨rfl,rfl⟩|⟨f',g,a,rfl,hm,hl⟩
 .rfl
 .simp[A0z,hm,hl]
def A5X.len{e:TypeId}{M}{v}{cs}(h:A5X e M v cs){P}{t:TypeId}(ht:P.underlying t=some (.slice e)):A1Z P t v=some cs.length:=by rcases h with⟨rfl,rfl⟩|⟨f',g,a,rfl,hm,hl⟩<;>simp[A1Z,ht]
section
variable {C:Ctx} {M:Mem} {K:AV->Mem->Prop}
def push{own vec}{st xt e:TypeId}{bytes m}{s x}{cs news}{tg}(h1:A0R C.P st=some e)(h2:A4f C.P xt)(h3:A3x C.P e 1 bytes)(ho:A5X e M s cs)
 (hx:A0z M 1 x=some (news,m))(hm:news.length=m)(hb:(cs.length+m)*bytes<=140737488355328)(b:vec=true)
 (hk:∀v' M',A5X e M' v' (cs++news)->A0c (obj s) M M'->(obj v'=obj s\/A1r M.length v')->(news=[]->v'=s/\M'=M)->K v' M'):A6a C own vec st xt s x M K tg:=by
 subst b
 rcases ho with⟨rfl,rfl⟩|⟨f,g,a,rfl,hf,hl⟩
 .refine A6u h1 h2 h3 (by rfl) hx hb (by simp only[A3g,hx]) ?_ rfl;simp only[A2L,hx];by_cases h0:m=0
  .rw[Z0d h0];have hn:news=[]:=Z0z (by omega);subst hn;exact hk _ _ (.inl ⟨rfl,rfl⟩) (A0c.refl _ _) (.inl rfl) λ_=>⟨rfl,rfl⟩
  .rw[Z0e h0];(refine hk _ _ (.inr ⟨M.length,0,[(0,m)],by simp[hm],by simp,by simp[List.lookup,hm]⟩) (.app _ _ _) (.inr ?_) λhn=>by subst hn;simp at hm;omega);intro f hf;simp at hf;omega
 .have d:A0z M 1 (.vref f g 1 0 cs.length)=some (cs,cs.length):=A5X.src (.inr ⟨f,g,a,rfl,hf,hl⟩);refine A6u h1 h2 h3 d hx hb ?_ ?_ rfl
  .simp only[A3g,hx,hf,hl];by_cases h0:0<m<;>simp<;>omega
  .simp only[A2L,hx,hf,hl];rw[Z0d (by simp)];by_cases h0:m=0
   .rw[Z0d h0];have hn:news=[]:=Z0z (by omega);subst hn;simp only[Z1F]at hk;exact hk _ _ (.inr ⟨f,g,a,rfl,hf,hl⟩) (A0c.refl _ _) (.inl rfl) λ_=>⟨rfl,rfl⟩
   .rw[Z0e h0];have c:f<M.length:=(Z0b.1 hf).1;refine hk _ _ (.inr ⟨f,g+1,(g+1,cs.length+m)::a.filter (λp=>decide (p.2<=cs.length)),by simp[hm],by simp[c,Z0k],by simp[List.lookup,hm]⟩) (.set _ _ _) (.inl rfl) λhn=>by subst hn;simp at hm;omega
end
section
variable (gl:Nat->AV) (M:Mem)
def D0p(a b:A1G):A0d (WC gl) 61 [a.v,b.v] M (λv M'=>v=B (decide (a.frm=b.frm/\a.at_=b.at_))/\M'=M):=by
 refine A0j hB func61 ?_;by_cases h1:a.frm=b.frm
 .simp -dsimp -implicitDefEqProofs[Env.of,A1G.row,h1];by_cases h2:a.at_=b.at_<;>simp[h2]
 .simp -dsimp -implicitDefEqProofs[Env.of,A1G.row,h1]
def A5C(c:Int):Bool:=decide (c=44)||decide (c=59)||decide (c=46)||decide (c=58)||decide (c=41)
def B1W(s:ByteArray):ByteArray:=if s.size=0 then .empty else if A5C (A1c s (s.size-1))then s.extract (s.size-1) s.size else .empty
def A5s{s:ByteArray}:s=⟨#[]⟩<->s.size=0:=by
 constructor
 .rintro rfl;rfl
 .intro h;refine D5X ?_;have:s.data.size=0:=h;simp[Array.eq_empty_of_size_eq_zero this]
end
open Go.Proofs TryTypes Tryz
def A4x(M:Mem)(l:List ByteArray)(v:AV)(M':Mem):Prop:=A5X 9 M' v (l.map S)/\A0c none M M'/\A1r M.length v
def C8d(l:List ByteArray):(A1b l).flatten=l.map S:=by
 induction l with
 |nil=>rfl
 |cons a l ih=>simp only[A1b,Z0B,Z0W]at ih|-;rw[ih];rfl
def E0S(M:Mem)(l:List ByteArray)(o:Own):A0z M 1 (.list 1 (A1b l) o)=some (l.map S,l.length):=by simp[A0z,C8d]
@[simp] def E0b{M}:A1C prog 37 0 [] M=some (.vref M.length 0 1 0 0,M++[.vec 9 1 [] 0 [(0,0)]]):=by simp[A1C,A0Z]
def D2h(M:Mem):A5X 9 (M++[.vec 9 1 [] 0 [(0,0)]]) (.vref M.length 0 1 0 0) []:=.inr ⟨M.length,0,[(0,0)],rfl,by simp,by simp[List.lookup]⟩
def C3X{M M':Mem}{X:A0l}{v':AV}{l:List ByteArray}(h1:A5X 9 M' v' (l.map S))(h2:A0c (some M.length) (M++[X]) M')(h3:obj v'=some M.length\/A1r (M++[X]).length v'):A4x M l v' M':=by
 refine⟨h1,⟨by have:=h2.1;simp at this;omega,λi hi _=>?_⟩,?_⟩
 .rw[h2.2 i (by simp;omega) (by simp;omega),Z0h hi]
 .intro f hf;rcases h3 with h|h
  .rw[h]at hf;simp at hf;omega
  .have:=h f hf;simp at this;omega
section
variable (gl:Nat->AV) (M:Mem)
def C7J(l:List ByteArray)(o:Own)(hl:l.length*16<=140737488355328):A0d (WC gl) 59 [.list 1 (A1b l) o] M (A4x M l):=by
 refine A0j hW func59 ?_;have tail:∀(K:AV->Mem->Prop) (tg:Tag K),(∀v M',A4x M l v M'->K v M')->A6a (WC gl) (A1V hW.own (some 7)) (A1V hW.vec (some 7)) 37 37 (.vref M.length 0 1 0 0) (.list 1 (A1b l) o) (M++[.vec 9 1 [] 0 [(0,0)]]) K tg:=by intro K tg hk;refine push (C:=WC gl) (e:=9) A7n A9D B5x (D2h M) (E0S _ l o) (by simp) (by simp;omega) rfl ?_;intro v' M' h1 h2 h3 _;exact hk _ _ (C3X (by simpa using h1) h2 h3)
 cases l with
 |nil=>
  simp -dsimp -implicitDefEqProofs[A1b];rw[A9i (.inl rfl) underlying37];intro b;cases b
  .simp -dsimp -implicitDefEqProofs;refine tail _ _ λv M' h=>?_;simp -dsimp -implicitDefEqProofs;exact h
  .simp -dsimp -implicitDefEqProofs[A4x,A5X,A0c.refl,A1r]
 |cons a l=>simp -dsimp -implicitDefEqProofs[A1b];refine tail _ _ λv M' h=>?_;simp -dsimp -implicitDefEqProofs;exact h
end
section
variable (gl:Nat->AV) (M:Mem)
def D7m{h}{d}{x}{t:TypeId}{p}{af}{g}{ρ:Operand->AV}{M}{b}{a buf}(hx:ρ x=.ptr b 0)(hM:M[b]?=some (.cells 116 [a,buf])):A0A (WC gl) h ⟨d,.convert 113 215 x,t,p,af,g⟩ ρ M=some (.ptr b 0,M):=by simp[A0A,A0q,A0U,A0Q,A0E,A2Q,hx,A7e,B6o,hM,B0v]
def D3l{h}{d}{x}{t:TypeId}{p}{af}{g}{ρ:Operand->AV}{M}{b}{a buf}(hx:ρ x=.ptr b 0)(hM:M[b]?=some (.cells 116 [a,buf])):A0A (WC gl) h ⟨d,.convert 215 113 x,t,p,af,g⟩ ρ M=some (.ptr b 0,M):=by
 simp[A0A,A0q,A0U,A0Q,A0E,A2Q,hx,A7e,B6o,hM,B0v]
 kernel_rfl
@[simp] def E0v{P}{a b:TypeId}{x o}:A7e P a b (.ptr x o)=none:=by unfold A7e;split<;>simp_all
def List.set_eq_of_getElem?{α:Type}{l:List α}{i:Nat}{a:α}(h:l[i]?=some a):l.set i a=l:=by
 apply Z1K;intro j;rw[Z2o];split
 .rename_i e;subst e;obtain⟨h1,h2⟩:=Z0b.1 h;simp[h1,h2]
 .rfl
def D6J(M:Mem)(v:AV):A4d (WC gl) 170 [v] M (λr m=>r=v/\m=M):=(C6I (C:=WC gl) func170 rfl rfl (by kernel_rfl) (by kernel_rfl) [v] M v M [] rfl).1
@[simp] def E1z{P}{t:TypeId}{op}{y}{f:AV->Prop}{tg}:B9Z P op t (.val (.pointer none)) y f tg=A1p (A1s P op t (.val (.pointer none)) y) f ⟨⟩:=C5d
@[simp] def D4W{P}{t e:TypeId}(h:P.underlying t=some (.pointer e)):A1s P .eql t (.val (.pointer none)) (.val (.pointer none))=some (.val (.bool true)):=by simp[A1s,A2F,A3H,h,A3E,B4R]
def C3F(b:Nat)(a c:AV)(hM:M[b]?=some (.cells 116 [a,c]))(ha:a=.val (.pointer none)\/a=.ptr b 0):A0d (WC gl) 118 [.ptr b 0] M (λv M'=>M'=M.set b (.cells 116 [.ptr b 0,c])):=by
 refine A0j hB func118 ?_
 rcases ha with rfl|rfl
 .simp -dsimp -implicitDefEqProofs[A0b hM];rw[D7m gl (by rfl) hM];simp -dsimp -implicitDefEqProofs;refine A4A (D6J gl _ _) ?_;rintro r M' ⟨rfl,rfl⟩;simp -dsimp -implicitDefEqProofs;rw[D3l gl (by rfl) hM];have d:b<M'.length:=(Z0b.1 hM).1;simp -dsimp -implicitDefEqProofs[A0h hM,A0e,AV.storable]
 .simp -dsimp -implicitDefEqProofs[A0b hM,B1j];rw[List.set_eq_of_getElem? hM]
def A6Y(s:ByteArray):List AV:=s.data.toList.map λb=>.val (.int .u8 b.toNat)
@[simp] def C8L(s:ByteArray):(A6Y s).length=s.size:=by simp[A6Y]
def C8g(a b:ByteArray):A6Y (a++b)=A6Y a++A6Y b:=by simp[A6Y]
def Bld(n b:Nat)(M:Mem)(bs:ByteArray):Prop:=n<=b/\∃a buf,M[b]?=some (.cells 116 [a,buf])/\(a=.val (.pointer none)\/a=.ptr b 0)/\A5X 5 M buf (A6Y bs)/\(∀f,obj buf=some f->n<=f/\f≠b)/\(bs.size=0->buf=.val (.slice none 0 0))
def A1a(n:Nat)(M M':Mem):Prop:=M.length<=M'.length/\∀i,i<n->M'[i]?=M[i]?
def A1a.refl(n:Nat)(M:Mem):A1a n M M:=⟨Z0o _,λ_ _=>rfl⟩
def A1a.trans{n}{A B C}(h1:A1a n A B)(h2:A1a n B C):A1a n A C:=⟨Z0S h1.1 h2.1,λi hi=>(h2.2 i hi).trans (h1.2 i hi)⟩
def A1a.get{n}{A B}(h:A1a n A B){i}(hi:i<n){X}(hx:A[i]?=some X):B[i]?=some X:=by rw[h.2 i hi,hx]
def A0c.low{o}{A B}(h:A0c o A B){n}(hn:n<=A.length)(ho:∀f,o=some f->n<=f):A1a n A B:=⟨h.1,λi hi=>h.2 i (by omega) λe=>by have:=ho i e;omega⟩
def A1a.set{n f}(M:Mem)(X:A0l)(h:n<=f):A1a n M (M.set f X):=⟨by simp,λi hi=>by rw[Z0f (by omega)]⟩
def C7e(n b:Nat)(bs s:ByteArray)(h:Bld n b M bs)(q:bs.size+s.size<=140737488355328)(hn:n<=M.length):A0d (WC gl) 62 [.ptr b 0,S s] M (λv M'=>Bld n b M' (bs++s)/\A1a n M M'):=by
 obtain⟨k,a,c,hM,ha,ho,d,h0⟩:=h
 have p:b<M.length:=(Z0b.1 hM).1
 refine A0j hW func62 ?_
 simp -dsimp -implicitDefEqProofs
 refine A0s func118 (C3F gl M b a c hM ha) ?_
 rintro r M1 rfl
 have o:(M.set b (.cells 116 [.ptr b 0,c]))[b]?=some (.cells 116 [.ptr b 0,c]):=by simp[p]
 simp -dsimp -implicitDefEqProofs[A0b o]
 have t:A5X 5 (M.set b (.cells 116 [.ptr b 0,c])) c (A6Y bs):=ho.keep (.set M b _) λf hf=>by have:=(d f hf).2;simp;omega
 refine push (C:=WC gl) (e:=5) D7d (.inr (by kernel_rfl)) E6M t (news:=A6Y s) (m:=s.size) rfl (by simp) (by simpa using q) rfl ?_
 intro v' M' p1 p2 p3 p4
 have j:M'[b]?=some (.cells 116 [.ptr b 0,c]):=p2.get o λe=>(d b e).2 rfl
 have u:bs.size+s.size=0->v'=.val (.slice none 0 0):=λe=>by have:A6Y s=[]:=Z0z (by rw[C8L];omega);rw[(p4 this).1];exact h0 (by omega)
 have i:∀f,obj v'=some f->n<=f/\f≠b:=by
  intro f hf;rcases p3 with e|e
  .rw[e]at hf;exact d f hf
  .have:=e f hf;simp at this;omega
 have fin:∀(w:AV) (hw:w=v'),Bld n b (M'.set b (.cells 116 [.ptr b 0,w])) (bs++s)/\A1a n M (M'.set b (.cells 116 [.ptr b 0,w])):=by
  intro w hw;subst hw;have l:b<M'.length:=(Z0b.1 j).1;refine⟨⟨k,.ptr b 0,w,by simp[l],.inr rfl,?_,i,by simpa using u⟩,?_⟩
  .rw[C8g];exact p1.keep (.set M' b _) λf hf=>by have:=(i f hf).2;simp;omega
  .refine((A1a.set M _ k).trans (p2.low (by simp;exact hn) λf hf=>(d f hf).1)).trans (.set M' _ k)
 rcases p1 with⟨e,_⟩|⟨f,g,y,e,_,_⟩
 .rw[e]at fin|-;simp -dsimp -implicitDefEqProofs[A0h j,A0e];exact fin _ rfl
 .rw[e]at fin|-;simp -dsimp -implicitDefEqProofs[A0h j,A0e];exact fin _ (by simp)
def C1U:∀l:List UInt8,B0n (l.map λb=>AV.val (.int .u8 b.toNat))=some l
 |[]=>rfl
 |a::l=>by have:=a.toNat_lt;simp only[Z0B,B0n];rw[Z0d ⟨by omega,by omega⟩,C1U l];simp
def D8j(s:ByteArray):B0n (A6Y s)=some s.data.toList:=C1U _
def D1V(n b:Nat)(bs:ByteArray)(h:Bld n b M bs)(y:bs.size<=140737488355328)(hn:n<=M.length):A0d (WC gl) 64 [.ptr b 0] M (λv M'=>v=S bs/\A1a n M M'):=by
 obtain⟨u,a,w,hM,ha,ho,q,h0⟩:=h
 have t:b<M.length:=(Z0b.1 hM).1
 refine A0j hW func64 ?_
 rcases ho with⟨rfl,he⟩|⟨f,g,s,rfl,hf,hl⟩
 .have hs:bs.size=0:=by have:=congrArg List.length he;simpa using this
  have he:bs=⟨#[]⟩:=A5s.2 hs;simp -dsimp -implicitDefEqProofs;refine C0A hW (A0G gl) (λk=>if k=3\/k=8 then 1 else if k=4\/k=10 then 2 else 0) b (by rfl) (by kernel_rfl) ?_;simp -dsimp -implicitDefEqProofs[A0b hM,A3K,A2q,he,A1a.refl];rfl
 .have hs:bs.size≠0:=λe=>by have:=h0 e;simp at this
  have d:=q f rfl;simp -dsimp -implicitDefEqProofs;refine C0A hW (A0G gl) (λk=>if k=3\/k=8 then 1 else if k=4\/k=10 then 2 else 0) b (by rfl) (by kernel_rfl) ?_;have l:¬bs=ByteArray.empty:=λe=>hs (by rw[e];rfl);have i:0<bs.size:=by omega
  have p:prog.cellsOf 5=1:=by kernel_rfl
  have r:(bs.size:Int)<=9223372036854775807:=by omega
  have m:List.take bs.size (A6Y bs)=A6Y bs:=Z0k (by simp);have j:¬f=b:=d.2;have o:(⟨bs.data.toList.toArray⟩:ByteArray)=bs:=by simp
  have c:A1a n M (M.set f .gone):=.set M _ d.1;simp -dsimp -implicitDefEqProofs[A0b hM,A3K,A2q,hf,hl,l,i,p,r,m,D8j,j,o,c]
end
section
variable (gl:Nat->AV) (M:Mem)
def A6O:ByteArray:=⟨#[44,59,46,58,41]⟩
def A7l(c:Int):Int:=if c=44 then 0 else if c=59 then 1 else if c=46 then 2 else if c=58 then 3 else if c=41 then 4 else -1
def C6T(c:Int):decide (0<=A7l c)=A5C c:=by
 unfold A7l A5C;by_cases h1:c=44
 .simp[h1]
 by_cases h2:c=59
 .simp[h2]
 by_cases h3:c=46
 .simp[h3]
 by_cases h4:c=58
 .simp[h4]
 by_cases h5:c=41
 .simp[h5]
 simp[h1,h2,h3,h4,h5]
def D2d(c:UInt8):(match(List.range A6O.size).find? λi=>A6O[i]! ==c with
 |some i=>goInt i
 |none=>goInt (-1))=.int .i64 (A7l (c.toNat:Int)):=by
 have key:∀n:Fin 256,(match(List.range A6O.size).find? λi=>A6O[i]! ==UInt8.ofNat n.val with
  |some i=>(i:Int)
  |none=>-1)=A7l (n.val:Int):=by decide+kernel
 have k:=key ⟨c.toNat,c.toNat_lt⟩
 simp only[UInt8.ofNat_toNat]at k
 rw[<-k]
 cases(List.range A6O.size).find? λi=>A6O[i]! ==c<;>rfl
def D4n(c:UInt8):A4d (WC gl) 344 [S A6O,.val (.int .u8 c.toNat)] M (λr m=>r=I (A7l c.toNat)/\m=M):=by refine(B2N (C:=WC gl) func344 rfl rfl (by kernel_rfl) (by kernel_rfl) [S A6O,.val (.int .u8 c.toNat)] M _ M [] rfl).1.mono ?_;rintro r m ⟨rfl,rfl⟩;refine⟨?_,rfl⟩;have:=D2d c;simp only[Int.toNat_natCast,Nat.toUInt8_eq,UInt8.ofNat_toNat];exact congrArg AV.val this
def C5W(c:UInt8):A0d (WC gl) 271 [S A6O,.val (.int .u8 c.toNat)] M (λr m=>r=I (A7l c.toNat)/\m=M):=by refine A0j hB func271 ?_;simp -dsimp -implicitDefEqProofs;refine A4A (D4n gl M c) ?_;rintro r m ⟨rfl,rfl⟩;simp -dsimp -implicitDefEqProofs
def D4r(t:ByteArray)(ht:t.size=1):A0d (WC gl) 220 [S A6O,S t] M (λr m=>r=I (A7l (A1c t 0))/\m=M):=by
 refine A0j hB func220 ?_;have a:¬t=A6O:=λe=>by rw[e]at ht;revert ht;decide
 simp -dsimp -implicitDefEqProofs[ht,a];refine A0s func271 (C5W gl M (t.data.getD 0 0)) ?_;rintro r m ⟨rfl,rfl⟩;simp -dsimp -implicitDefEqProofs[A1c]
def D3F(t:ByteArray)(ht:t.size=1):A0d (WC gl) 171 [S A6O,S t] M (λr m=>r=I (A7l (A1c t 0))/\m=M):=by refine A0j hB func171 ?_;simp -dsimp -implicitDefEqProofs;refine A0s func220 (D4r gl M t ht) ?_;rintro r m ⟨rfl,rfl⟩;simp -dsimp -implicitDefEqProofs
def C6S(t:ByteArray)(ht:t.size=1):A0d (WC gl) 119 [S A6O,S t] M (λr m=>r=B (A5C (A1c t 0))/\m=M):=by refine A0j hB func119 ?_;simp -dsimp -implicitDefEqProofs;refine A0s func171 (D3F gl M t ht) ?_;rintro r m ⟨rfl,rfl⟩;simp -dsimp -implicitDefEqProofs[<-C6T]
def A8w{s}{i j k}(h:i+k<j)(hj:j<=s.size):A1c (s.extract i j) k=A1c s (i+k):=by
 have h1:k<(s.extract i j).size:=by simp;omega
 have h2:i+k<s.size:=by omega
 have e:(s.extract i j)[k]=s[i+k]:=ByteArray.getElem_extract h1;have g:∀(t:ByteArray) (n:Nat) (h:n<t.size),A1c t n=(t[n].toNat:Int):=by intro t n h;have h':n<t.data.size:=h;simp only[A1c,Z3N,Z0R h',Z1I];rfl
 rw[g _ _ h1,g _ _ h2,e]
def D7r(s:ByteArray)(hs:s.size<=maxLen):A0d (WC gl) 63 [S s] M (λv M'=>v=S (B1W s)/\M'=M):=by
 refine A0j hB func63 ?_;by_cases h0:s.size=0
 .have he:s=⟨#[]⟩:=A5s.2 h0;simp -dsimp -implicitDefEqProofs[he];rfl
 .have he:¬s=⟨#[]⟩:=λh=>h0 (A5s.1 h);have hw:IntKind.i64.wrap ((s.size:Int)-1)=(s.size-1:Nat):=by rw[A0T (by omega) (by simp only[maxLen]at hs;omega)];omega
  have b:s.size-1<s.size:=by omega
  have d:s.size-1<=s.size:=by omega
  have a:B1W s=if A5C (A1c s (s.size-1))then s.extract (s.size-1) s.size else .empty:=by rw[B1W,Z0e h0]
  have c:A1c (s.extract (s.size-1) s.size) 0=A1c s (s.size-1):=A8w (by omega) (by omega);simp -dsimp -implicitDefEqProofs[he,hw];refine A0s func119 (C6S gl M (s.extract (s.size-1) s.size) (by simp;omega)) ?_;rintro r m ⟨rfl,rfl⟩;rw[c];cases hb:A5C (A1c s (s.size-1))
  .rw[hb]at a;simp -dsimp -implicitDefEqProofs[a];rfl
  .rw[hb]at a;simp -dsimp -implicitDefEqProofs[hw,a]
end
open Go.Proofs TryTypes
section
variable (gl:Nat->AV) {α:Type} {enc:α->List AV} {c:α->α->Int} {fid:FuncId} {first cap:List AV} {f g n:Nat} {M0:Mem}
end
def E3b{i j:Nat}(h:i+j<=1000000):IntKind.i64.wrap ((i:Int)+(j:Int))=((i+j:Nat):Int):=by rw[A0T (by omega) (by omega)];omega
def A1y{i:Nat}(h:i<=1000000):IntKind.i64.wrap ((i:Int)+1)=((i+1:Nat):Int):=by rw[A0T (by omega) (by omega)];omega
section
variable (gl:Nat->AV) {α:Type} {enc:α->List AV} {c:α->α->Int} {fid:FuncId} {first cap:List AV} {f g n:Nat} {M0:Mem}
end
section
variable (gl:Nat->AV) {α:Type} {enc:α->List AV} {c:α->α->Int} {fid:FuncId} {first cap:List AV} {f g n:Nat} {M0:Mem}
end
section
variable (gl:Nat->AV) {α:Type} {enc:α->List AV} {c:α->α->Int} {fid:FuncId} {first cap:List AV} {f g n:Nat} {M0:Mem}
end
section
variable (gl:Nat->AV) {α:Type} {enc:α->List AV} {c:α->α->Int} {fid:FuncId} {first cap:List AV} {f g n:Nat} {M0:Mem}
end
section
variable (gl:Nat->AV) (M:Mem)
end
def A8m(l:List A0H):Bool:=l.all (λw=>decide (w.text.size<=100))&&decide (l.length<=300)
mutual
def B1V:A0a->Bool
 |.mk _ _ l h w ks=>decide (l.size<=30)&&A8m h&&A8m w&&B0q ks
def B0q:List A0a->Bool
 |[]=>true
 |k::ks=>B1V k&&B0q ks
end
mutual
def A9U:A0a->Int->Int->Int
 |.mk _ _ _ _ _ ks,deep,most=>if 20<deep then most+1 else A8i ks deep most 1
def A8i:List A0a->Int->Int->Int->Int
 |[],_,_,n=>n
 |k::ks,deep,most,n=>if n<=most then A8i ks deep most (n+A9U k (deep+1) (most-n))else n
end
mutual
def C5q:∀(u:A0a) (b a:Int),0<=a->1<=A9U u b a/\A9U u b a<=a+1
 |.mk _ _ _ _ _ ks,b,a,h=>by
  rw[A9U];split
  .omega
  .exact C7u ks b a 1 h (by omega) (by omega)
def C7u:∀(ks:List A0a) (b a n:Int),0<=a->1<=n->n<=a+1->1<=A8i ks b a n/\A8i ks b a n<=a+1
 |[],b,a,n,h,h1,h2=>by rw[A8i];exact⟨h1,h2⟩
 |k::ks,b,a,n,h,h1,h2=>by
  rw[A8i];split
  .have:=C5q k (b+1) (a-n) (by omega);exact C7u ks b a _ h (by omega) (by omega)
  .exact⟨h1,h2⟩
end
def B6S(u:A0a)(most:Int):Bool:=decide (A9U u 0 most<=most)&&B1V u
section
variable (gl:Nat->AV) (M:Mem)
def C2b(l:List A0H)(o:Own)(hl:l.length<=maxLen):A0d (WC gl) 149 [.list 4 (A0g l) o] M (λv M'=>v=B (A8m l)/\M'=M):=by
 refine A0j hB func149 ?_;have e:l.length<=9223372036854775807:=by simpa[maxLen]using hl
 simp -dsimp -implicitDefEqProofs;refine A0v hB l.length 3 (λT M1=>∃i:Nat,i<=l.length/\T 0=.list 4 (A0g l) o/\T 3=I i/\M1=M/\A8m l=((l.drop i).all (λw=>decide (w.text.size<=100))&&decide (l.length<=300))) ?_ ?_
 .exact⟨0,by omega,by simp,by simp,rfl,by simp[A8m]⟩
 .rintro T M1 ⟨i,i1,t0,t3,rfl,ho⟩;by_cases hi:i<l.length
  ·(have b:(i:Int)<l.length:=by omega);have w1:IntKind.i64.wrap ((i:Int)+1)=(i+1:Nat):=by rw[A0T (by omega) (by omega)];omega
   have hd:l.drop i=l[i]::l.drop (i+1):=Z0j hi;rw[hd,Z1t]at ho;by_cases h0:l[i].text.size<=100
   ·(have a:¬(100:Int)<l[i].text.size:=by omega);have c:¬(l[i].text.size:Int)>100:=a
    rw[Z0s h0,Z0r]at ho;simp -dsimp -implicitDefEqProofs[t0,t3,hi,b,a,w1,A0H.row];exact⟨⟨i+1,by clear w1;omega,rfl,ho⟩,by clear w1;omega⟩
   ·(have a:(100:Int)<l[i].text.size:=by omega);have c:(l[i].text.size:Int)>100:=a
    rw[Z0w h0,Z0q,Z0q]at ho;simp -dsimp -implicitDefEqProofs[t0,t3,hi,b,a,A0H.row,ho]
  ·(have b:¬(i:Int)<l.length:=by omega);rw[show l.drop i=[]from Z0n (by omega),Z3I,Z0r]at ho
   simp -dsimp -implicitDefEqProofs[t0,t3,b,ho];by_cases h3:l.length<=300
   ·(have d:(l.length:Int)<=300:=by omega);simp[h3,d]
   ·(have d:¬(l.length:Int)<=300:=by omega);simp[h3,d]
end
section
variable (gl:Nat->AV)
def C2J:∀(u:A0a) (M:Mem),u.good->A0d (WC gl) 101 [.agg u.row] M (λv M'=>v=B (B1V u)/\M'=M)
 |.mk id kind lab hd ws ks,M,hg=>by
  obtain⟨_,_,_,hh,_,hw,_,hk,g⟩:=(A0a.good_iff _).1 hg;have h:ks.length<=9223372036854775807:=hk;refine A0j hB func101 ?_;have a:B1V (.mk id kind lab hd ws ks)=(decide (lab.size<=30)&&A8m hd&&A8m ws&&B0q ks):=by rw[B1V]
  by_cases h1:lab.size<=30;case neg=>
   (have b:(30:Int)<lab.size:=by omega);have d:(lab.size:Int)>30:=b
   rw[Z0w h1]at a;simp only[Z0q]at a;simp -dsimp -implicitDefEqProofs[A0a.row,b,a]
  have b:¬(30:Int)<lab.size:=by omega
  have d:¬(lab.size:Int)>30:=b;rw[Z0s h1,Z0r]at a;simp -dsimp -implicitDefEqProofs[A0a.row,b];refine A0f func149 (C2b gl M hd .no hh) ?_;cases h2:A8m hd;case false=>rw[h2,Z0q,Z0q]at a;simp -dsimp -implicitDefEqProofs[a]
  rw[h2,Z0r]at a;simp -dsimp -implicitDefEqProofs;refine A0f func149 (C2b gl _ ws .no hw) ?_;cases h3:A8m ws;case false=>rw[h3,Z0q]at a;simp -dsimp -implicitDefEqProofs[a]
  rw[h3,Z0r]at a;simp -dsimp -implicitDefEqProofs;refine A0v hB ks.length 3 (λT M1=>∃i:Nat,i<=ks.length/\T 1=.cptr [I id.act,I id.item,I id.n,I kind,S lab,.list 4 (A0g hd) .no,.list 4 (A0g ws) .no,.list 8 (A0r ks) .no]/\T 3=I i/\M1=M/\B0q ks=B0q (ks.drop i)) ?_ ?_
  .exact⟨0,by omega,by simp,by simp,rfl,by simp⟩
  .rintro T M1 ⟨i,i1,t1,t3,rfl,ho⟩;by_cases hi:i<ks.length
   ·(have e:(i:Int)<ks.length:=by omega);have w1:IntKind.i64.wrap ((i:Int)+1)=(i+1:Nat):=by rw[A0T (by omega) (by omega)];omega
    have f:ks.drop i=ks[i]::ks.drop (i+1):=Z0j hi;have c:ks[i]∈ks:=Z0u hi;rw[f,B0q]at ho;simp -dsimp -implicitDefEqProofs[t1,t3,hi,e];have:=A0a.kid_lt (u:=.mk id kind lab hd ws ks) c;refine A0f func101 (C2J ks[i] M1 (g _ c)) ?_;cases h4:B1V ks[i]
    .rw[h4,Z0q]at ho;simp -dsimp -implicitDefEqProofs[a,ho]
    .rw[h4,Z0r]at ho;simp -dsimp -implicitDefEqProofs[t1,t3,w1];exact⟨⟨i+1,by clear w1;omega,rfl,ho⟩,by clear w1;omega⟩
   ·(have e:¬(i:Int)<ks.length:=by omega);rw[show ks.drop i=[]from Z0n (by omega),B0q]at ho
    simp -dsimp -implicitDefEqProofs[t1,t3,e,a,ho]
termination_by u=>SizeOf.sizeOf u
def C6Y:∀(u:A0a) (b a:Int) (M:Mem),u.good->0<=b->b<=30->0<=a->a<=1000->A0d (WC gl) 100 [.agg u.row,I b,I a] M (λv M'=>v=I (A9U u b a)/\M'=M)
 |.mk id kind lab hd ws ks,b,a,M,hg,d0,d1,m0,m1=>by
  obtain⟨_,_,_,hh,_,hw,_,hk,h⟩:=(A0a.good_iff _).1 hg;have j:ks.length<=9223372036854775807:=hk;refine A0j hB func100 ?_;have c:A9U (.mk id kind lab hd ws ks) b a=if 20<b then a+1 else A8i ks b a 1:=by rw[A9U]
  by_cases h1:20<b
  .have f:b>20:=h1;have w1:IntKind.i64.wrap (a+1)=a+1:=A0T (by omega) (by omega);rw[Z0d h1]at c;simp -dsimp -implicitDefEqProofs[A0a.row,h1,w1,c]
  have f:¬b>20:=h1;rw[Z0e h1]at c;simp -dsimp -implicitDefEqProofs[A0a.row,h1];refine A0v hB ks.length 8 (λT M1=>∃i:Nat,i<=ks.length/\T 1=I b/\T 2=I a/\T 3=.cptr [I id.act,I id.item,I id.n,I kind,S lab,.list 4 (A0g hd) .no,.list 4 (A0g ws) .no,.list 8 (A0r ks) .no]/\T 8=I i/\M1=M/\∃n:Int,T 7=I n/\1<=n/\n<=a+1/\A8i ks b a 1=A8i (ks.drop i) b a n) ?_ ?_
  .exact⟨0,by omega,by simp,by simp,by simp,by simp,rfl,1,by simp,by omega,by omega,by simp⟩
  .rintro T M1 ⟨i,i1,t1,t2,t3,t8,rfl,n,t7,n1,n2,ho⟩;by_cases hi:i<ks.length
   ·(have d:(i:Int)<ks.length:=by omega);have w1:IntKind.i64.wrap ((i:Int)+1)=(i+1:Nat):=by rw[A0T (by omega) (by omega)];omega
    have g:ks.drop i=ks[i]::ks.drop (i+1):=Z0j hi;have e:ks[i]∈ks:=Z0u hi;rw[g,A8i]at ho;by_cases hn:n<=a
    .rw[Z0d hn]at ho;have w2:IntKind.i64.wrap (b+1)=b+1:=A0T (by omega) (by omega);have w3:IntKind.i64.wrap (a-n)=a-n:=A0T (by omega) (by omega);simp -dsimp -implicitDefEqProofs[t1,t2,t3,t7,t8,hi,d,hn,w2,w3];have:=A0a.kid_lt (u:=.mk id kind lab hd ws ks) e;refine A0f func100 (C6Y ks[i] (b+1) (a-n) M1 (h _ e) (by omega) (by omega) (by omega) (by omega)) ?_;have hs:=C5q ks[i] (b+1) (a-n) (by omega);generalize A9U ks[i] (b+1) (a-n)=z at*;have w4:IntKind.i64.wrap (n+z)=n+z:=A0T (by omega) (by omega);simp -dsimp -implicitDefEqProofs[t1,t2,t3,t8,w1,w4];exact⟨⟨i+1,by clear w1;omega,rfl,by omega,by omega,ho⟩,by clear w1;omega⟩
    .rw[Z0e hn]at ho;simp -dsimp -implicitDefEqProofs[t2,t3,t7,t8,d,hn,c,ho]
   ·(have d:¬(i:Int)<ks.length:=by omega);rw[show ks.drop i=[]from Z0n (by omega),A8i]at ho
    simp -dsimp -implicitDefEqProofs[t3,t7,t8,d,c,ho]
termination_by u=>SizeOf.sizeOf u
def D5m(u:A0a)(a:Int)(M:Mem)(hg:u.good)(m0:0<=a)(m1:a<=1000):A0d (WC gl) 46 [.agg u.row,I a] M (λv M'=>v=B (B6S u a)/\M'=M):=by
 refine A0j hB func46 ?_;simp -dsimp -implicitDefEqProofs;refine A0f func100 (C6Y gl u 0 a M hg (by omega) (by omega) m0 m1) ?_;by_cases h1:A9U u 0 a<=a
 .simp -dsimp -implicitDefEqProofs[h1];refine A0f func101 (C2J gl u _ hg) ?_;simp -dsimp -implicitDefEqProofs[B6S,h1]
 .simp -dsimp -implicitDefEqProofs[h1,B6S]
end
namespace TryTypes
@[simp] def E4Q:A0R prog 235=some 237:=by kernel_rfl
@[simp] def E7I:A2i prog 237=some false:=by kernel_rfl
@[simp] def E8t:A1h prog 237=some 1:=by kernel_rfl
@[simp] def E6q:A0C prog 237=some [.nilFunc]:=by kernel_rfl
@[simp] def E7T:A2i prog 240=some true:=by kernel_rfl
@[simp] def E8H:A1h prog 240=some 3:=by kernel_rfl
@[simp] def E2u:A1q prog 240 0=some 0:=by kernel_rfl
@[simp] def E2R:A0O prog 240 0=some (0,37):=by kernel_rfl
@[simp] def E2O:A1q prog 240 1=some 1:=by kernel_rfl
@[simp] def E3I:A0O prog 240 1=some (1,3):=by kernel_rfl
@[simp] def E3v:A1q prog 240 2=some 2:=by kernel_rfl
@[simp] def E7g:A2Y prog 240=true:=by kernel_rfl
@[simp] def E5Z:A0C prog 240=some [.slice none 0 0,.int .i64 0,.bool false]:=by kernel_rfl
end TryTypes
attribute [simp] underlying235 underlying237 underlying238 underlying240 underlying146
namespace TryTypes
@[simp] def E7S:A0R prog 44=some 90:=by kernel_rfl
@[simp] def E8M:A2i prog 46=some true:=by kernel_rfl
@[simp] def E9k:A1h prog 46=some 3:=by kernel_rfl
@[simp] def E5y:A1q prog 46 0=some 0:=by kernel_rfl
@[simp] def E5a:A0O prog 46 0=some (0,3):=by kernel_rfl
@[simp] def E5e:A1q prog 46 1=some 1:=by kernel_rfl
@[simp] def E5x:A0O prog 46 1=some (1,3):=by kernel_rfl
@[simp] def E5M:A1q prog 46 2=some 2:=by kernel_rfl
@[simp] def E8y:A2Y prog 46=true:=by kernel_rfl
@[simp] def E7m:A0C prog 46=some [.int .i64 0,.int .i64 0,.string ⟨#[]⟩]:=by kernel_rfl
@[simp] def E8z:A2i prog 47=some false:=by kernel_rfl
@[simp] def E9c:A1h prog 47=some 1:=by kernel_rfl
@[simp] def D4F:A0R prog 47=some 128:=by kernel_rfl
def D8O:A4f prog 47:=.inl ⟨128,by kernel_rfl⟩
@[simp] def E8x:A2i prog 49=some true:=by kernel_rfl
@[simp] def E9a:A1h prog 49=some 7:=by kernel_rfl
@[simp] def E6r:A1q prog 49 0=some 0:=by kernel_rfl
@[simp] def E5m:A0O prog 49 0=some (0,3):=by kernel_rfl
@[simp] def E5E:A1q prog 49 1=some 1:=by kernel_rfl
@[simp] def E5u:A0O prog 49 1=some (1,9):=by kernel_rfl
@[simp] def E5d:A1q prog 49 2=some 2:=by kernel_rfl
@[simp] def E6p:A0O prog 49 2=some (2,3):=by kernel_rfl
@[simp] def E5q:A1q prog 49 3=some 3:=by kernel_rfl
@[simp] def E4O:A0O prog 49 3=some (3,46):=by kernel_rfl
@[simp] def E6x:A1q prog 49 4=some 6:=by kernel_rfl
@[simp] def E8V:A2Y prog 49=true:=by kernel_rfl
@[simp] def E7j:A0C prog 49=some [.int .i64 0,.string ⟨#[]⟩,.int .i64 0,.int .i64 0,.int .i64 0,.string ⟨#[]⟩,.slice none 0 0]:=by kernel_rfl
@[simp] def D9X:A0R prog 50=some 79:=by kernel_rfl
def E4K:A4f prog 50:=.inl ⟨79,by kernel_rfl⟩
@[simp] def E8I:A2i prog 79=some true:=by kernel_rfl
@[simp] def E9i:A1h prog 79=some 6:=by kernel_rfl
@[simp] def E5h:A1q prog 79 0=some 0:=by kernel_rfl
@[simp] def E6e:A0O prog 79 0=some (0,23):=by kernel_rfl
@[simp] def E6f:A0O prog 79 1=some (3,23):=by kernel_rfl
@[simp] def E8n:A2Y prog 79=true:=by kernel_rfl
@[simp] def E7r:A0C prog 79=some [.int .i64 0,.int .i64 0,.int .i64 0,.int .i64 0,.int .i64 0,.int .i64 0]:=by kernel_rfl
def E3h:A3x prog 79 6 48:=⟨_,_,type79,rfl,rfl,rfl,rfl,by decide⟩
@[simp] def E8v:A2i prog 90=some true:=by kernel_rfl
@[simp] def E9n:A1h prog 90=some 5:=by kernel_rfl
@[simp] def E6l:A1q prog 90 0=some 0:=by kernel_rfl
@[simp] def E5G:A1q prog 90 1=some 3:=by kernel_rfl
@[simp] def E5A:A1q prog 90 2=some 4:=by kernel_rfl
@[simp] def E7F:A2i prog 128=some true:=by kernel_rfl
@[simp] def E8K:A1h prog 128=some 25:=by kernel_rfl
@[simp] def E2y:A1q prog 128 0=some 0:=by kernel_rfl
@[simp] def E3s:A0O prog 128 0=some (0,3):=by kernel_rfl
@[simp] def E4d:A1q prog 128 1=some 1:=by kernel_rfl
@[simp] def E4J:A0O prog 128 1=some (1,40):=by kernel_rfl
@[simp] def E4k:A1q prog 128 2=some 2:=by kernel_rfl
@[simp] def E3o:A1q prog 128 3=some 3:=by kernel_rfl
@[simp] def E4C:A0O prog 128 3=some (3,3):=by kernel_rfl
@[simp] def E4H:A1q prog 128 4=some 4:=by kernel_rfl
@[simp] def E2m:A1q prog 128 5=some 5:=by kernel_rfl
@[simp] def E3p:A0O prog 128 5=some (5,27):=by kernel_rfl
@[simp] def E3y:A1q prog 128 6=some 13:=by kernel_rfl
@[simp] def E4c:A1q prog 128 7=some 14:=by kernel_rfl
@[simp] def E4h:A1q prog 128 8=some 15:=by kernel_rfl
@[simp] def E2G:A1q prog 128 9=some 16:=by kernel_rfl
@[simp] def E1S:A1q prog 128 10=some 17:=by kernel_rfl
@[simp] def E2h:A1q prog 128 11=some 20:=by kernel_rfl
@[simp] def E1L:A1q prog 128 12=some 21:=by kernel_rfl
@[simp] def E1O:A1q prog 128 13=some 22:=by kernel_rfl
@[simp] def E1X:A1q prog 128 14=some 23:=by kernel_rfl
@[simp] def E1x:A1q prog 128 15=some 24:=by kernel_rfl
@[simp] def E6G:A2Y prog 128=true:=by kernel_rfl
@[simp] def E5F:A0C prog 128=some [.int .i64 0,.slice none 0 0,.slice none 0 0,.int .i64 0,.int .i64 0,.int .i64 0,.int .i64 0,.int .i64 0,.int .i64 0,.string ⟨#[]⟩,.slice none 0 0,.slice none 0 0,.slice none 0 0,.slice none 0 0,.slice none 0 0,.string ⟨#[]⟩,.string ⟨#[]⟩,.int .i64 0,.int .i64 0,.string ⟨#[]⟩,.int .i64 0,.int .i64 0,.int .i64 0,.string ⟨#[]⟩,.slice none 0 0]:=by kernel_rfl
def D4C:A3x prog 128 25 368:=⟨_,_,type128,rfl,rfl,rfl,rfl,by decide⟩
end TryTypes
attribute [simp] underlying44 underlying46 underlying47 underlying49 underlying50 underlying79 underlying90 underlying128 underlying129
namespace TryTypes
@[simp] def D8c:A0R prog 141=some 143:=by kernel_rfl
def E0D:A4f prog 141:=.inl ⟨143,by kernel_rfl⟩
@[simp] def D9G:A2i prog 143=some true:=by kernel_rfl
@[simp] def E2C:A1h prog 143=some 28:=by kernel_rfl
@[simp] def E3k:A1q prog 143 0=some 0:=by kernel_rfl
@[simp] def E2P:A0O prog 143 0=some (0,3):=by kernel_rfl
@[simp] def E3l:A1q prog 143 1=some 1:=by kernel_rfl
@[simp] def E2p:A0O prog 143 1=some (1,3):=by kernel_rfl
@[simp] def E2H:A0O prog 143 2=some (2,3):=by kernel_rfl
@[simp] def E3H:A1q prog 143 3=some 3:=by kernel_rfl
@[simp] def E2D:A0O prog 143 3=some (3,128):=by kernel_rfl
@[simp] def E7V:A2Y prog 143=true:=by kernel_rfl
@[simp] def E5o:A0C prog 143=some [.int .i64 0,.int .i64 0,.int .i64 0,.int .i64 0,.slice none 0 0,.slice none 0 0,.int .i64 0,.int .i64 0,.int .i64 0,.int .i64 0,.int .i64 0,.int .i64 0,.string ⟨#[]⟩,.slice none 0 0,.slice none 0 0,.slice none 0 0,.slice none 0 0,.slice none 0 0,.string ⟨#[]⟩,.string ⟨#[]⟩,.int .i64 0,.int .i64 0,.string ⟨#[]⟩,.int .i64 0,.int .i64 0,.int .i64 0,.string ⟨#[]⟩,.slice none 0 0]:=by kernel_rfl
def D9U:A3x prog 143 28 392:=⟨_,_,type143,rfl,rfl,rfl,rfl,by decide⟩
@[simp] def E6C:A2i prog 148=some false:=by kernel_rfl
@[simp] def E8D:A1h prog 148=some 1:=by kernel_rfl
@[simp] def E7K:A2i prog 192=some false:=by kernel_rfl
@[simp] def E8E:A1h prog 192=some 1:=by kernel_rfl
@[simp] def E7Y:A2i prog 260=some true:=by kernel_rfl
@[simp] def E8F:A1h prog 260=some 2:=by kernel_rfl
@[simp] def E3E:A1q prog 260 0=some 0:=by kernel_rfl
@[simp] def E3U:A0O prog 260 0=some (0,192):=by kernel_rfl
@[simp] def E2z:A1q prog 260 1=some 1:=by kernel_rfl
@[simp] def E3f:A0O prog 260 1=some (1,148):=by kernel_rfl
@[simp] def E7p:A2Y prog 260=true:=by kernel_rfl
@[simp] def E5c:A0C prog 260=some [.nilFunc,.nilFunc]:=by kernel_rfl
@[simp] def E6N:A2i prog 335=some true:=by kernel_rfl
@[simp] def E8A:A1h prog 335=some 4:=by kernel_rfl
@[simp] def E2o:A1q prog 335 0=some 0:=by kernel_rfl
@[simp] def E3Z:A0O prog 335 0=some (0,23):=by kernel_rfl
@[simp] def E2n:A1q prog 335 1=some 3:=by kernel_rfl
@[simp] def E4t:A0O prog 335 1=some (3,3):=by kernel_rfl
@[simp] def E7R:A2Y prog 335=true:=by kernel_rfl
@[simp] def E5n:A0C prog 335=some [.int .i64 0,.int .i64 0,.int .i64 0,.int .i64 0]:=by kernel_rfl
@[simp] def E8W:A1h prog 339=some 4:=by kernel_rfl
@[simp] def E2S:A1q prog 339 0=some 0:=by kernel_rfl
@[simp] def E2x:A0O prog 339 0=some (0,3):=by kernel_rfl
@[simp] def E4m:A1q prog 339 1=some 1:=by kernel_rfl
@[simp] def E4v:A0O prog 339 1=some (1,3):=by kernel_rfl
@[simp] def E4n:A1q prog 339 2=some 2:=by kernel_rfl
@[simp] def E4f:A1q prog 339 3=some 3:=by kernel_rfl
@[simp] def E6K:A2Y prog 339=true:=by kernel_rfl
@[simp] def E5N:A0C prog 339=some [.int .i64 0,.int .i64 0,.int .i64 0,.int .i64 0]:=by kernel_rfl
@[simp] def E7A:A2i prog 366=some true:=by kernel_rfl
@[simp] def E8B:A1h prog 366=some 4:=by kernel_rfl
@[simp] def E6m:A0C prog 366=some [.nilFunc,.nilFunc,.nilFunc,.nilFunc]:=by kernel_rfl
end TryTypes
attribute [simp] underlying58 underlying75 underlying126 underlying139 underlying141 underlying143 underlying148 underlying189 underlying192 underlying204 underlying227 underlying260 underlying262 underlying301 underlying303 underlying335 underlying339 underlying357 underlying366 underlying368 underlying371
end Go.Abs
