/- The texts CyBase, CyS, CyA, CyB, CyC, CyD, CvSa, CvSb, CvSc, CvSd, CvSe, CvA, CvB, CaTypes, CbTypes. -/
import Derived.Test.YtmpdkagfplajjaaGreatDoorAG19
import Derived.Test.YtmpdkagfplajjaaGreatDoorAG18
import Derived.Test.YtmpdkagfplajjaaGreatDoorAG20
import Derived.Test.YtmpdkagfplajjaaGreatDoorAG10
import Derived.Test.YtmpdkagfplajjaaGreatDoorAG16
set_option linter.all false
set_option maxRecDepth 100000
namespace Go.Abs
open Go.Proofs Tryz
noncomputable def WC(gl:Nat->AV):Ctx:=⟨prog,gl,λ_=>none,λ_=>false⟩
@[simp] def E3V(gl:Nat->AV):(WC gl).P=prog:=rfl
@[simp] def E0r(gl:Nat->AV):(WC gl).data=λ_=>false:=rfl
@[simp] def E3r(gl:Nat->AV):(WC gl).gl=gl:=rfl
def hB:A2I:=⟨λ_=>true,λ_=>true,λ_=>false⟩
def hV:A2I:=⟨λ_=>false,λ_=>false,λ_=>true⟩
def hW:A2I:=⟨λ_=>true,λ_=>false,λ_=>true⟩
@[simp] def E2V:hW.imm=λ_=>true:=rfl
@[simp] def E2t:hW.own=λ_=>false:=rfl
@[simp] def E2o:hW.vec=λ_=>true:=rfl
@[simp] def E2Q:hB.imm=λ_=>true:=rfl
@[simp] def E2D:hB.own=λ_=>true:=rfl
@[simp] def E1Y:hB.vec=λ_=>false:=rfl
def A0w(gl:Nat->AV):(WC gl).P.follows .mixedOrders=true:=by kernel_rfl
attribute [simp] underlying22 underlying23 underlying24 underlying25 underlying26 underlying27 underlying28 underlying31 underlying68 underlying69 underlying85 underlying92 underlying93 underlying94 underlying96 underlying130 underlying150 underlying152 underlying242 underlying245 underlying247 underlying248 underlying249 underlying278 underlying321 underlying3 underlying4 underlying5 underlying9 underlying21 underlying37 underlying38 underlying39 underlying40 underlying110 underlying113 underlying114 underlying116 underlying159 underlying178 underlying215
attribute [simp] Env.of
def A0F(l:List ByteArray):List (List AV):=l.map λs=>[S s]
@[simp] def B2v(l:List ByteArray):(A0F l).length=l.length:=by simp[A0F]
section
variable {P:Program} {t e:TypeId} {s:ByteArray} {k k2:IntKind} {i j:Int}
@[simp] def D3j(h:P.underlying t=some .string):A4C P t (.val (.string s)) (some (.val (.int k i))) none none=if 0<=i/\i<=s.size then some (.val (.string (s.extract i.toNat s.size)))else none:=by
 by_cases hc:0<=i/\i<=s.size
 .simp[A4C,A3X,h,A1J,hc]
 .simp[A4C,A3X,h,A1J,hc]
@[simp] def D3s(h:P.underlying t=some .string):A4C P t (.val (.string s)) none (some (.val (.int k i))) none=if 0<=i/\i<=s.size then some (.val (.string (s.extract 0 i.toNat)))else none:=by
 by_cases hc:0<=i/\i<=s.size
 .simp[A4C,A3X,h,A1J,hc]
 .simp[A4C,A3X,h,A1J,hc]
variable {sz:Nat} {rows:List (List AV)} {own:Own}
@[simp] def D3d(h:A0S P t=some e)(hs:A1e P e=some sz):A4C P t (.list sz rows own) (some (.val (.int k i))) none none=if 0<=i/\i<=rows.length then some (.list sz (rows.drop i.toNat) (B1D rows.length i.toNat rows.length none own))else none:=by
 by_cases hc:0<=i/\i<=rows.length
 .simp[A4C,A3X,A4l,h,hs,A1J,hc]
 .simp[A4C,A3X,A4l,h,hs,A1J,hc]
@[simp] def C9y(h:A0S P t=some e)(hs:A1e P e=some sz):A4C P t (.list sz rows own) (some (.val (.int k i))) (some (.val (.int k2 j))) none=if 0<=i/\i<=j/\j<=rows.length then some (.list sz ((rows.take j.toNat).drop i.toNat) (B1D rows.length i.toNat j.toNat none own))else none:=by
 by_cases hj:0<=j/\j<=rows.length
 .by_cases hc:0<=i/\i<=(j.toNat:Int)
  ·(have:0<=i/\i<=j/\j<=rows.length:=by omega);simp[A4C,A3X,A4l,h,hs,A1J,hj,hc.1,show i<=max j 0 from by omega];omega
  ·(have:¬(0<=i/\i<=j/\j<=rows.length):=by omega);rw[Z0e this]
   simp only[A4C,A3X,A4l,h,hs,A1J,Z3s,Z0d hj,Z0e hc,Z2N,Z1F,Z0G]
 .have:¬(0<=i/\i<=j/\j<=rows.length):=by omega
  simp only[A4C,A3X,A4l,h,hs,A1J,Z3s,Z0e hj,Z0e this];simp
end
def A2B{C}{f}{fn}{c}{args}{M}{Q:AV->Mem->Prop}(hf:C.P.funcs[f]?=some fn)(hb:fn.body=some c)(hn:(fn.name== "runtime.NumGoroutine")=false)(h:A0e C f args M Q):A5q C f args M Q:=.inl ⟨A9G hf hb hn,h⟩
def A0H{n}(h1:-9223372036854775808<=n)(h2:n<=9223372036854775807):IntKind.i64.wrap n=n:=IntWalk.i64_in _ ⟨h1,h2⟩
structure A0u where
 k:Int
 lab:ByteArray
def A0u.row(s:A0u):List AV:=[I s.k,S s.lab]
abbrev A5G(p:List A0u):AV:=.list 2 (p.map A0u.row) .no
structure A0P where
 k:Int
 path:List A0u
 to:ByteArray
 frm:Int
 at_:Int
def A0P.row(c:A0P):List AV:=[I c.k,A5G c.path,S c.to,I c.frm,I c.at_]
abbrev A0P.v(c:A0P):AV:=.agg c.row
open Go.Proofs
def A4H(e:TypeId)(M:Mem)(v:AV)(cs:List AV):Prop:=(v=.val (.slice none 0 0)/\cs=[])\/∃f g hist,v=.vref f g 1 0 cs.length/\M[f]?=some (.vec e 1 cs g hist)/\hist.lookup g=some cs.length
def A4H.lt{e:TypeId}{M}{v}{cs}(h:A4H e M v cs){f}(hf:obj v=some f):f<M.length:=by
 rcases h with⟨rfl,_⟩|⟨f',g,a,rfl,hm,_⟩
 .simp at hf
 .simp at hf;subst hf;exact(Z0c.1 hm).1
def A4H.keep{e:TypeId}{M M'}{v}{cs}(h:A4H e M v cs){o}(hk:A0c o M M')(ho:∀f,obj v=some f->o≠some f):A4H e M' v cs:=by
 rcases h with⟨rfl,h⟩|⟨f',g,a,rfl,hm,hl⟩
 .exact .inl ⟨rfl,h⟩
 .exact .inr ⟨f',g,a,rfl,hk.get hm (ho _ rfl),hl⟩
def A4H.src{e:TypeId}{M}{v}{cs}(h:A4H e M v cs):A0B M 1 v=some (cs,cs.length):=by
 rcases h with⟨rfl,rfl⟩|⟨f',g,a,rfl,hm,hl⟩
 .rfl
 .simp[A0B,hm,hl]
def A4H.len{e:TypeId}{M}{v}{cs}(h:A4H e M v cs){P}{t:TypeId}(ht:P.underlying t=some (.slice e)):A1H P t v=some cs.length:=by rcases h with⟨rfl,rfl⟩|⟨f',g,a,rfl,hm,hl⟩<;>simp[A1H,ht]
section
variable {C:Ctx} {M:Mem} {K:AV->Mem->Prop}
def push{own vec}{st xt e:TypeId}{bytes m}{s x}{cs news}{tg}(h1:A0S C.P st=some e)(h2:A4v C.P xt)(h3:A3O C.P e 1 bytes)(ho:A4H e M s cs)
 (hx:A0B M 1 x=some (news,m))(hm:news.length=m)(hb:(cs.length+m)*bytes<=140737488355328)(b:vec=true)
 (hk:∀v' M',A4H e M' v' (cs++news)->A0c (obj s) M M'->(obj v'=obj s\/A1n M.length v')->(news=[]->v'=s/\M'=M)->K v' M'):A7o C own vec st xt s x M K tg:=by
 subst b
 rcases ho with⟨rfl,rfl⟩|⟨f,g,a,rfl,hf,hl⟩
 .refine B2n h1 h2 h3 (by rfl) hx hb (by simp only[A4I,hx]) ?_ rfl;simp only[A3e,hx];by_cases h0:m=0
  .rw[Z0d h0];have hn:news=[]:=Z0w (by omega);subst hn;exact hk _ _ (.inl ⟨rfl,rfl⟩) (.refl _ _) (.inl rfl) λ_=>⟨rfl,rfl⟩
  .rw[Z0e h0];(refine hk _ _ (.inr ⟨M.length,0,[(0,m)],by simp[hm],by simp,by simp[List.lookup,hm]⟩) (.app _ _ _) (.inr ?_) λhn=>by subst hn;simp at hm;omega);intro f hf;simp at hf;omega
 .have d:A0B M 1 (.vref f g 1 0 cs.length)=some (cs,cs.length):=A4H.src (.inr ⟨f,g,a,rfl,hf,hl⟩);refine B2n h1 h2 h3 d hx hb ?_ ?_ rfl
  .simp only[A4I,hx,hf,hl];by_cases h0:0<m<;>simp<;>omega
  .simp only[A3e,hx,hf,hl];rw[Z0d (by simp)];by_cases h0:m=0
   .rw[Z0d h0];have hn:news=[]:=Z0w (by omega);subst hn;simp only[Z1f]at hk;exact hk _ _ (.inr ⟨f,g,a,rfl,hf,hl⟩) (.refl _ _) (.inl rfl) λ_=>⟨rfl,rfl⟩
   .rw[Z0e h0];have c:f<M.length:=(Z0c.1 hf).1;refine hk _ _ (.inr ⟨f,g+1,(g+1,cs.length+m)::a.filter (λp=>decide (p.2<=cs.length)),by simp[hm],by simp[c,Z0l],by simp[List.lookup,hm]⟩) (.set _ _ _) (.inl rfl) λhn=>by subst hn;simp at hm;omega
end
section
variable (gl:Nat->AV) (M:Mem)
def C8k(a b:A0P):A0e (WC gl) 61 [a.v,b.v] M (λv M'=>v=B (decide (a.frm=b.frm/\a.at_=b.at_))/\M'=M):=by
 refine A0k hB func61 ?_;by_cases h1:a.frm=b.frm
 .simp -dsimp -implicitDefEqProofs[Env.of,A0P.row,h1];by_cases h2:a.at_=b.at_<;>simp[h2]
 .simp -dsimp -implicitDefEqProofs[Env.of,A0P.row,h1]
def A3q(c:Int):Bool:=decide (c=44)||decide (c=59)||decide (c=46)||decide (c=58)||decide (c=41)
def A3V(s:ByteArray):ByteArray:=if s.size=0 then .empty else if A3q (A0T s (s.size-1))then s.extract (s.size-1) s.size else .empty
def A4G{s:ByteArray}:s=⟨#[]⟩<->s.size=0:=by
 constructor
 .rintro rfl;rfl
 .intro h;refine D1h ?_;have:s.data.size=0:=h;simp[Z3F this]
def D3L(s:ByteArray)(hs:s.size<=maxLen):A0e (WC gl) 66 [S s] M (λv M'=>v=S (A3V s)/\M'=M):=by
 refine A0k hB func66 ?_;by_cases h0:s.size=0
 .have he:s=⟨#[]⟩:=A4G.2 h0;simp -dsimp -implicitDefEqProofs[Env.of,he];rfl
 .have he:¬s=⟨#[]⟩:=λh=>h0 (A4G.1 h);have hw:IntKind.i64.wrap ((s.size:Int)-1)=(s.size-1:Nat):=by rw[A0H (by omega) (by simp only[maxLen]at hs;omega)];omega
  have d:s.size-1<s.size:=by omega
  have b:A3V s=if A3q (A0T s (s.size-1))then s.extract (s.size-1) s.size else .empty:=by rw[A3V,Z0e h0]
  generalize hc:A0T s (s.size-1)=c at b;have a:A3q c=(decide (c=44)||decide (c=59)||decide (c=46)||decide (c=58)||decide (c=41)):=rfl;by_cases c1:c=44
  ·(have hm:A3V s=s.extract (s.size-1) s.size:=by rw[b,Z0d (by rw[a,c1];rfl)]);simp -dsimp -implicitDefEqProofs[Env.of,he,hw,hc,c1,d,hm]
  by_cases c2:c=59
  ·(have hm:A3V s=s.extract (s.size-1) s.size:=by rw[b,Z0d (by rw[a,c2];rfl)]);simp -dsimp -implicitDefEqProofs[Env.of,he,hw,hc,c2,d,hm]
  by_cases c3:c=46
  ·(have hm:A3V s=s.extract (s.size-1) s.size:=by rw[b,Z0d (by rw[a,c3];rfl)]);simp -dsimp -implicitDefEqProofs[Env.of,he,hw,hc,c3,d,hm]
  by_cases c4:c=58
  ·(have hm:A3V s=s.extract (s.size-1) s.size:=by rw[b,Z0d (by rw[a,c4];rfl)]);simp -dsimp -implicitDefEqProofs[Env.of,he,hw,hc,c4,d,hm]
  by_cases c5:c=41
  ·(have hm:A3V s=s.extract (s.size-1) s.size:=by rw[b,Z0d (by rw[a,c5];rfl)]);simp -dsimp -implicitDefEqProofs[Env.of,he,hw,hc,c5,d,hm]
  ·(have hm:A3V s=.empty:=by rw[b,Z0e (by rw[a,Z0k c1,Z0k c2,Z0k c3,Z0k c4,Z0k c5];decide)]);simp -dsimp -implicitDefEqProofs[Env.of,he,hw,hc,c1,c2,c3,c4,c5,d,hm]
   rfl
end
open Go.Proofs TryTypes Tryz
def A2Z(M:Mem)(l:List ByteArray)(v:AV)(M':Mem):Prop:=A4H 9 M' v (l.map S)/\A0c none M M'/\A1n M.length v
def C7a(l:List ByteArray):(A0F l).flatten=l.map S:=by
 induction l with
 |nil=>rfl
 |cons a l ih=>simp only[A0F,Z0C,Z0Z]at ih|-;rw[ih];rfl
def D0G(M:Mem)(l:List ByteArray)(o:Own):A0B M 1 (.list 1 (A0F l) o)=some (l.map S,l.length):=by simp[A0B,C7a]
@[simp] def C6l{M}:A1v prog 37 0 [] M=some (.vref M.length 0 1 0 0,M++[.vec 9 1 [] 0 [(0,0)]]):=by simp[A1v,A0J]
def B5y(M:Mem):A4H 9 (M++[.vec 9 1 [] 0 [(0,0)]]) (.vref M.length 0 1 0 0) []:=.inr ⟨M.length,0,[(0,0)],rfl,by simp,by simp[List.lookup]⟩
def C1N{M M':Mem}{X:A0p}{v':AV}{l:List ByteArray}(h1:A4H 9 M' v' (l.map S))(h2:A0c (some M.length) (M++[X]) M')(h3:obj v'=some M.length\/A1n (M++[X]).length v'):A2Z M l v' M':=by
 refine⟨h1,⟨by have:=h2.1;simp at this;omega,λi hi _=>?_⟩,?_⟩
 .rw[h2.2 i (by simp;omega) (by simp;omega),Z0j hi]
 .intro f hf;rcases h3 with h|h
  .rw[h]at hf;simp at hf;omega
  .have:=h f hf;simp at this;omega
section
variable (gl:Nat->AV) (M:Mem)
def C4m(l:List ByteArray)(o:Own)(hl:l.length*16<=140737488355328):A0e (WC gl) 59 [.list 1 (A0F l) o] M (A2Z M l):=by
 refine A0k hW func59 ?_;have tail:∀(K:AV->Mem->Prop) (tg:Tag K),(∀v M',A2Z M l v M'->K v M')->A7o (WC gl) (A1R hW.own (some 7)) (A1R hW.vec (some 7)) 37 37 (.vref M.length 0 1 0 0) (.list 1 (A0F l) o) (M++[.vec 9 1 [] 0 [(0,0)]]) K tg:=by intro K tg hk;refine push (C:=WC gl) (e:=9) A4X A6S B0K (B5y M) (D0G _ l o) (by simp) (by simp;omega) rfl ?_;intro v' M' h1 h2 h3 _;exact hk _ _ (C1N (by simpa using h1) h2 h3)
 cases l with
 |nil=>
  simp -dsimp -implicitDefEqProofs[A0F];rw[B2T (.inl rfl) underlying37];intro b;cases b
  .simp -dsimp -implicitDefEqProofs;refine tail _ _ λv M' h=>?_;simp -dsimp -implicitDefEqProofs;exact h
  .simp -dsimp -implicitDefEqProofs[A2Z,A4H,A0c.refl,A1n]
 |cons a l=>simp -dsimp -implicitDefEqProofs[A0F];refine tail _ _ λv M' h=>?_;simp -dsimp -implicitDefEqProofs;exact h
end
section
variable (gl:Nat->AV) (M:Mem)
def D3X{h}{d}{x}{t:TypeId}{p}{af}{g}{ρ:Operand->AV}{M}{b}{a buf}(hx:ρ x=.ptr b 0)(hM:M[b]?=some (.cells 116 [a,buf])):A0A (WC gl) h ⟨d,.convert 113 215 x,t,p,af,g⟩ ρ M=some (.ptr b 0,M):=by simp[A0A,A0n,A0W,A0R,A0E,A2V,hx,A6X,B6l,hM,B0N]
def C9u{h}{d}{x}{t:TypeId}{p}{af}{g}{ρ:Operand->AV}{M}{b}{a buf}(hx:ρ x=.ptr b 0)(hM:M[b]?=some (.cells 116 [a,buf])):A0A (WC gl) h ⟨d,.convert 215 113 x,t,p,af,g⟩ ρ M=some (.ptr b 0,M):=by
 simp[A0A,A0n,A0W,A0R,A0E,A2V,hx,A6X,B6l,hM,B0N]
 kernel_rfl
@[simp] def D6L{P}{a b:TypeId}{x o}:A6X P a b (.ptr x o)=none:=by unfold A6X;split<;>simp_all
def List.set_eq_of_getElem?{α:Type}{l:List α}{i:Nat}{a:α}(h:l[i]?=some a):l.set i a=l:=by
 apply Z1J;intro j;rw[Z2d];split
 .rename_i e;subst e;obtain⟨h1,h2⟩:=Z0c.1 h;simp[h1,h2]
 .rfl
def D3C(M:Mem)(v:AV):A5q (WC gl) 170 [v] M (λr m=>r=v/\m=M):=(C4s (C:=WC gl) func170 rfl rfl (by kernel_rfl) (by kernel_rfl) [v] M v M [] rfl).1
@[simp] def D8k{P}{t:TypeId}{op}{y}{f:AV->Prop}{tg}:B9X P op t (.val (.pointer none)) y f tg=A1k (A1C P op t (.val (.pointer none)) y) f ⟨⟩:=D2V
@[simp] def D2e{P}{t e:TypeId}(h:P.underlying t=some (.pointer e)):A1C P .eql t (.val (.pointer none)) (.val (.pointer none))=some (.val (.bool true)):=by simp[A1C,A3o,A5k,h,A5a,B8s]
def C2g(b:Nat)(a c:AV)(hM:M[b]?=some (.cells 116 [a,c]))(ha:a=.val (.pointer none)\/a=.ptr b 0):A0e (WC gl) 118 [.ptr b 0] M (λv M'=>M'=M.set b (.cells 116 [.ptr b 0,c])):=by
 refine A0k hB func118 ?_
 rcases ha with rfl|rfl
 .simp -dsimp -implicitDefEqProofs[A0a hM,A0f hM];rw[D3X gl (by rfl) hM];simp -dsimp -implicitDefEqProofs;refine A6P (D3C gl _ _) ?_;rintro r M' ⟨rfl,rfl⟩;simp -dsimp -implicitDefEqProofs;rw[C9u gl (by rfl) hM];have d:b<M'.length:=(Z0c.1 hM).1;simp -dsimp -implicitDefEqProofs[A0f hM,A0d,AV.storable,d,B1j]
 .simp -dsimp -implicitDefEqProofs[A0a hM,A0f hM,B1j];rw[List.set_eq_of_getElem? hM]
def A7c(s:ByteArray):List AV:=s.data.toList.map λb=>.val (.int .u8 b.toNat)
@[simp] def C5V(s:ByteArray):(A7c s).length=s.size:=by simp[A7c]
def C6v(a b:ByteArray):A7c (a++b)=A7c a++A7c b:=by simp[A7c,B4Y]
def Bld(n b:Nat)(M:Mem)(bs:ByteArray):Prop:=n<=b/\∃a buf,M[b]?=some (.cells 116 [a,buf])/\(a=.val (.pointer none)\/a=.ptr b 0)/\A4H 5 M buf (A7c bs)/\(∀f,obj buf=some f->n<=f/\f≠b)/\(bs.size=0->buf=.val (.slice none 0 0))
def A0I(n:Nat)(M M':Mem):Prop:=M.length<=M'.length/\∀i,i<n->M'[i]?=M[i]?
def A0I.refl(n:Nat)(M:Mem):A0I n M M:=⟨Z0u _,λ_ _=>rfl⟩
def A0I.trans{n}{A B C}(h1:A0I n A B)(h2:A0I n B C):A0I n A C:=⟨Z0T h1.1 h2.1,λi hi=>(h2.2 i hi).trans (h1.2 i hi)⟩
def A0I.get{n}{A B}(h:A0I n A B){i}(hi:i<n){X}(hx:A[i]?=some X):B[i]?=some X:=by rw[h.2 i hi,hx]
def A0c.low{o}{A B}(h:A0c o A B){n}(hn:n<=A.length)(ho:∀f,o=some f->n<=f):A0I n A B:=⟨h.1,λi hi=>h.2 i (by omega) λe=>by have:=ho i e;omega⟩
def A0I.set{n f}(M:Mem)(X:A0p)(h:n<=f):A0I n M (M.set f X):=⟨by simp,λi hi=>by rw[Z0g (by omega)]⟩
def C3R(n b:Nat)(bs s:ByteArray)(h:Bld n b M bs)(q:bs.size+s.size<=140737488355328)(hn:n<=M.length):A0e (WC gl) 62 [.ptr b 0,S s] M (λv M'=>Bld n b M' (bs++s)/\A0I n M M'):=by
 obtain⟨k,a,c,hM,ha,ho,d,h0⟩:=h
 have t:b<M.length:=(Z0c.1 hM).1
 refine A0k hW func62 ?_
 simp -dsimp -implicitDefEqProofs
 refine A0j func118 (C2g gl M b a c hM ha) ?_
 rintro r M1 rfl
 have o:(M.set b (.cells 116 [.ptr b 0,c]))[b]?=some (.cells 116 [.ptr b 0,c]):=by simp[t]
 simp -dsimp -implicitDefEqProofs[A0a o]
 have u:A4H 5 (M.set b (.cells 116 [.ptr b 0,c])) c (A7c bs):=ho.keep (.set M b _) λf hf=>by have:=(d f hf).2;simp;omega
 refine push (C:=WC gl) (e:=5) D4U (.inr (by kernel_rfl)) E2J u (news:=A7c s) (m:=s.size) rfl (by simp) (by simpa using q) rfl ?_
 intro v' M' p1 p2 p3 p4
 have j:M'[b]?=some (.cells 116 [.ptr b 0,c]):=p2.get o λe=>(d b e).2 rfl
 have p:bs.size+s.size=0->v'=.val (.slice none 0 0):=λe=>by have:A7c s=[]:=Z0w (by rw[C5V];omega);rw[(p4 this).1];exact h0 (by omega)
 have i:∀f,obj v'=some f->n<=f/\f≠b:=by
  intro f hf;rcases p3 with e|e
  .rw[e]at hf;exact d f hf
  .have:=e f hf;simp at this;omega
 have fin:∀(w:AV) (hw:w=v'),Bld n b (M'.set b (.cells 116 [.ptr b 0,w])) (bs++s)/\A0I n M (M'.set b (.cells 116 [.ptr b 0,w])):=by
  intro w hw;subst hw;have l:b<M'.length:=(Z0c.1 j).1;refine⟨⟨k,.ptr b 0,w,by simp[l],.inr rfl,?_,i,by simpa using p⟩,?_⟩
  .rw[C6v];exact p1.keep (.set M' b _) λf hf=>by have:=(i f hf).2;simp;omega
  .refine((A0I.set M _ k).trans (p2.low (by simp;exact hn) λf hf=>(d f hf).1)).trans (.set M' _ k)
 rcases p1 with⟨e,_⟩|⟨f,g,y,e,_,_⟩
 .rw[e]at fin|-;simp -dsimp -implicitDefEqProofs[A0f j,A0d];exact fin _ rfl
 .rw[e]at fin|-;simp -dsimp -implicitDefEqProofs[A0f j,A0d];exact fin _ (by simp)
def C0j:∀l:List UInt8,B0H (l.map λb=>AV.val (.int .u8 b.toNat))=some l
 |[]=>rfl
 |a::l=>by have:=a.toNat_lt;simp only[Z0C,B0H];rw[Z0d ⟨by omega,by omega⟩,C0j l];simp
def D3z(s:ByteArray):B0H (A7c s)=some s.data.toList:=C0j _
def C9J(n b:Nat)(bs:ByteArray)(h:Bld n b M bs)(u:bs.size<=140737488355328)(hn:n<=M.length):A0e (WC gl) 64 [.ptr b 0] M (λv M'=>v=S bs/\A0I n M M'):=by
 obtain⟨y,a,t,hM,ha,ho,m,h0⟩:=h
 have w:b<M.length:=(Z0c.1 hM).1
 refine A0k hW func64 ?_
 rcases ho with⟨rfl,he⟩|⟨f,g,s,rfl,hf,hl⟩
 .have hs:bs.size=0:=by have:=congrArg List.length he;simpa using this
  have he:bs=⟨#[]⟩:=A4G.2 hs;simp -dsimp -implicitDefEqProofs;refine B9o hW (A0w gl) (λk=>if k=3\/k=8 then 1 else if k=4\/k=10 then 2 else 0) b (by rfl) (by kernel_rfl) ?_;simp -dsimp -implicitDefEqProofs[A0a hM,A3G,A2g,he,A0I.refl];rfl
 .have hs:bs.size≠0:=λe=>by have:=h0 e;simp at this
  have c:=m f rfl;simp -dsimp -implicitDefEqProofs;refine B9o hW (A0w gl) (λk=>if k=3\/k=8 then 1 else if k=4\/k=10 then 2 else 0) b (by rfl) (by kernel_rfl) ?_;have q:¬bs=ByteArray.empty:=λe=>hs (by rw[e];rfl);have i:0<bs.size:=by omega
  have j:prog.cellsOf 5=1:=by kernel_rfl
  have p:(bs.size:Int)<=9223372036854775807:=by omega
  have r:List.take bs.size (A7c bs)=A7c bs:=Z0l (by simp);have l:¬f=b:=c.2;have o:(⟨bs.data.toList.toArray⟩:ByteArray)=bs:=by simp
  have d:A0I n M (M.set f .gone):=.set M _ c.1;simp -dsimp -implicitDefEqProofs[A0a hM,A3G,A2g,hf,hl,q,i,j,p,r,D3z,l,o,d]
end
section
variable (gl:Nat->AV) (M:Mem)
def A6O:ByteArray:=⟨#[44,59,46,58,41]⟩
def A7h(c:Int):Int:=if c=44 then 0 else if c=59 then 1 else if c=46 then 2 else if c=58 then 3 else if c=41 then 4 else -1
def C3S(c:Int):decide (0<=A7h c)=A3q c:=by
 unfold A7h A3q;by_cases h1:c=44
 .simp[h1]
 by_cases h2:c=59
 .simp[h2]
 by_cases h3:c=46
 .simp[h3]
 by_cases h4:c=58
 .simp[h4]
 by_cases h5:c=41
 .simp[h5]
 simp[h1,h2,h3,h4,h5]
def C9s(c:UInt8):(match(List.range A6O.size).find? λi=>A6O[i]! ==c with
 |some i=>goInt i
 |none=>goInt (-1))=.int .i64 (A7h (c.toNat:Int)):=by
 have key:∀n:Fin 256,(match(List.range A6O.size).find? λi=>A6O[i]! ==UInt8.ofNat n.val with
  |some i=>(i:Int)
  |none=>-1)=A7h (n.val:Int):=by decide+kernel
 have k:=key ⟨c.toNat,c.toNat_lt⟩
 simp only[UInt8.ofNat_toNat]at k
 rw[<-k]
 cases(List.range A6O.size).find? λi=>A6O[i]! ==c<;>rfl
def D1Y(c:UInt8):A5q (WC gl) 344 [S A6O,.val (.int .u8 c.toNat)] M (λr m=>r=I (A7h c.toNat)/\m=M):=by refine(B2O (C:=WC gl) func344 rfl rfl (by kernel_rfl) (by kernel_rfl) [S A6O,.val (.int .u8 c.toNat)] M _ M [] rfl).1.mono ?_;rintro r m ⟨rfl,rfl⟩;refine⟨?_,rfl⟩;have:=C9s c;simp only[Int.toNat_natCast,Nat.toUInt8_eq,UInt8.ofNat_toNat];exact congrArg AV.val this
def C5r(c:UInt8):A0e (WC gl) 271 [S A6O,.val (.int .u8 c.toNat)] M (λr m=>r=I (A7h c.toNat)/\m=M):=by refine A0k hB func271 ?_;simp -dsimp -implicitDefEqProofs;refine A6P (D1Y gl M c) ?_;rintro r m ⟨rfl,rfl⟩;simp -dsimp -implicitDefEqProofs
def D2u(t:ByteArray)(ht:t.size=1):A0e (WC gl) 220 [S A6O,S t] M (λr m=>r=I (A7h (A0T t 0))/\m=M):=by
 refine A0k hB func220 ?_;have a:¬t=A6O:=λe=>by rw[e]at ht;revert ht;decide
 simp -dsimp -implicitDefEqProofs[ht,a];refine A0j func271 (C5r gl M (t.data.getD 0 0)) ?_;rintro r m ⟨rfl,rfl⟩;simp -dsimp -implicitDefEqProofs[A0T]
def D1u(t:ByteArray)(ht:t.size=1):A0e (WC gl) 171 [S A6O,S t] M (λr m=>r=I (A7h (A0T t 0))/\m=M):=by refine A0k hB func171 ?_;simp -dsimp -implicitDefEqProofs;refine A0j func220 (D2u gl M t ht) ?_;rintro r m ⟨rfl,rfl⟩;simp -dsimp -implicitDefEqProofs
def C3a(t:ByteArray)(ht:t.size=1):A0e (WC gl) 119 [S A6O,S t] M (λr m=>r=B (A3q (A0T t 0))/\m=M):=by refine A0k hB func119 ?_;simp -dsimp -implicitDefEqProofs;refine A0j func171 (D1u gl M t ht) ?_;rintro r m ⟨rfl,rfl⟩;simp -dsimp -implicitDefEqProofs[<-C3S]
def A8q{s}{i j k}(h:i+k<j)(hj:j<=s.size):A0T (s.extract i j) k=A0T s (i+k):=by
 have h1:k<(s.extract i j).size:=by simp;omega
 have h2:i+k<s.size:=by omega
 have e:(s.extract i j)[k]=s[i+k]:=ByteArray.getElem_extract h1;have g:∀(t:ByteArray) (n:Nat) (h:n<t.size),A0T t n=(t[n].toNat:Int):=by intro t n h;have h':n<t.data.size:=h;simp only[A0T,Z3Q,Z0U h',Z1p];rfl
 rw[g _ _ h1,g _ _ h2,e]
def D3N(s:ByteArray)(hs:s.size<=maxLen):A0e (WC gl) 63 [S s] M (λv M'=>v=S (A3V s)/\M'=M):=by
 refine A0k hB func63 ?_;by_cases h0:s.size=0
 .have he:s=⟨#[]⟩:=A4G.2 h0;simp -dsimp -implicitDefEqProofs[he];rfl
 .have he:¬s=⟨#[]⟩:=λh=>h0 (A4G.1 h);have hw:IntKind.i64.wrap ((s.size:Int)-1)=(s.size-1:Nat):=by rw[A0H (by omega) (by simp only[maxLen]at hs;omega)];omega
  have b:s.size-1<s.size:=by omega
  have d:s.size-1<=s.size:=by omega
  have a:A3V s=if A3q (A0T s (s.size-1))then s.extract (s.size-1) s.size else .empty:=by rw[A3V,Z0e h0]
  have c:A0T (s.extract (s.size-1) s.size) 0=A0T s (s.size-1):=A8q (by omega) (by omega);simp -dsimp -implicitDefEqProofs[he,hw,b];refine A0j func119 (C3a gl M (s.extract (s.size-1) s.size) (by simp;omega)) ?_;rintro r m ⟨rfl,rfl⟩;rw[c];cases hb:A3q (A0T s (s.size-1))
  .rw[hb]at a;simp -dsimp -implicitDefEqProofs[a];rfl
  .rw[hb]at a;simp -dsimp -implicitDefEqProofs[hw,a,b]
end
open Go.Proofs TryTypes
section
variable (gl:Nat->AV) {α:Type} {enc:α->List AV} {c:α->α->Int} {fid:FuncId} {first cap:List AV} {f g n:Nat} {M0:Mem}
end
def D8I{i j:Nat}(h:i+j<=1000000):IntKind.i64.wrap ((i:Int)+(j:Int))=((i+j:Nat):Int):=by rw[A0H (by omega) (by omega)];omega
def A1i{i:Nat}(h:i<=1000000):IntKind.i64.wrap ((i:Int)+1)=((i+1:Nat):Int):=by rw[A0H (by omega) (by omega)];omega
section
variable (gl:Nat->AV) {α:Type} {enc:α->List AV} {c:α->α->Int} {fid:FuncId} {first cap:List AV} {f g n:Nat} {M0:Mem}
end
section
variable (gl:Nat->AV) {α:Type} {enc:α->List AV} {c:α->α->Int} {fid:FuncId} {first cap:List AV} {f g n:Nat} {M0:Mem}
end
section
variable (gl:Nat->AV) {α:Type} {enc:α->List AV} {c:α->α->Int} {fid:FuncId} {first cap:List AV} {f g n:Nat} {M0:Mem}
end
section
variable (gl:Nat->AV) {α:Type} {enc:α->List AV} {c:α->α->Int} {fid:FuncId} {first cap:List AV} {f g n:Nat} {M0:Mem}
end
section
variable (gl:Nat->AV) (M:Mem)
end
def A8t(l:List A0G):Bool:=l.all (λw=>decide (w.text.size<=100))&&decide (l.length<=300)
mutual
def B1w:A0b->Bool
 |.mk _ _ l h w ks=>decide (l.size<=30)&&A8t h&&A8t w&&B0i ks
def B0i:List A0b->Bool
 |[]=>true
 |k::ks=>B1w k&&B0i ks
end
mutual
def A9x:A0b->Int->Int->Int
 |.mk _ _ _ _ _ ks,deep,most=>if 20<deep then most+1 else A8p ks deep most 1
def A8p:List A0b->Int->Int->Int->Int
 |[],_,_,n=>n
 |k::ks,deep,most,n=>if n<=most then A8p ks deep most (n+A9x k (deep+1) (most-n))else n
end
mutual
def C4z:∀(u:A0b) (b a:Int),0<=a->1<=A9x u b a/\A9x u b a<=a+1
 |.mk _ _ _ _ _ ks,b,a,h=>by
  rw[A9x];split
  .omega
  .exact C3f ks b a 1 h (by omega) (by omega)
def C3f:∀(ks:List A0b) (b a n:Int),0<=a->1<=n->n<=a+1->1<=A8p ks b a n/\A8p ks b a n<=a+1
 |[],b,a,n,h,h1,h2=>by rw[A8p];exact⟨h1,h2⟩
 |k::ks,b,a,n,h,h1,h2=>by
  rw[A8p];split
  .have:=C4z k (b+1) (a-n) (by omega);exact C3f ks b a _ h (by omega) (by omega)
  .exact⟨h1,h2⟩
end
def B6k(u:A0b)(most:Int):Bool:=decide (A9x u 0 most<=most)&&B1w u
section
variable (gl:Nat->AV) (M:Mem)
def C1w(l:List A0G)(o:Own)(hl:l.length<=maxLen):A0e (WC gl) 149 [.list 4 (A0g l) o] M (λv M'=>v=B (A8t l)/\M'=M):=by
 refine A0k hB func149 ?_;have e:l.length<=9223372036854775807:=by simpa[maxLen]using hl
 simp -dsimp -implicitDefEqProofs;refine A0s hB l.length 3 (λT M1=>∃i:Nat,i<=l.length/\T 0=.list 4 (A0g l) o/\T 3=I i/\M1=M/\A8t l=((l.drop i).all (λw=>decide (w.text.size<=100))&&decide (l.length<=300))) ?_ ?_
 .exact⟨0,by omega,by simp,by simp,rfl,by simp[A8t]⟩
 .rintro T M1 ⟨i,i1,t0,t3,rfl,ho⟩;by_cases hi:i<l.length
  ·(have b:(i:Int)<l.length:=by omega);have w1:IntKind.i64.wrap ((i:Int)+1)=(i+1:Nat):=by rw[A0H (by omega) (by omega)];omega
   have hd:l.drop i=l[i]::l.drop (i+1):=Z0h hi;rw[hd,Z1k]at ho;by_cases h0:l[i].text.size<=100
   ·(have a:¬(100:Int)<l[i].text.size:=by omega);have c:¬(l[i].text.size:Int)>100:=a
    rw[Z0p h0,Z0s]at ho;simp -dsimp -implicitDefEqProofs[t0,t3,hi,b,a,c,w1,A0G.row];exact⟨⟨i+1,by clear w1;omega,rfl,ho⟩,by clear w1;omega⟩
   ·(have a:(100:Int)<l[i].text.size:=by omega);have c:(l[i].text.size:Int)>100:=a
    rw[Z0k h0,Z0q,Z0q]at ho;simp -dsimp -implicitDefEqProofs[t0,t3,hi,b,a,c,A0G.row,ho]
  ·(have b:¬(i:Int)<l.length:=by omega);rw[show l.drop i=[]from Z0n (by omega),Z3j,Z0s]at ho
   simp -dsimp -implicitDefEqProofs[t0,t3,b,ho];by_cases h3:l.length<=300
   ·(have d:(l.length:Int)<=300:=by omega);simp[h3,d]
   ·(have d:¬(l.length:Int)<=300:=by omega);simp[h3,d]
end
section
variable (gl:Nat->AV)
def C1e:∀(u:A0b) (M:Mem),u.good->A0e (WC gl) 101 [.agg u.row] M (λv M'=>v=B (B1w u)/\M'=M)
 |.mk id kind lab hd ws ks,M,hg=>by
  obtain⟨_,_,_,hh,_,hw,_,hk,g⟩:=(A0b.good_iff _).1 hg;have h:ks.length<=9223372036854775807:=hk;refine A0k hB func101 ?_;have a:B1w (.mk id kind lab hd ws ks)=(decide (lab.size<=30)&&A8t hd&&A8t ws&&B0i ks):=by rw[B1w]
  by_cases h1:lab.size<=30;case neg=>
   (have b:(30:Int)<lab.size:=by omega);have e:(lab.size:Int)>30:=b
   rw[Z0k h1]at a;simp only[Z0q]at a;simp -dsimp -implicitDefEqProofs[A0b.row,b,e,a]
  have b:¬(30:Int)<lab.size:=by omega
  have e:¬(lab.size:Int)>30:=b;rw[Z0p h1,Z0s]at a;simp -dsimp -implicitDefEqProofs[A0b.row,b,e];refine A0i func149 (C1w gl M hd .no hh) ?_;cases h2:A8t hd;case false=>rw[h2,Z0q,Z0q]at a;simp -dsimp -implicitDefEqProofs[a]
  rw[h2,Z0s]at a;simp -dsimp -implicitDefEqProofs;refine A0i func149 (C1w gl _ ws .no hw) ?_;cases h3:A8t ws;case false=>rw[h3,Z0q]at a;simp -dsimp -implicitDefEqProofs[a]
  rw[h3,Z0s]at a;simp -dsimp -implicitDefEqProofs;refine A0s hB ks.length 3 (λT M1=>∃i:Nat,i<=ks.length/\T 1=.cptr [I id.act,I id.item,I id.n,I kind,S lab,.list 4 (A0g hd) .no,.list 4 (A0g ws) .no,.list 8 (A0O ks) .no]/\T 3=I i/\M1=M/\B0i ks=B0i (ks.drop i)) ?_ ?_
  .exact⟨0,by omega,by simp,by simp,rfl,by simp⟩
  .rintro T M1 ⟨i,i1,t1,t3,rfl,ho⟩;by_cases hi:i<ks.length
   ·(have d:(i:Int)<ks.length:=by omega);have w1:IntKind.i64.wrap ((i:Int)+1)=(i+1:Nat):=by rw[A0H (by omega) (by omega)];omega
    have f:ks.drop i=ks[i]::ks.drop (i+1):=Z0h hi;have c:ks[i]∈ks:=Z0v hi;rw[f,B0i]at ho;simp -dsimp -implicitDefEqProofs[t1,t3,hi,d];have:=A0b.kid_lt (u:=.mk id kind lab hd ws ks) c;refine A0i func101 (C1e ks[i] M1 (g _ c)) ?_;cases h4:B1w ks[i]
    .rw[h4,Z0q]at ho;simp -dsimp -implicitDefEqProofs[t1,t3,a,ho]
    .rw[h4,Z0s]at ho;simp -dsimp -implicitDefEqProofs[t1,t3,w1];exact⟨⟨i+1,by clear w1;omega,rfl,ho⟩,by clear w1;omega⟩
   ·(have d:¬(i:Int)<ks.length:=by omega);rw[show ks.drop i=[]from Z0n (by omega),B0i]at ho
    simp -dsimp -implicitDefEqProofs[t1,t3,d,a,ho]
termination_by u=>SizeOf.sizeOf u
def C5h:∀(u:A0b) (b a:Int) (M:Mem),u.good->0<=b->b<=30->0<=a->a<=1000->A0e (WC gl) 100 [.agg u.row,I b,I a] M (λv M'=>v=I (A9x u b a)/\M'=M)
 |.mk id kind lab hd ws ks,b,a,M,hg,d0,d1,m0,m1=>by
  obtain⟨_,_,_,hh,_,hw,_,hk,g⟩:=(A0b.good_iff _).1 hg;have j:ks.length<=9223372036854775807:=hk;refine A0k hB func100 ?_;have c:A9x (.mk id kind lab hd ws ks) b a=if 20<b then a+1 else A8p ks b a 1:=by rw[A9x]
  by_cases h1:20<b
  .have f:b>20:=h1;have w1:IntKind.i64.wrap (a+1)=a+1:=A0H (by omega) (by omega);rw[Z0d h1]at c;simp -dsimp -implicitDefEqProofs[A0b.row,h1,f,w1,c]
  have f:¬b>20:=h1;rw[Z0e h1]at c;simp -dsimp -implicitDefEqProofs[A0b.row,h1,f];refine A0s hB ks.length 8 (λT M1=>∃i:Nat,i<=ks.length/\T 1=I b/\T 2=I a/\T 3=.cptr [I id.act,I id.item,I id.n,I kind,S lab,.list 4 (A0g hd) .no,.list 4 (A0g ws) .no,.list 8 (A0O ks) .no]/\T 8=I i/\M1=M/\∃n:Int,T 7=I n/\1<=n/\n<=a+1/\A8p ks b a 1=A8p (ks.drop i) b a n) ?_ ?_
  .exact⟨0,by omega,by simp,by simp,by simp,by simp,rfl,1,by simp,by omega,by omega,by simp⟩
  .rintro T M1 ⟨i,i1,t1,t2,t3,t8,rfl,n,t7,n1,n2,ho⟩;by_cases hi:i<ks.length
   ·(have d:(i:Int)<ks.length:=by omega);have w1:IntKind.i64.wrap ((i:Int)+1)=(i+1:Nat):=by rw[A0H (by omega) (by omega)];omega
    have h:ks.drop i=ks[i]::ks.drop (i+1):=Z0h hi;have e:ks[i]∈ks:=Z0v hi;rw[h,A8p]at ho;by_cases hn:n<=a
    .rw[Z0d hn]at ho;have w2:IntKind.i64.wrap (b+1)=b+1:=A0H (by omega) (by omega);have w3:IntKind.i64.wrap (a-n)=a-n:=A0H (by omega) (by omega);simp -dsimp -implicitDefEqProofs[t1,t2,t3,t7,t8,hi,d,hn,w2,w3];have:=A0b.kid_lt (u:=.mk id kind lab hd ws ks) e;refine A0i func100 (C5h ks[i] (b+1) (a-n) M1 (g _ e) (by omega) (by omega) (by omega) (by omega)) ?_;have hs:=C4z ks[i] (b+1) (a-n) (by omega);generalize A9x ks[i] (b+1) (a-n)=z at*;have w4:IntKind.i64.wrap (n+z)=n+z:=A0H (by omega) (by omega);simp -dsimp -implicitDefEqProofs[t1,t2,t3,t7,t8,w1,w4];exact⟨⟨i+1,by clear w1;omega,rfl,by omega,by omega,ho⟩,by clear w1;omega⟩
    .rw[Z0e hn]at ho;simp -dsimp -implicitDefEqProofs[t1,t2,t3,t7,t8,hi,d,hn,c,ho]
   ·(have d:¬(i:Int)<ks.length:=by omega);rw[show ks.drop i=[]from Z0n (by omega),A8p]at ho
    simp -dsimp -implicitDefEqProofs[t1,t2,t3,t7,t8,d,c,ho]
termination_by u=>SizeOf.sizeOf u
def D2n(u:A0b)(a:Int)(M:Mem)(hg:u.good)(m0:0<=a)(m1:a<=1000):A0e (WC gl) 46 [.agg u.row,I a] M (λv M'=>v=B (B6k u a)/\M'=M):=by
 refine A0k hB func46 ?_;simp -dsimp -implicitDefEqProofs;refine A0i func100 (C5h gl u 0 a M hg (by omega) (by omega) m0 m1) ?_;by_cases h1:A9x u 0 a<=a
 .simp -dsimp -implicitDefEqProofs[h1];refine A0i func101 (C1e gl u _ hg) ?_;simp -dsimp -implicitDefEqProofs[B6k,h1]
 .simp -dsimp -implicitDefEqProofs[h1,B6k]
end
namespace TryTypes
@[simp] def E1d:A0S prog 235=some 237:=by kernel_rfl
@[simp] def E2b:A2v prog 237=some false:=by kernel_rfl
@[simp] def E3G:A1e prog 237=some 1:=by kernel_rfl
@[simp] def E0y:A0D prog 237=some [.nilFunc]:=by kernel_rfl
@[simp] def E1N:A2v prog 240=some true:=by kernel_rfl
@[simp] def E3p:A1e prog 240=some 3:=by kernel_rfl
@[simp] def D9X:A1D prog 240 0=some 0:=by kernel_rfl
@[simp] def D9u:A1g prog 240 0=some (0,37):=by kernel_rfl
@[simp] def D9G:A1D prog 240 1=some 1:=by kernel_rfl
@[simp] def D9v:A1g prog 240 1=some (1,3):=by kernel_rfl
@[simp] def D8E:A1D prog 240 2=some 2:=by kernel_rfl
@[simp] def E2r:A3S prog 240=true:=by kernel_rfl
@[simp] def E0g:A0D prog 240=some [.slice none 0 0,.int .i64 0,.bool false]:=by kernel_rfl
end TryTypes
attribute [simp] underlying235 underlying237 underlying238 underlying240 underlying146
namespace TryTypes
@[simp] def E2Y:A0S prog 44=some 90:=by kernel_rfl
@[simp] def E3z:A2v prog 46=some true:=by kernel_rfl
@[simp] def E3N:A1e prog 46=some 3:=by kernel_rfl
@[simp] def E0B:A1g prog 46 0=some (0,3):=by kernel_rfl
@[simp] def E1m:A1g prog 46 1=some (1,3):=by kernel_rfl
@[simp] def E3I:A3S prog 46=true:=by kernel_rfl
@[simp] def E1H:A0D prog 46=some [.int .i64 0,.int .i64 0,.string ⟨#[]⟩]:=by kernel_rfl
@[simp] def E3b:A2v prog 47=some false:=by kernel_rfl
@[simp] def E3T:A1e prog 47=some 1:=by kernel_rfl
@[simp] def C2N:A0S prog 47=some 128:=by kernel_rfl
def C8s:A4v prog 47:=.inl ⟨128,by kernel_rfl⟩
@[simp] def E3d:A2v prog 49=some true:=by kernel_rfl
@[simp] def E3Y:A1e prog 49=some 7:=by kernel_rfl
@[simp] def E0I:A1D prog 49 0=some 0:=by kernel_rfl
@[simp] def E0Q:A1g prog 49 0=some (0,3):=by kernel_rfl
@[simp] def E0H:A1D prog 49 1=some 1:=by kernel_rfl
@[simp] def E1r:A1g prog 49 1=some (1,9):=by kernel_rfl
@[simp] def E0k:A1D prog 49 2=some 2:=by kernel_rfl
@[simp] def E0A:A1g prog 49 2=some (2,3):=by kernel_rfl
@[simp] def E0h:A1D prog 49 3=some 3:=by kernel_rfl
@[simp] def E0M:A1g prog 49 3=some (3,46):=by kernel_rfl
@[simp] def E0i:A1D prog 49 4=some 6:=by kernel_rfl
@[simp] def E3v:A3S prog 49=true:=by kernel_rfl
@[simp] def E1K:A0D prog 49=some [.int .i64 0,.string ⟨#[]⟩,.int .i64 0,.int .i64 0,.int .i64 0,.string ⟨#[]⟩,.slice none 0 0]:=by kernel_rfl
@[simp] def C5R:A0S prog 50=some 79:=by kernel_rfl
def D2f:A4v prog 50:=.inl ⟨79,by kernel_rfl⟩
@[simp] def E3e:A2v prog 79=some true:=by kernel_rfl
@[simp] def E4d:A1e prog 79=some 6:=by kernel_rfl
@[simp] def E1F:A1D prog 79 0=some 0:=by kernel_rfl
@[simp] def E1w:A1g prog 79 0=some (0,23):=by kernel_rfl
@[simp] def E0R:A1g prog 79 1=some (3,23):=by kernel_rfl
@[simp] def E3i:A3S prog 79=true:=by kernel_rfl
@[simp] def E2O:A0D prog 79=some [.int .i64 0,.int .i64 0,.int .i64 0,.int .i64 0,.int .i64 0,.int .i64 0]:=by kernel_rfl
def D2s:A3O prog 79 6 48:=⟨_,_,type79,rfl,rfl,rfl,rfl,by decide⟩
@[simp] def E3t:A2v prog 90=some true:=by kernel_rfl
@[simp] def E3S:A1e prog 90=some 5:=by kernel_rfl
@[simp] def E0K:A1D prog 90 0=some 0:=by kernel_rfl
@[simp] def E0m:A1D prog 90 1=some 3:=by kernel_rfl
@[simp] def E1z:A1D prog 90 2=some 4:=by kernel_rfl
@[simp] def E2e:A2v prog 128=some true:=by kernel_rfl
@[simp] def E3A:A1e prog 128=some 25:=by kernel_rfl
@[simp] def D8x:A1D prog 128 0=some 0:=by kernel_rfl
@[simp] def D8F:A1g prog 128 0=some (0,3):=by kernel_rfl
@[simp] def D8V:A1D prog 128 1=some 1:=by kernel_rfl
@[simp] def D9y:A1g prog 128 1=some (1,40):=by kernel_rfl
@[simp] def D8B:A1D prog 128 2=some 2:=by kernel_rfl
@[simp] def D8L:A1D prog 128 3=some 3:=by kernel_rfl
@[simp] def D9B:A1g prog 128 3=some (3,3):=by kernel_rfl
@[simp] def D9Q:A1D prog 128 4=some 4:=by kernel_rfl
@[simp] def D8Q:A1D prog 128 5=some 5:=by kernel_rfl
@[simp] def D9N:A1g prog 128 5=some (5,27):=by kernel_rfl
@[simp] def D9E:A1D prog 128 6=some 13:=by kernel_rfl
@[simp] def D8D:A1D prog 128 7=some 14:=by kernel_rfl
@[simp] def D8U:A1D prog 128 8=some 15:=by kernel_rfl
@[simp] def D9i:A1D prog 128 9=some 16:=by kernel_rfl
@[simp] def D7V:A1D prog 128 10=some 17:=by kernel_rfl
@[simp] def D7z:A1D prog 128 11=some 20:=by kernel_rfl
@[simp] def D8o:A1D prog 128 12=some 21:=by kernel_rfl
@[simp] def D7o:A1D prog 128 13=some 22:=by kernel_rfl
@[simp] def D7i:A1D prog 128 14=some 23:=by kernel_rfl
@[simp] def D7U:A1D prog 128 15=some 24:=by kernel_rfl
@[simp] def E1W:A3S prog 128=true:=by kernel_rfl
@[simp] def E0Z:A0D prog 128=some [.int .i64 0,.slice none 0 0,.slice none 0 0,.int .i64 0,.int .i64 0,.int .i64 0,.int .i64 0,.int .i64 0,.int .i64 0,.string ⟨#[]⟩,.slice none 0 0,.slice none 0 0,.slice none 0 0,.slice none 0 0,.slice none 0 0,.string ⟨#[]⟩,.string ⟨#[]⟩,.int .i64 0,.int .i64 0,.string ⟨#[]⟩,.int .i64 0,.int .i64 0,.int .i64 0,.string ⟨#[]⟩,.slice none 0 0]:=by kernel_rfl
def C2d:A3O prog 128 25 368:=⟨_,_,type128,rfl,rfl,rfl,rfl,by decide⟩
end TryTypes
attribute [simp] underlying44 underlying46 underlying47 underlying49 underlying50 underlying79 underlying90 underlying128 underlying129
end Go.Abs
