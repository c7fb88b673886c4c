/- The texts CyBase, CyS, CyA, CyB, CyC, CyD, CvSa, CvSb, CvSc, CvSd, CvSe, CvA. -/
import Derived.Test.YtmpdkagfplajjaaGreatDoorGG20
import Derived.Test.YtmpdkagfplajjaaGreatDoorGG19
import Derived.Test.YtmpdkagfplajjaaGreatDoorGG21
import Derived.Test.YtmpdkagfplajjaaGreatDoorGG12
import Derived.Test.YtmpdkagfplajjaaGreatDoorGG17
set_option linter.all false
set_option maxRecDepth 100000
namespace Go.Abs
open Go.Proofs Tryz
noncomputable def WC(gl:Nat->AV):Ctx:=⟨prog,gl,λ_=>none,λ_=>false⟩
@[simp] def E3o(gl:Nat->AV):(WC gl).P=prog:=rfl
@[simp] def E5p(gl:Nat->AV):(WC gl).data=λ_=>false:=rfl
@[simp] def E9w(gl:Nat->AV):(WC gl).gl=gl:=rfl
def hB:A2r:=⟨λ_=>true,λ_=>true,λ_=>false⟩
def hV:A2r:=⟨λ_=>false,λ_=>false,λ_=>true⟩
def hW:A2r:=⟨λ_=>true,λ_=>false,λ_=>true⟩
@[simp] def E7s:hW.imm=λ_=>true:=rfl
@[simp] def E8c:hW.own=λ_=>false:=rfl
@[simp] def E7j:hW.vec=λ_=>true:=rfl
@[simp] def E7y:hB.imm=λ_=>true:=rfl
@[simp] def E8s:hB.own=λ_=>true:=rfl
@[simp] def E8H:hB.vec=λ_=>false:=rfl
@[simp] def E7k:hV.own=λ_=>false:=rfl
@[simp] def E7N:hV.vec=λ_=>true:=rfl
def A0t(gl:Nat->AV):(WC gl).P.follows .mixedOrders=true:=by kernel_rfl
attribute [simp] underlying22 underlying23 underlying24 underlying25 underlying26 underlying27 underlying28 underlying31 underlying68 underlying69 underlying85 underlying92 underlying93 underlying94 underlying96 underlying130 underlying150 underlying152 underlying242 underlying245 underlying247 underlying248 underlying249 underlying278 underlying321 underlying3 underlying4 underlying5 underlying9 underlying21 underlying37 underlying38 underlying39 underlying40 underlying110 underlying113 underlying114 underlying116 underlying159 underlying178 underlying215
attribute [simp] Env.of
def A1d(l:List ByteArray):List (List AV):=l.map λs=>[S s]
@[simp] def B5Z(l:List ByteArray):(A1d l).length=l.length:=by simp[A1d]
section
variable {P:Program} {t e:TypeId} {s:ByteArray} {k k2:IntKind} {i j:Int}
@[simp] def D6P(h:P.underlying t=some .string):A2z P t (.val (.string s)) (some (.val (.int k i))) none none=if 0<=i/\i<=s.size then some (.val (.string (s.extract i.toNat s.size)))else none:=by
 by_cases hc:0<=i/\i<=s.size
 .simp[A2z,A4d,h,A1K,hc]
 .simp[A2z,A4d,h,A1K,hc]
@[simp] def D7c(h:P.underlying t=some .string):A2z P t (.val (.string s)) none (some (.val (.int k i))) none=if 0<=i/\i<=s.size then some (.val (.string (s.extract 0 i.toNat)))else none:=by
 by_cases hc:0<=i/\i<=s.size
 .simp[A2z,A4d,h,A1K,hc]
 .simp[A2z,A4d,h,A1K,hc]
variable {sz:Nat} {rows:List (List AV)} {own:Own}
@[simp] def D5p(h:A1h P t=some e)(hs:A1t P e=some sz):A2z P t (.list sz rows own) (some (.val (.int k i))) none none=if 0<=i/\i<=rows.length then some (.list sz (rows.drop i.toNat) (B0o rows.length i.toNat rows.length none own))else none:=by
 by_cases hc:0<=i/\i<=rows.length
 .simp[A2z,A4d,A4l,h,hs,A1K,hc]
 .simp[A2z,A4d,A4l,h,hs,A1K,hc]
@[simp] def D2z(h:A1h P t=some e)(hs:A1t P e=some sz):A2z P t (.list sz rows own) (some (.val (.int k i))) (some (.val (.int k2 j))) none=if 0<=i/\i<=j/\j<=rows.length then some (.list sz ((rows.take j.toNat).drop i.toNat) (B0o rows.length i.toNat j.toNat none own))else none:=by
 by_cases hj:0<=j/\j<=rows.length
 .by_cases hc:0<=i/\i<=(j.toNat:Int)
  ·(have:0<=i/\i<=j/\j<=rows.length:=by omega);simp[A2z,A4d,A4l,h,hs,A1K,hj,hc.1,show i<=max j 0 from by omega];omega
  ·(have:¬(0<=i/\i<=j/\j<=rows.length):=by omega);rw[Z0c this]
   simp only[A2z,A4d,A4l,h,hs,A1K,Z3C,Z0d hj,Z0c hc,Z3r,Z2i,Z0M]
 .have:¬(0<=i/\i<=j/\j<=rows.length):=by omega
  simp only[A2z,A4d,A4l,h,hs,A1K,Z3C,Z0c hj,Z0c this];simp
end
def A0V{C}{f}{fn}{c}{args}{M}{Q:AV->Mem->Prop}(hf:C.P.funcs[f]?=some fn)(hb:fn.body=some c)(hn:(fn.name== "runtime.NumGoroutine")=false)(h:A0c C f args M Q):A4A C f args M Q:=.inl ⟨B2P hf hb hn,h⟩
def A0J{n}(h1:-9223372036854775808<=n)(h2:n<=9223372036854775807):IntKind.i64.wrap n=n:=IntWalk.i64_in _ ⟨h1,h2⟩
structure A0M where
 k:Int
 lab:ByteArray
def A0M.row(s:A0M):List AV:=[I s.k,S s.lab]
abbrev A9r(p:List A0M):AV:=.list 2 (p.map A0M.row) .no
structure A1F where
 k:Int
 path:List A0M
 to:ByteArray
 frm:Int
 at_:Int
def A1F.row(c:A1F):List AV:=[I c.k,A9r c.path,S c.to,I c.frm,I c.at_]
abbrev A1F.v(c:A1F):AV:=.agg c.row
open Go.Proofs
def A5H(e:TypeId)(M:Mem)(v:AV)(cs:List AV):Prop:=(v=.val (.slice none 0 0)/\cs=[])\/∃f g hist,v=.vref f g 1 0 cs.length/\M[f]?=some (.vec e 1 cs g hist)/\hist.lookup g=some cs.length
def A5H.lt{e:TypeId}{M}{v}{cs}(h:A5H e M v cs){f}(hf:obj v=some f):f<M.length:=by
 rcases h with⟨rfl,_⟩|⟨f',g,a,rfl,hm,_⟩
 .simp at hf
 .simp at hf;subst hf;exact(Z0a.1 hm).1
def A5H.keep{e:TypeId}{M M'}{v}{cs}(h:A5H e M v cs){o}(hk:A0d o M M')(ho:∀f,obj v=some f->o≠some f):A5H e M' v cs:=by
 rcases h with⟨rfl,h⟩|⟨f',g,a,rfl,hm,hl⟩
 .exact .inl ⟨rfl,h⟩
 .exact .inr ⟨f',g,a,rfl,hk.get hm (ho _ rfl),hl⟩
def A5H.src{e:TypeId}{M}{v}{cs}(h:A5H e M v cs):A0A M 1 v=some (cs,cs.length):=by
 rcases h with⟨rfl,rfl⟩|⟨f',g,a,rfl,hm,hl⟩
 .rfl
 .simp[A0A,hm,hl]
def A5H.len{e:TypeId}{M}{v}{cs}(h:A5H e M v cs){P}{t:TypeId}(ht:P.underlying t=some (.slice e)):A2v P t v=some cs.length:=by rcases h with⟨rfl,rfl⟩|⟨f',g,a,rfl,hm,hl⟩<;>simp[A2v,ht]
section
variable {C:Ctx} {M:Mem} {K:AV->Mem->Prop}
def push{own vec}{st xt e:TypeId}{bytes m}{s x}{cs news}{tg}(h1:A1h C.P st=some e)(h2:A4f C.P xt)(h3:A3y C.P e 1 bytes)(ho:A5H e M s cs)
 (hx:A0A M 1 x=some (news,m))(hm:news.length=m)(hb:(cs.length+m)*bytes<=140737488355328)(b:vec=true)
 (hk:∀v' M',A5H e M' v' (cs++news)->A0d (obj s) M M'->(obj v'=obj s\/A1g M.length v')->(news=[]->v'=s/\M'=M)->K v' M'):A5x C own vec st xt s x M K tg:=by
 subst b
 rcases ho with⟨rfl,rfl⟩|⟨f,g,a,rfl,hf,hl⟩
 .refine A7t h1 h2 h3 (by rfl) hx hb (by simp only[A6B,hx]) ?_ rfl;simp only[A7N,hx];by_cases h0:m=0
  .rw[Z0d h0];have hn:news=[]:=Z0z (by omega);subst hn;exact hk _ _ (.inl ⟨rfl,rfl⟩) (A0d.refl _ _) (.inl rfl) λ_=>⟨rfl,rfl⟩
  .rw[Z0c h0];(refine hk _ _ (.inr ⟨M.length,0,[(0,m)],by simp[hm],by simp,by simp[List.lookup,hm]⟩) (.app _ _ _) (.inr ?_) λhn=>by subst hn;simp at hm;omega);intro f hf;simp at hf;omega
 .have d:A0A M 1 (.vref f g 1 0 cs.length)=some (cs,cs.length):=A5H.src (.inr ⟨f,g,a,rfl,hf,hl⟩);refine A7t h1 h2 h3 d hx hb ?_ ?_ rfl
  .simp only[A6B,hx,hf,hl];by_cases h0:0<m<;>simp<;>omega
  .simp only[A7N,hx,hf,hl];rw[Z0d (by simp)];by_cases h0:m=0
   .rw[Z0d h0];have hn:news=[]:=Z0z (by omega);subst hn;simp only[Z1b]at hk;exact hk _ _ (.inr ⟨f,g,a,rfl,hf,hl⟩) (A0d.refl _ _) (.inl rfl) λ_=>⟨rfl,rfl⟩
   .rw[Z0c h0];have c:f<M.length:=(Z0a.1 hf).1;refine hk _ _ (.inr ⟨f,g+1,(g+1,cs.length+m)::a.filter (λp=>decide (p.2<=cs.length)),by simp[hm],by simp[c,Z0k],by simp[List.lookup,hm]⟩) (.set _ _ _) (.inl rfl) λhn=>by subst hn;simp at hm;omega
end
section
variable (gl:Nat->AV) (M:Mem)
def D0B(a b:A1F):A0c (WC gl) 61 [a.v,b.v] M (λv M'=>v=B (decide (a.frm=b.frm/\a.at_=b.at_))/\M'=M):=by
 refine A0o hB func61 ?_;by_cases h1:a.frm=b.frm
 .simp -dsimp -implicitDefEqProofs[Env.of,A1F.row,h1];by_cases h2:a.at_=b.at_<;>simp[h2]
 .simp -dsimp -implicitDefEqProofs[Env.of,A1F.row,h1]
def A5D(c:Int):Bool:=decide (c=44)||decide (c=59)||decide (c=46)||decide (c=58)||decide (c=41)
def B2E(s:ByteArray):ByteArray:=if s.size=0 then .empty else if A5D (A0L s (s.size-1))then s.extract (s.size-1) s.size else .empty
def A6Q{s:ByteArray}:s=⟨#[]⟩<->s.size=0:=by
 constructor
 .rintro rfl;rfl
 .intro h;refine D6v ?_;have:s.data.size=0:=h;simp[Array.eq_empty_of_size_eq_zero this]
end
open Go.Proofs TryTypes Tryz
def A4B(M:Mem)(l:List ByteArray)(v:AV)(M':Mem):Prop:=A5H 9 M' v (l.map S)/\A0d none M M'/\A1g M.length v
def C8z(l:List ByteArray):(A1d l).flatten=l.map S:=by
 induction l with
 |nil=>rfl
 |cons a l ih=>simp only[A1d,Z0s,Z0V]at ih|-;rw[ih];rfl
def E1r(M:Mem)(l:List ByteArray)(o:Own):A0A M 1 (.list 1 (A1d l) o)=some (l.map S,l.length):=by simp[A0A,C8z]
@[simp] def E0A{M}:A1J prog 37 0 [] M=some (.vref M.length 0 1 0 0,M++[.vec 9 1 [] 0 [(0,0)]]):=by simp[A1J,A0W]
def D2o(M:Mem):A5H 9 (M++[.vec 9 1 [] 0 [(0,0)]]) (.vref M.length 0 1 0 0) []:=.inr ⟨M.length,0,[(0,0)],rfl,by simp,by simp[List.lookup]⟩
def C4F{M M':Mem}{X:A0p}{v':AV}{l:List ByteArray}(h1:A5H 9 M' v' (l.map S))(h2:A0d (some M.length) (M++[X]) M')(h3:obj v'=some M.length\/A1g (M++[X]).length v'):A4B M l v' M':=by
 refine⟨h1,⟨by have:=h2.1;simp at this;omega,λi hi _=>?_⟩,?_⟩
 .rw[h2.2 i (by simp;omega) (by simp;omega),Z0h hi]
 .intro f hf;rcases h3 with h|h
  .rw[h]at hf;simp at hf;omega
  .have:=h f hf;simp at this;omega
section
variable (gl:Nat->AV) (M:Mem)
def C8i(l:List ByteArray)(o:Own)(hl:l.length*16<=140737488355328):A0c (WC gl) 59 [.list 1 (A1d l) o] M (A4B M l):=by
 refine A0o hW func59 ?_;have tail:∀(K:AV->Mem->Prop) (tg:Tag K),(∀v M',A4B M l v M'->K v M')->A5x (WC gl) (A2y hW.own (some 7)) (A2y hW.vec (some 7)) 37 37 (.vref M.length 0 1 0 0) (.list 1 (A1d l) o) (M++[.vec 9 1 [] 0 [(0,0)]]) K tg:=by intro K tg hk;refine push (C:=WC gl) (e:=9) A8Q B1E B9w (D2o M) (E1r _ l o) (by simp) (by simp;omega) rfl ?_;intro v' M' h1 h2 h3 _;exact hk _ _ (C4F (by simpa using h1) h2 h3)
 cases l with
 |nil=>
  simp -dsimp -implicitDefEqProofs[A1d];rw[A7w (.inl rfl) underlying37];intro b;cases b
  .simp -dsimp -implicitDefEqProofs;refine tail _ _ λv M' h=>?_;simp -dsimp -implicitDefEqProofs;exact h
  .simp -dsimp -implicitDefEqProofs[A4B,A5H,A0d.refl,A1g]
 |cons a l=>simp -dsimp -implicitDefEqProofs[A1d];refine tail _ _ λv M' h=>?_;simp -dsimp -implicitDefEqProofs;exact h
end
section
variable (gl:Nat->AV) (M:Mem)
def D7J{h}{d}{x}{t:TypeId}{p}{af}{g}{ρ:Operand->AV}{M}{b}{a buf}(hx:ρ x=.ptr b 0)(hM:M[b]?=some (.cells 116 [a,buf])):A0Q (WC gl) h ⟨d,.convert 113 215 x,t,p,af,g⟩ ρ M=some (.ptr b 0,M):=by simp[A0Q,A0E,A1u,A1p,A0Y,A3N,hx,A4v,B8X,hM,B2T]
def D3q{h}{d}{x}{t:TypeId}{p}{af}{g}{ρ:Operand->AV}{M}{b}{a buf}(hx:ρ x=.ptr b 0)(hM:M[b]?=some (.cells 116 [a,buf])):A0Q (WC gl) h ⟨d,.convert 215 113 x,t,p,af,g⟩ ρ M=some (.ptr b 0,M):=by
 simp[A0Q,A0E,A1u,A1p,A0Y,A3N,hx,A4v,B8X,hM,B2T]
 kernel_rfl
@[simp] def E0T{P}{a b:TypeId}{x o}:A4v P a b (.ptr x o)=none:=by unfold A4v;split<;>simp_all
def List.set_eq_of_getElem?{α:Type}{l:List α}{i:Nat}{a:α}(h:l[i]?=some a):l.set i a=l:=by
 apply Z1L;intro j;rw[Z2A];split
 .rename_i e;subst e;obtain⟨h1,h2⟩:=Z0a.1 h;simp[h1,h2]
 .rfl
def D7g(M:Mem)(v:AV):A4A (WC gl) 170 [v] M (λr m=>r=v/\m=M):=(D5I (C:=WC gl) func170 rfl rfl (by kernel_rfl) (by kernel_rfl) [v] M v M [] rfl).1
@[simp] def E1W{P}{t:TypeId}{op}{y}{f:AV->Prop}{tg}:C0E P op t (.val (.pointer none)) y f tg=A1s (A1z P op t (.val (.pointer none)) y) f ⟨⟩:=C5H
@[simp] def D5m{P}{t e:TypeId}(h:P.underlying t=some (.pointer e)):A1z P .eql t (.val (.pointer none)) (.val (.pointer none))=some (.val (.bool true)):=by simp[A1z,A2O,A3I,h,A3F,B5n]
def C4o(b:Nat)(a c:AV)(hM:M[b]?=some (.cells 116 [a,c]))(ha:a=.val (.pointer none)\/a=.ptr b 0):A0c (WC gl) 118 [.ptr b 0] M (λv M'=>M'=M.set b (.cells 116 [.ptr b 0,c])):=by
 refine A0o hB func118 ?_
 rcases ha with rfl|rfl
 .simp -dsimp -implicitDefEqProofs[A0b hM,A0h hM];rw[D7J gl (by rfl) hM];simp -dsimp -implicitDefEqProofs;refine A1l (D7g gl _ _) ?_;rintro r M' ⟨rfl,rfl⟩;simp -dsimp -implicitDefEqProofs;rw[D3q gl (by rfl) hM];have d:b<M'.length:=(Z0a.1 hM).1;simp -dsimp -implicitDefEqProofs[A0h hM,A0e,AV.storable,d,B1L]
 .simp -dsimp -implicitDefEqProofs[A0b hM,A0h hM,B1L];rw[List.set_eq_of_getElem? hM]
def A7c(s:ByteArray):List AV:=s.data.toList.map λb=>.val (.int .u8 b.toNat)
@[simp] def C9g(s:ByteArray):(A7c s).length=s.size:=by simp[A7c]
def C8C(a b:ByteArray):A7c (a++b)=A7c a++A7c b:=by simp[A7c,B5v]
def Bld(n b:Nat)(M:Mem)(bs:ByteArray):Prop:=n<=b/\∃a buf,M[b]?=some (.cells 116 [a,buf])/\(a=.val (.pointer none)\/a=.ptr b 0)/\A5H 5 M buf (A7c bs)/\(∀f,obj buf=some f->n<=f/\f≠b)/\(bs.size=0->buf=.val (.slice none 0 0))
def A1c(n:Nat)(M M':Mem):Prop:=M.length<=M'.length/\∀i,i<n->M'[i]?=M[i]?
def A1c.refl(n:Nat)(M:Mem):A1c n M M:=⟨Z0n _,λ_ _=>rfl⟩
def A1c.trans{n}{A B C}(h1:A1c n A B)(h2:A1c n B C):A1c n A C:=⟨Z0X h1.1 h2.1,λi hi=>(h2.2 i hi).trans (h1.2 i hi)⟩
def A1c.get{n}{A B}(h:A1c n A B){i}(hi:i<n){X}(hx:A[i]?=some X):B[i]?=some X:=by rw[h.2 i hi,hx]
def A0d.low{o}{A B}(h:A0d o A B){n}(hn:n<=A.length)(ho:∀f,o=some f->n<=f):A1c n A B:=⟨h.1,λi hi=>h.2 i (by omega) λe=>by have:=ho i e;omega⟩
def A1c.set{n f}(M:Mem)(X:A0p)(h:n<=f):A1c n M (M.set f X):=⟨by simp,λi hi=>by rw[Z0e (by omega)]⟩
def C7D(n b:Nat)(bs s:ByteArray)(h:Bld n b M bs)(q:bs.size+s.size<=140737488355328)(hn:n<=M.length):A0c (WC gl) 62 [.ptr b 0,S s] M (λv M'=>Bld n b M' (bs++s)/\A1c n M M'):=by
 obtain⟨k,a,c,hM,ha,ho,d,h0⟩:=h
 have p:b<M.length:=(Z0a.1 hM).1
 refine A0o hW func62 ?_
 simp -dsimp -implicitDefEqProofs
 refine A0s func118 (C4o gl M b a c hM ha) ?_
 rintro r M1 rfl
 have o:(M.set b (.cells 116 [.ptr b 0,c]))[b]?=some (.cells 116 [.ptr b 0,c]):=by simp[p]
 simp -dsimp -implicitDefEqProofs[A0b o]
 have t:A5H 5 (M.set b (.cells 116 [.ptr b 0,c])) c (A7c bs):=ho.keep (.set M b _) λf hf=>by have:=(d f hf).2;simp;omega
 refine push (C:=WC gl) (e:=5) D7B (.inr (by kernel_rfl)) E7o t (news:=A7c s) (m:=s.size) rfl (by simp) (by simpa using q) rfl ?_
 intro v' M' p1 p2 p3 p4
 have j:M'[b]?=some (.cells 116 [.ptr b 0,c]):=p2.get o λe=>(d b e).2 rfl
 have u:bs.size+s.size=0->v'=.val (.slice none 0 0):=λe=>by have:A7c s=[]:=Z0z (by rw[C9g];omega);rw[(p4 this).1];exact h0 (by omega)
 have i:∀f,obj v'=some f->n<=f/\f≠b:=by
  intro f hf;rcases p3 with e|e
  .rw[e]at hf;exact d f hf
  .have:=e f hf;simp at this;omega
 have fin:∀(w:AV) (hw:w=v'),Bld n b (M'.set b (.cells 116 [.ptr b 0,w])) (bs++s)/\A1c n M (M'.set b (.cells 116 [.ptr b 0,w])):=by
  intro w hw;subst hw;have l:b<M'.length:=(Z0a.1 j).1;refine⟨⟨k,.ptr b 0,w,by simp[l],.inr rfl,?_,i,by simpa using u⟩,?_⟩
  .rw[C8C];exact p1.keep (.set M' b _) λf hf=>by have:=(i f hf).2;simp;omega
  .refine((A1c.set M _ k).trans (p2.low (by simp;exact hn) λf hf=>(d f hf).1)).trans (.set M' _ k)
 rcases p1 with⟨e,_⟩|⟨f,g,x,e,_,_⟩
 .rw[e]at fin|-;simp -dsimp -implicitDefEqProofs[A0h j,A0e];exact fin _ rfl
 .rw[e]at fin|-;simp -dsimp -implicitDefEqProofs[A0h j,A0e];exact fin _ (by simp)
def C2B:∀l:List UInt8,B1W (l.map λb=>AV.val (.int .u8 b.toNat))=some l
 |[]=>rfl
 |a::l=>by have:=a.toNat_lt;simp only[Z0s,B1W];rw[Z0d ⟨by omega,by omega⟩,C2B l];simp
def D8L(s:ByteArray):B1W (A7c s)=some s.data.toList:=C2B _
def D2a(n b:Nat)(bs:ByteArray)(h:Bld n b M bs)(x:bs.size<=140737488355328)(hn:n<=M.length):A0c (WC gl) 64 [.ptr b 0] M (λv M'=>v=S bs/\A1c n M M'):=by
 obtain⟨u,a,w,hM,ha,ho,q,h0⟩:=h
 have t:b<M.length:=(Z0a.1 hM).1
 refine A0o hW func64 ?_
 rcases ho with⟨rfl,he⟩|⟨f,g,s,rfl,hf,hl⟩
 .have hs:bs.size=0:=by have:=congrArg List.length he;simpa using this
  have he:bs=⟨#[]⟩:=A6Q.2 hs;simp -dsimp -implicitDefEqProofs;refine C1f hW (A0t gl) (λk=>if k=3\/k=8 then 1 else if k=4\/k=10 then 2 else 0) b (by rfl) (by kernel_rfl) ?_;simp -dsimp -implicitDefEqProofs[A0b hM,A4r,A3q,he,A1c.refl];rfl
 .have hs:bs.size≠0:=λe=>by have:=h0 e;simp at this
  have d:=q f rfl;simp -dsimp -implicitDefEqProofs;refine C1f hW (A0t gl) (λk=>if k=3\/k=8 then 1 else if k=4\/k=10 then 2 else 0) b (by rfl) (by kernel_rfl) ?_;have l:¬bs=ByteArray.empty:=λe=>hs (by rw[e];rfl);have i:0<bs.size:=by omega
  have p:prog.cellsOf 5=1:=by kernel_rfl
  have r:(bs.size:Int)<=9223372036854775807:=by omega
  have m:List.take bs.size (A7c bs)=A7c bs:=Z0k (by simp);have j:¬f=b:=d.2;have o:(⟨bs.data.toList.toArray⟩:ByteArray)=bs:=by simp
  have c:A1c n M (M.set f .gone):=.set M _ d.1;simp -dsimp -implicitDefEqProofs[A0b hM,A4r,A3q,hf,hl,l,i,p,r,m,D8L,j,o,c]
end
section
variable (gl:Nat->AV) (M:Mem)
def A6P:ByteArray:=⟨#[44,59,46,58,41]⟩
def A7p(c:Int):Int:=if c=44 then 0 else if c=59 then 1 else if c=46 then 2 else if c=58 then 3 else if c=41 then 4 else -1
def C7s(c:Int):decide (0<=A7p c)=A5D c:=by
 unfold A7p A5D;by_cases h1:c=44
 .simp[h1]
 by_cases h2:c=59
 .simp[h2]
 by_cases h3:c=46
 .simp[h3]
 by_cases h4:c=58
 .simp[h4]
 by_cases h5:c=41
 .simp[h5]
 simp[h1,h2,h3,h4,h5]
def D2k(c:UInt8):(match(List.range A6P.size).find? λi=>A6P[i]! ==c with
 |some i=>goInt i
 |none=>goInt (-1))=.int .i64 (A7p (c.toNat:Int)):=by
 have key:∀n:Fin 256,(match(List.range A6P.size).find? λi=>A6P[i]! ==UInt8.ofNat n.val with
  |some i=>(i:Int)
  |none=>-1)=A7p (n.val:Int):=by decide+kernel
 have k:=key ⟨c.toNat,c.toNat_lt⟩
 simp only[UInt8.ofNat_toNat]at k
 rw[<-k]
 cases(List.range A6P.size).find? λi=>A6P[i]! ==c<;>rfl
def D4v(c:UInt8):A4A (WC gl) 344 [S A6P,.val (.int .u8 c.toNat)] M (λr m=>r=I (A7p c.toNat)/\m=M):=by refine(C1u (C:=WC gl) func344 rfl rfl (by kernel_rfl) (by kernel_rfl) [S A6P,.val (.int .u8 c.toNat)] M _ M [] rfl).1.mono ?_;rintro r m ⟨rfl,rfl⟩;refine⟨?_,rfl⟩;have:=D2k c;simp only[Int.toNat_natCast,Nat.toUInt8_eq,UInt8.ofNat_toNat];exact congrArg AV.val this
def C6q(c:UInt8):A0c (WC gl) 271 [S A6P,.val (.int .u8 c.toNat)] M (λr m=>r=I (A7p c.toNat)/\m=M):=by refine A0o hB func271 ?_;simp -dsimp -implicitDefEqProofs;refine A1l (D4v gl M c) ?_;rintro r m ⟨rfl,rfl⟩;simp -dsimp -implicitDefEqProofs
def D4A(t:ByteArray)(ht:t.size=1):A0c (WC gl) 220 [S A6P,S t] M (λr m=>r=I (A7p (A0L t 0))/\m=M):=by
 refine A0o hB func220 ?_;have a:¬t=A6P:=λe=>by rw[e]at ht;revert ht;decide
 simp -dsimp -implicitDefEqProofs[ht,a];refine A0s func271 (C6q gl M (t.data.getD 0 0)) ?_;rintro r m ⟨rfl,rfl⟩;simp -dsimp -implicitDefEqProofs[A0L]
def D3J(t:ByteArray)(ht:t.size=1):A0c (WC gl) 171 [S A6P,S t] M (λr m=>r=I (A7p (A0L t 0))/\m=M):=by refine A0o hB func171 ?_;simp -dsimp -implicitDefEqProofs;refine A0s func220 (D4A gl M t ht) ?_;rintro r m ⟨rfl,rfl⟩;simp -dsimp -implicitDefEqProofs
def C7r(t:ByteArray)(ht:t.size=1):A0c (WC gl) 119 [S A6P,S t] M (λr m=>r=B (A5D (A0L t 0))/\m=M):=by refine A0o hB func119 ?_;simp -dsimp -implicitDefEqProofs;refine A0s func171 (D3J gl M t ht) ?_;rintro r m ⟨rfl,rfl⟩;simp -dsimp -implicitDefEqProofs[<-C7s]
def A4b{s}{i j k}(h:i+k<j)(hj:j<=s.size):A0L (s.extract i j) k=A0L s (i+k):=by
 have h1:k<(s.extract i j).size:=by simp;omega
 have h2:i+k<s.size:=by omega
 have e:(s.extract i j)[k]=s[i+k]:=ByteArray.getElem_extract h1;have g:∀(t:ByteArray) (n:Nat) (h:n<t.size),A0L t n=(t[n].toNat:Int):=by intro t n h;have h':n<t.data.size:=h;simp only[A0L,Z3S,Z0R h',Z1y];rfl
 rw[g _ _ h1,g _ _ h2,e]
def D7P(s:ByteArray)(hs:s.size<=maxLen):A0c (WC gl) 63 [S s] M (λv M'=>v=S (B2E s)/\M'=M):=by
 refine A0o hB func63 ?_;by_cases h0:s.size=0
 .have he:s=⟨#[]⟩:=A6Q.2 h0;simp -dsimp -implicitDefEqProofs[he];rfl
 .have he:¬s=⟨#[]⟩:=λh=>h0 (A6Q.1 h);have hw:IntKind.i64.wrap ((s.size:Int)-1)=(s.size-1:Nat):=by rw[A0J (by omega) (by simp only[maxLen]at hs;omega)];omega
  have b:s.size-1<s.size:=by omega
  have d:s.size-1<=s.size:=by omega
  have a:B2E s=if A5D (A0L s (s.size-1))then s.extract (s.size-1) s.size else .empty:=by rw[B2E,Z0c h0]
  have c:A0L (s.extract (s.size-1) s.size) 0=A0L s (s.size-1):=A4b (by omega) (by omega);simp -dsimp -implicitDefEqProofs[he,hw,b];refine A0s func119 (C7r gl M (s.extract (s.size-1) s.size) (by simp;omega)) ?_;rintro r m ⟨rfl,rfl⟩;rw[c];cases hb:A5D (A0L s (s.size-1))
  .rw[hb]at a;simp -dsimp -implicitDefEqProofs[a];rfl
  .rw[hb]at a;simp -dsimp -implicitDefEqProofs[hw,a,b]
end
def B6x(C:Ctx){α:Type}(enc:α->List AV)(c:α->α->Int)(fid:FuncId)(first cap:List AV):Prop:=∀x y M,A4A C fid (first++.agg (enc x)::.agg (enc y)::cap) M (λv M'=>v=I (c x y)/\M'=M)
section
variable (gl:Nat->AV) {α:Type} {enc:α->List AV} {c:α->α->Int} {fid:FuncId} {first cap:List AV} {f g n:Nat} {M0:Mem}
def C6d(he:∀x,(enc x).length=8)(hc:B6x (WC gl) enc c fid first cap)(hf:f<M0.length)(hn:n<=1000)(a b:Nat)(w:a<=b)(hb:b<=n)(D:Nat->α)(M:Mem)(hM:AtA 27 8 f g n enc M0 D M):A0c (WC gl) 159 [.vref f g 8 0 n,I a,I b,.func (.func fid) first cap] M (λ_ M'=>∃E,AtA 27 8 f g n enc M0 E M'/\Mix n a b D E/\(A6b c->Srt c a b E)):=by
 refine A3b hW func159 rfl rfl rfl rfl rfl rfl ?_
 have s:IntKind.i64.wrap ((a:Int)+1)=(a+1:Nat):=by rw[A0J (by omega) (by omega)];omega
 simp -dsimp -implicitDefEqProofs[s]
 refine A1R hW (λT M1=>∃i:Nat,a+1<=i/\i<=max b (a+1)/\T 0=.vref f g 8 0 n/\T 1=I a/\T 2=I b/\T 3=.func (.func fid) first cap/\T 8=I i/\∃E,AtA 27 8 f g n enc M0 E M1/\Mix n a b D E/\(A6b c->Srt c a i E)) (λT _=>match T 8 with|.val (.int _ i)=>b-i.toNat|_=>0) (by kernel_rfl) ?_ ?_
 .exact⟨a+1,by omega,by omega,by simp,by simp,by simp,by simp,by simp,D,hM,.refl ..,λ_=>.short (by omega)⟩
 .rintro T M1 ⟨i,h1,h2,t0,t1,t2,t3,t8,E,hA,hX,hS⟩;by_cases hi:i<b
  ·(have l:(i:Int)<b:=by omega);have hw:IntKind.i64.wrap ((i:Int)+1)=(i+1:Nat):=by rw[A0J (by omega) (by omega)];omega
   simp -dsimp -implicitDefEqProofs[t0,t1,t2,t3,t8,hi,l];refine A1R hW (λT M1=>∃j:Nat,a<=j/\j<=i/\T 0=.vref f g 8 0 n/\T 1=I a/\T 2=I b/\T 3=.func (.func fid) first cap/\T 8=I i/\T 9=I j/\∃E,AtA 27 8 f g n enc M0 E M1/\Mix n a b D E/\(A6b c->B2r c a i j E)) (λT _=>match T 9 with|.val (.int _ i)=>i.toNat|_=>0) (by kernel_rfl) ?_ ?_
   .exact⟨i,by omega,by omega,by simp[t0],by simp[t1],by simp[t2],by simp[t3],by simp[t8],by simp,E,hA,hX,λo=>.start (hS o)⟩
   .rintro T2 M1 ⟨j,k1,k2,u0,u1,u2,u3,u8,u9,E,hA,hX,hS⟩;by_cases hj:a<j
    ·(have d:(a:Int)<j:=by omega);have h:(j:Int)>a:=d
     (have e:IntKind.i64.wrap ((j:Int)-1)=(j-1:Nat):=by rw[A0J (by omega) (by omega)];omega);have g1:j<n:=by omega
     (have g2:j-1<n:=by omega);have m:(j:Int)<n:=by omega
     (have p:((j-1:Nat):Int)<n:=by omega);have l1:=hA.load (P:=prog) (t:=27) hf he (by simp) (by simp) g1
     have l2:=hA.load (P:=prog) (t:=27) hf he (by simp) (by simp) g2;simp -dsimp -implicitDefEqProofs;refine A0X hW (A0t gl) (λk=>if k=8\/k=13 then 1 else 0) (λ_=>f) (by rfl) (by kernel_rfl) ?_;simp -dsimp -implicitDefEqProofs[u0,u1,u2,u3,u8,u9,d,h,e,g1,g2,m,p,l1,l2];refine A7x (r:=I (c (E j) (E (j-1)))) (λM=>hc _ _ M) ?_;by_cases hlt:c (E j) (E (j-1))<0
     .simp -dsimp -implicitDefEqProofs[u0,u1,u2,u3,u8,u9,hlt];refine A0X hW (A0t gl) (λk=>if k=9\/k=13 then 1 else if k=15\/k=17 then 2 else 0) (λ_=>f) (by rfl) (by kernel_rfl) ?_;obtain⟨M2,s1,u⟩:=hA.store hf he g1 (E (j-1));obtain⟨M3,s2,q⟩:=u.store hf he g2 (E j);simp -dsimp -implicitDefEqProofs[u0,u1,u2,u3,u8,u9,d,h,e,g1,g2,m,p,l1,l2,s1,s2];exact⟨⟨j-1,by clear e;omega,by clear e;omega,rfl,swp E j (j-1),q,hX.trans (.swap E hb (by omega) (by omega) (by omega) (by omega)),λo=>(hS o).step o hj k2 hlt⟩,by clear e;omega⟩
     .simp -dsimp -implicitDefEqProofs[u0,u1,u2,u3,u8,u9,hlt,hw,t8];exact⟨⟨i+1,by clear hw;omega,by clear hw;omega,rfl,E,hA,hX,λo=>(hS o).stop o k2 (.inr hlt)⟩,by clear hw;omega⟩
    ·(have d:¬(a:Int)<j:=by omega);have h:¬(j:Int)>a:=d
     simp -dsimp -implicitDefEqProofs;refine A0X hW (A0t gl) (λk=>if k=8\/k=13 then 1 else 0) (λ_=>f) (by rfl) (by kernel_rfl) ?_;simp -dsimp -implicitDefEqProofs[u0,u1,u2,u3,u8,u9,d,h,hw,t8];exact⟨⟨i+1,by clear hw;omega,by clear hw;omega,rfl,E,hA,hX,λo=>(hS o).stop o k2 (.inl (by omega))⟩,by clear hw;omega⟩
  ·(have l:¬(i:Int)<b:=by omega);simp -dsimp -implicitDefEqProofs[t0,t1,t2,t3,t8,l]
   exact⟨E,hA,hX,λo=>(hS o).part (Z0n _) (by omega)⟩
end
def D4U{i j:Nat}(h:i+j<=1000000):IntKind.i64.wrap ((i:Int)+(j:Int))=((i+j:Nat):Int):=by rw[A0J (by omega) (by omega)];omega
def B4E{i j:Nat}(h:i<=1000000)(hj:j<=i):IntKind.i64.wrap ((i:Int)-(j:Int))=((i-j:Nat):Int):=by rw[A0J (by omega) (by omega)];omega
def A1E{i:Nat}(h:i<=1000000):IntKind.i64.wrap ((i:Int)+1)=((i+1:Nat):Int):=by rw[A0J (by omega) (by omega)];omega
def D6l{i:Nat}(h:i<=1000000)(hj:1<=i):IntKind.i64.wrap ((i:Int)-1)=((i-1:Nat):Int):=by rw[A0J (by omega) (by omega)];omega
section
variable (gl:Nat->AV) {α:Type} {enc:α->List AV} {c:α->α->Int} {fid:FuncId} {first cap:List AV} {f g n:Nat} {M0:Mem}
def C0K(he:∀x,(enc x).length=8)(hf:f<M0.length)(hn:n<=1000)(i j l:Nat)(m:i+l<=j)(hj:j+l<=n)(D:Nat->α)(M:Mem)(hM:AtA 27 8 f g n enc M0 D M)(cf:AV):A0c (WC gl) 263 [.vref f g 8 0 n,I i,I j,I l,cf] M (λ_ M'=>AtA 27 8 f g n enc M0 (xch D i j l) M'):=by
 refine A3b hW func263 rfl rfl rfl rfl rfl rfl ?_
 simp -dsimp -implicitDefEqProofs
 refine A1R hW (λT M1=>∃k:Nat,k<=l/\T 0=.vref f g 8 0 n/\T 1=I i/\T 2=I j/\T 3=I l/\T 10=I k/\AtA 27 8 f g n enc M0 (xch D i j k) M1) (λT _=>match T 10 with|.val (.int _ i)=>l-i.toNat|_=>0) (by kernel_rfl) ?_ ?_
 .exact⟨0,by omega,by simp,by simp,by simp,by simp,by simp,by rw[C6Z];exact hM⟩
 .rintro T M1 ⟨k,h1,t0,t1,t2,t3,a,hA⟩;by_cases hk:k<l
  ·(have b:(k:Int)<l:=by omega);have w1:=D4U (i:=i) (j:=k) (by omega)
   have w2:=D4U (i:=j) (j:=k) (by omega);have w3:=A1E (i:=k) (by omega);(have g1:i+k<n:=by omega);(have g2:j+k<n:=by omega);(have c:((i+k:Nat):Int)<n:=by omega);(have e:((j+k:Nat):Int)<n:=by omega);(have p1:0<=((i+k:Nat):Int):=by omega);(have p2:0<=((j+k:Nat):Int):=by omega);(have q1:((i+k:Nat):Int).toNat=i+k:=by omega);(have q2:((j+k:Nat):Int).toNat=j+k:=by omega);have l1:=hA.load (P:=prog) (t:=27) hf he (by simp) (by simp) g1;have l2:=hA.load (P:=prog) (t:=27) hf he (by simp) (by simp) g2;obtain⟨M2,s1,h⟩:=hA.store hf he g1 (xch D i j k (j+k));obtain⟨M3,s2,d⟩:=h.store hf he g2 (xch D i j k (i+k));(have hx:AtA 27 8 f g n enc M0 (xch D i j (k+1)) M3:=by rw[<-C6h D (show i+k<j by omega)];exact d);generalize((i+k:Nat):Int)=ik at*;generalize((j+k:Nat):Int)=jk at*;simp -dsimp -implicitDefEqProofs[t0,t1,t2,t3,a,b];refine A0X hW (A0t gl) (λk=>if k=13\/k=19 then 1 else if k=21\/k=23 then 2 else 0) (λ_=>f) (by rfl) (by kernel_rfl) ?_;simp -dsimp -implicitDefEqProofs[t0,t1,t2,t3,a,w1,w2,w3,g1,g2,c,e,p1,p2,q1,q2,l1,l2,s1,s2];exact⟨⟨k+1,by clear w3;omega,rfl,hx⟩,by clear w3;omega⟩
  ·(have b:¬(k:Int)<l:=by omega);obtain rfl:k=l:=by omega
   simp -dsimp -implicitDefEqProofs[t0,t1,t2,t3,a,hA]
def D2V(he:∀x,(enc x).length=8)(hf:f<M0.length)(hn:n<=1000)(s m e:Nat)(h1:s<m)(h2:m<e)(h3:e<=n)(D:Nat->α)(M:Mem)(hM:AtA 27 8 f g n enc M0 D M)(cf:AV):A0c (WC gl) 209 [.vref f g 8 0 n,I s,I m,I e,cf] M (λ_ M'=>AtA 27 8 f g n enc M0 (rot D s m e) M'/\Mix n s e D (rot D s m e)):=by
 refine A3b hW func209 rfl rfl rfl rfl rfl rfl ?_
 have w1:=B4E (i:=m) (j:=s) (by omega) (by omega)
 have w2:=B4E (i:=e) (j:=m) (by omega) (by omega)
 simp -dsimp -implicitDefEqProofs[w1,w2]
 refine A1R hW (λT M1=>∃i:Nat,0<i/\s+i<=m/\T 0=.vref f g 8 0 n/\T 2=I m/\T 4=cf/\T 10=I i/\∃j:Nat,T 11=I j/\0<j/\m+j<=e/\
  ∃E,AtA 27 8 f g n enc M0 E M1/\Mix n s e D E/\rot E (m-i) m (m+j)=rot D s m e)
  (λT _=>match T 10,T 11 with|.val (.int _ i),.val (.int _ j)=>i.toNat+j.toNat|_,_=>0) (by kernel_rfl) ?_ ?_
 .refine⟨m-s,by omega,by omega,by simp,by simp,by simp,by simp,e-m,by simp,by omega,by omega,D,hM,.refl ..,by congr 1<;>omega⟩
 .rintro T M1 ⟨i,i0,i1,t0,t2,t4,c,j,h,j0,j1,E,hA,hX,hr⟩;have w3:=B4E (i:=m) (j:=i) (by omega) (by omega);by_cases hij:i=j
  .subst hij;simp -dsimp -implicitDefEqProofs[t0,t2,t4,c,h,w3];refine A1l (A0V func263 rfl rfl (C0K gl he hf hn (m-i) m i (by omega) (by omega) E _ hA cf)) ?_;intro r M2 b;have hx:=B7X E (n:=n) (lo:=s) (hi:=e) (i:=m-i) (j:=m) (by omega) h3 i (by omega) (by omega);rw[D3G E (by omega),hr]at b hx;simp -dsimp -implicitDefEqProofs;exact⟨b,hX.trans hx⟩
  ·(have k:¬(i:Int)=j:=by omega);by_cases hgt:j<i
   ·(have a:(j:Int)<i:=by omega);have d:(i:Int)>j:=a
    have w4:=B4E (i:=i) (j:=j) (by omega) (by omega);simp -dsimp -implicitDefEqProofs[t0,t2,t4,c,h,w3,k,a,d];refine A1l (A0V func263 rfl rfl (C0K gl he hf hn (m-i) m j (by omega) (by omega) E _ hA cf)) ?_;intro r M2 b;have hx:=B7X E (n:=n) (lo:=s) (hi:=e) (i:=m-i) (j:=m) (by omega) h3 j (by omega) (by omega);simp -dsimp -implicitDefEqProofs[t0,t2,t4,c,h,w4];refine⟨⟨i-j,by clear w4;omega,by clear w4;omega,rfl,j,rfl,by clear w4;omega,by clear w4;omega,_,b,hX.trans hx,?_⟩,by clear w4;omega⟩;rw[D5r E (by omega) hgt j0,hr]
   ·(have a:¬(j:Int)<i:=by omega);have d:¬(i:Int)>j:=a
    have w4:=B4E (i:=j) (j:=i) (by omega) (by omega);have w5:=D4U (i:=m) (j:=j) (by omega);(have w6:IntKind.i64.wrap ((m:Int)+(j:Int)-(i:Int))=((m+j-i:Nat):Int):=by rw[A0J (by omega) (by omega)];omega);simp -dsimp -implicitDefEqProofs[t0,t2,t4,c,h,w3,k,a,d,w5,w6];refine A1l (A0V func263 rfl rfl (C0K gl he hf hn (m-i) (m+j-i) i (by omega) (by omega) E _ hA cf)) ?_;intro r M2 b;have hx:=B7X E (n:=n) (lo:=s) (hi:=e) (i:=m-i) (j:=m+j-i) (by omega) h3 i (by omega) (by omega);simp -dsimp -implicitDefEqProofs[t0,t2,t4,c,h,w4];refine⟨⟨i,by clear w4;omega,by clear w4;omega,rfl,j-i,rfl,by clear w4;omega,by clear w4;omega,_,b,hX.trans hx,?_⟩,by clear w4;omega⟩;rw[D3O E (by omega) (by omega) i0,hr]
end
def D0u{i j h:Nat}(hh:h=(i+j)/2)(hl:i+j<=1000000):IntKind.i64.wrap ((i:Int)+(j:Int))=(i:Int)+j/\IntKind.u64.wrap ((i:Int)+(j:Int))=(i:Int)+j/\IntKind.i64.wrap (((i:Int)+(j:Int)).fdiv (2^min 1 IntKind.u64.bits))=(h:Int):=by
 refine⟨A0J (by omega) (by omega),IntWalk.u64_in _ ⟨by omega,by omega⟩,?_⟩;have e:((i:Int)+(j:Int)).fdiv (2^min 1 IntKind.u64.bits)=(h:Int):=by
  have:(2:Int)^min 1 IntKind.u64.bits=2:=by decide
  rw[this,Int.fdiv_eq_ediv_of_nonneg _ (by omega)];omega
 rw[e];exact A0J (by omega) (by omega)
section
variable (gl:Nat->AV) {α:Type} {enc:α->List AV} {c:α->α->Int} {fid:FuncId} {first cap:List AV} {f g n:Nat} {M0:Mem}
def D4T(he:∀x,(enc x).length=8)(hc:B6x (WC gl) enc c fid first cap)(hf:f<M0.length)(hn:n<=1000)(a m b:Nat)(h1:a<m)(h2:m<b)(h3:b<=n)(D:Nat->α)(M:Mem)(hM:AtA 27 8 f g n enc M0 D M)(c1:m-a=1):A0c (WC gl) 160 [.vref f g 8 0 n,I a,I m,I b,.func (.func fid) first cap] M (λ_ M'=>∃E,AtA 27 8 f g n enc M0 E M'/\Mix n a b D E/\(A6b c->Srt c a m D->Srt c m b D->Srt c a b E)):=by
 refine A3b hW func160 rfl rfl rfl rfl rfl rfl ?_
 have w1:=B4E (i:=m) (j:=a) (by omega) (by omega)
 have wb:=B4E (i:=b) (j:=m) (by omega) (by omega)
 have L:∀{E:Nat->α} {M:Mem} {i:Nat},AtA 27 8 f g n enc M0 E M->i<n->A1m prog 27 M (.vptr f g (i*8))=some (.agg (enc (E i))):=λh hi=>h.load (P:=prog) (t:=27) hf he (by simp) (by simp) hi
 obtain rfl:m=a+1:=by omega
 have a3:IntKind.i64.wrap ((a:Int)+1-(a:Int))=1:=by rw[A0J (by omega) (by omega)];omega
 simp -dsimp -implicitDefEqProofs[a3]
 refine A1R hW (λT M1=>∃i:Nat,a+1<=i/\i<=b/\T 0=.vref f g 8 0 n/\T 1=I a/\T 4=.func (.func fid) first cap/\T 10=I i/\(a+1<i->c (D (i-1)) (D a)<0)/\
  M1=M/\∃j:Nat,T 11=I j/\i<=j/\j<=b/\(j<b->¬c (D j) (D a)<0))
  (λT _=>match T 10,T 11 with|.val (.int _ i),.val (.int _ j)=>j.toNat-i.toNat|_,_=>0) (by kernel_rfl) ?_ ?_
 .exact⟨a+1,by omega,by omega,by simp,by simp,by simp,by simp,λh=>by omega,rfl,b,by simp,by omega,by omega,λh=>by omega⟩
 .rintro T M1 ⟨i,i1,i2,t0,t1,t4,d,hl,rfl,j,e,ij,jb,hr⟩;by_cases hij:i<j
  ·(have u:(i:Int)<j:=by omega);obtain⟨h,hh⟩:∃h,h=(i+j)/2:=⟨_,rfl⟩
   have w2:=D0u hh (by omega);(have k1:h<n:=by omega);(have a0:(h:Int)<n:=by omega);(have k2:a<n:=by omega);(have w:(a:Int)<n:=by omega);have w3:=A1E (i:=h) (by omega);simp -dsimp -implicitDefEqProofs[t0,t1,t4,d,e,u,w2.1,w2.2.1,w2.2.2,A4v];refine A0X hW (A0t gl) (λk=>if k=4\/k=8 then 1 else 0) (λ_=>f) (by rfl) (by kernel_rfl) ?_;simp -dsimp -implicitDefEqProofs[t0,t1,t4,d,e,w2.2.2,k1,a0,k2,w,L hM k1,L hM k2];refine A7x (r:=I (c (D h) (D a))) (λM=>hc _ _ M) ?_;by_cases hlt:c (D h) (D a)<0
   .simp -dsimp -implicitDefEqProofs[t0,t1,t4,d,e,w2.2.2,hlt,w3];exact⟨⟨h+1,by clear w3;omega,by clear w3;omega,by simp,λ_=>hlt,j,rfl,by clear w3;omega,by clear w3;omega,λq=>Z3j.1 (hr q)⟩,by clear w3 w2;omega⟩
   .simp -dsimp -implicitDefEqProofs[t0,t1,t4,d,e,w2.2.2,hlt];exact⟨⟨i,by clear w2;omega,by clear w2;omega,rfl,hl,h,rfl,by clear w2;omega,by clear w2;omega,λ_=>Z3j.1 hlt⟩,by clear w2;omega⟩
  ·(obtain rfl:i=j:=by omega);have hS:∀{E:Nat->α},E=B6h D a (i-1)->Mix n a b D E/\(A6b c->Srt c a (a+1) D->Srt c (a+1) b D->Srt c a b E):=by rintro E rfl;refine⟨?_,λo _ s2=>D3H o s2 (by omega) i2 hl hr⟩;have:=C7n D (n:=n) (lo:=a) (hi:=b) (a:=a) (by omega) h3 (i-1-a) (by omega);rwa[show a+(i-1-a)=i-1 by omega]at this
   simp -dsimp -implicitDefEqProofs[t0,t1,t4,d,e];refine A1R hW (λT M1=>∃k:Nat,a<=k/\k<=i-1/\T 0=.vref f g 8 0 n/\T 10=I i/\T 13=I k/\AtA 27 8 f g n enc M0 (B6h D a k) M1) (λT _=>match T 13 with|.val (.int _ k)=>i-k.toNat|_=>0) (by kernel_rfl) ?_ ?_
   .exact⟨a,by omega,by omega,by simp[t0],by simp[d],by simp,by rw[C1T];exact hM⟩
   .rintro T2 M2 ⟨k,k1,k2,u0,l,s,hA⟩;have w4:=D6l (i:=i) (by omega) (by omega);by_cases hk:k<i-1
    ·(have p:(k:Int)<((i-1:Nat):Int):=by omega);have w5:=A1E (i:=k) (by omega)
     (have g1:k<n:=by omega);have g2:k+1<n:=by omega
     (have y:(k:Int)<n:=by omega);have a1:((k+1:Nat):Int)<n:=by omega
     (have p2:0<=((k+1:Nat):Int):=by omega);have q2:((k+1:Nat):Int).toNat=k+1:=by omega
     obtain⟨M2,s1,a2⟩:=hA.store hf he g1 (B6h D a k (k+1));obtain⟨M3,s2,z⟩:=a2.store hf he g2 (B6h D a k k);(have hx:AtA 27 8 f g n enc M0 (B6h D a (k+1)) M3:=by rw[<-C2u D k1];exact z);have l1:=L hA g1;have l2:=L hA g2;generalize((k+1:Nat):Int)=kk at*;simp -dsimp -implicitDefEqProofs[u0,l,s,w4,p];refine A0X hW (A0t gl) (λk=>if k=9\/k=13 then 1 else if k=15\/k=17 then 2 else 0) (λ_=>f) (by rfl) (by kernel_rfl) ?_;simp -dsimp -implicitDefEqProofs[u0,l,s,w5,g1,g2,y,a1,p2,q2,l1,l2,s1,s2];exact⟨⟨k+1,by clear w5;omega,by clear w5;omega,by clear w5;omega,hx⟩,by clear w5;omega⟩
    ·(obtain rfl:k=i-1:=by omega);have p:¬((i-1:Nat):Int)<((i-1:Nat):Int):=by omega
     simp -dsimp -implicitDefEqProofs[u0,l,s,w4,p];exact⟨_,hA,hS rfl⟩
def D4R(he:∀x,(enc x).length=8)(hc:B6x (WC gl) enc c fid first cap)(hf:f<M0.length)(hn:n<=1000)(a m b:Nat)(h1:a<m)(h2:m<b)(h3:b<=n)(D:Nat->α)(M:Mem)(hM:AtA 27 8 f g n enc M0 D M)(c1:¬m-a=1)(c2:b-m=1):A0c (WC gl) 160 [.vref f g 8 0 n,I a,I m,I b,.func (.func fid) first cap] M (λ_ M'=>∃E,AtA 27 8 f g n enc M0 E M'/\Mix n a b D E/\(A6b c->Srt c a m D->Srt c m b D->Srt c a b E)):=by
 refine A3b hW func160 rfl rfl rfl rfl rfl rfl ?_
 have w1:=B4E (i:=m) (j:=a) (by omega) (by omega)
 have wb:=B4E (i:=b) (j:=m) (by omega) (by omega)
 have L:∀{E:Nat->α} {M:Mem} {i:Nat},AtA 27 8 f g n enc M0 E M->i<n->A1m prog 27 M (.vptr f g (i*8))=some (.agg (enc (E i))):=λh hi=>h.load (P:=prog) (t:=27) hf he (by simp) (by simp) hi
 have z:¬((m-a:Nat):Int)=1:=by omega
 obtain rfl:b=m+1:=by omega
 have a4:IntKind.i64.wrap ((m:Int)+1-(m:Int))=1:=by rw[A0J (by omega) (by omega)];omega
 simp -dsimp -implicitDefEqProofs[w1,z,a4]
 refine A1R hW (λT M1=>∃i:Nat,a<=i/\T 0=.vref f g 8 0 n/\T 2=I m/\T 4=.func (.func fid) first cap/\T 14=I i/\(a<i->¬c (D m) (D (i-1))<0)/\
  M1=M/\∃j:Nat,T 15=I j/\i<=j/\j<=m/\(j<m->c (D m) (D j)<0))
  (λT _=>match T 14,T 15 with|.val (.int _ i),.val (.int _ j)=>j.toNat-i.toNat|_,_=>0) (by kernel_rfl) ?_ ?_
 .exact⟨a,by omega,by simp,by simp,by simp,by simp,λh=>by omega,rfl,m,by simp,by omega,by omega,λh=>by omega⟩
 .rintro T M1 ⟨i,i1,t0,t2,t4,d,hl,rfl,j,e,ij,jb,hr⟩;by_cases hij:i<j
  ·(have u:(i:Int)<j:=by omega);obtain⟨h,hh⟩:∃h,h=(i+j)/2:=⟨_,rfl⟩
   have w2:=D0u hh (by omega);(have k1:h<n:=by omega);(have a2:(h:Int)<n:=by omega);(have k2:m<n:=by omega);(have y:(m:Int)<n:=by omega);have w3:=A1E (i:=h) (by omega);simp -dsimp -implicitDefEqProofs[t0,t2,t4,d,e,u,w2.1,w2.2.1,w2.2.2,A4v];refine A0X hW (A0t gl) (λk=>if k=4\/k=8 then 1 else 0) (λ_=>f) (by rfl) (by kernel_rfl) ?_;simp -dsimp -implicitDefEqProofs[t0,t2,t4,d,e,w2.2.2,k1,a2,k2,y,L hM k1,L hM k2];refine A7x (r:=I (c (D m) (D h))) (λM=>hc _ _ M) ?_;by_cases hlt:c (D m) (D h)<0
   .simp -dsimp -implicitDefEqProofs[t0,t2,t4,d,e,w2.2.2,hlt];exact⟨⟨i,by clear w2;omega,rfl,λq=>Z3j.1 (hl q),h,rfl,by clear w2;omega,by clear w2;omega,λ_=>hlt⟩,by clear w2;omega⟩
   .simp -dsimp -implicitDefEqProofs[t0,t2,t4,d,e,w2.2.2,hlt,w3];exact⟨⟨h+1,by clear w3;omega,by simp,λ_=>Z3j.1 hlt,j,rfl,by clear w3;omega,by clear w3;omega,hr⟩,by clear w3 w2;omega⟩
  ·(obtain rfl:i=j:=by omega);have hS:∀{E:Nat->α},E=A7k D i m->Mix n a (m+1) D E/\(A6b c->Srt c a m D->Srt c m (m+1) D->Srt c a (m+1) E):=by rintro E rfl;refine⟨?_,λo s1 _=>C8N o s1 (by omega) jb hl hr⟩;have:=C0i D (n:=n) (lo:=a) (hi:=m+1) (m:=m) (by omega) h3 (m-i) (by omega) (by omega);rwa[show m-(m-i)=i by omega]at this
   simp -dsimp -implicitDefEqProofs[t0,t2,t4,d,e];refine A1R hW (λT M1=>∃k:Nat,i<=k/\k<=m/\T 0=.vref f g 8 0 n/\T 14=I i/\T 17=I k/\AtA 27 8 f g n enc M0 (A7k D k m) M1) (λT _=>match T 17 with|.val (.int _ k)=>k.toNat|_=>0) (by kernel_rfl) ?_ ?_
   .exact⟨m,by omega,by omega,by simp[t0],by simp[d],by simp,by rw[B6u];exact hM⟩
   .rintro T2 M2 ⟨k,k1,k2,u0,p,l,hA⟩;by_cases hk:i<k
    ·(have s:(i:Int)<k:=by omega);have w:(k:Int)>i:=s
     have w5:=D6l (i:=k) (by omega) (by omega);(have g1:k<n:=by omega);(have g2:k-1<n:=by omega);(have a0:(k:Int)<n:=by omega);(have a3:((k-1:Nat):Int)<n:=by omega);obtain⟨M2,s1,a5⟩:=hA.store hf he g1 (A7k D k m (k-1));obtain⟨M3,s2,a1⟩:=a5.store hf he g2 (A7k D k m k);(have hx:AtA 27 8 f g n enc M0 (A7k D (k-1) m) M3:=by rw[<-B7o D k2 (by omega)];exact a1);have l1:=L hA g1;have l2:=L hA g2;simp -dsimp -implicitDefEqProofs[u0,p,l,s,w];refine A0X hW (A0t gl) (λk=>if k=9\/k=13 then 1 else if k=15\/k=17 then 2 else 0) (λ_=>f) (by rfl) (by kernel_rfl) ?_;simp -dsimp -implicitDefEqProofs[u0,p,l,w5,g1,g2,a0,a3,l1,l2,s1,s2];exact⟨⟨k-1,by clear w5;omega,by clear w5;omega,rfl,hx⟩,by clear w5;omega⟩
    ·(obtain rfl:k=i:=by omega);simp -dsimp -implicitDefEqProofs[u0,p,l]
     exact⟨_,hA,hS rfl⟩
end
section
variable (gl:Nat->AV) {α:Type} {enc:α->List AV} {c:α->α->Int} {fid:FuncId} {first cap:List AV} {f g n:Nat} {M0:Mem}
set_option maxHeartbeats 4000000 in
def D5K(he:∀x,(enc x).length=8)(hc:B6x (WC gl) enc c fid first cap)(hf:f<M0.length)(hn:n<=1000)(a m b:Nat)(h1:a<m)(h2:m<b)(h3:b<=n)(D:Nat->α)(M:Mem)(hM:AtA 27 8 f g n enc M0 D M)(c1:¬m-a=1)(c2:¬b-m=1)
 (ih:∀(a' m' b':Nat),b'-a'<b-a->a'<m'->m'<b'->b'<=n->∀(D:Nat->α) (M:Mem),AtA 27 8 f g n enc M0 D M->A0c (WC gl) 160 [.vref f g 8 0 n,I a',I m',I b',.func (.func fid) first cap] M (λ_ M'=>∃E,AtA 27 8 f g n enc M0 E M'/\Mix n a' b' D E/\(A6b c->Srt c a' m' D->Srt c m' b' D->Srt c a' b' E))):
 A0c (WC gl) 160 [.vref f g 8 0 n,I a,I m,I b,.func (.func fid) first cap] M (λ_ M'=>∃E,AtA 27 8 f g n enc M0 E M'/\Mix n a b D E/\(A6b c->Srt c a m D->Srt c m b D->Srt c a b E)):=by
 refine A3b hW func160 rfl rfl rfl rfl rfl rfl ?_
 have w1:=B4E (i:=m) (j:=a) (by omega) (by omega)
 have wb:=B4E (i:=b) (j:=m) (by omega) (by omega)
 have L:∀{E:Nat->α} {M:Mem} {i:Nat},AtA 27 8 f g n enc M0 E M->i<n->A1m prog 27 M (.vptr f g (i*8))=some (.agg (enc (E i))):=λh hi=>h.load (P:=prog) (t:=27) hf he (by simp) (by simp) hi
 have ac:¬((m-a:Nat):Int)=1:=by omega
 have ae:¬((b-m:Nat):Int)=1:=by omega
 obtain⟨mid,ab⟩:∃mid,mid=(a+b)/2:=⟨_,rfl⟩
 have wm:=D0u ab (by omega)
 have wn:IntKind.i64.wrap ((mid:Int)+(m:Int))=((mid+m:Nat):Int):=D4U (by omega)
 have wp:IntKind.i64.wrap (((mid+m:Nat):Int)-1)=((mid+m-1:Nat):Int):=D6l (by omega) (by omega)
 obtain⟨nn,ao⟩:∃nn,nn=mid+m:=⟨_,rfl⟩
 rw[<-ao]at wn wp
 obtain⟨s0,r0,ad⟩:∃s0 r0,(mid<m/\s0=nn-b/\r0=mid)\/(¬mid<m/\s0=a/\r0=m):=by
  by_cases q:mid<m
  .exact⟨_,_,.inl ⟨q,rfl,rfl⟩⟩
  .exact⟨_,_,.inr ⟨q,rfl,rfl⟩⟩
 have ap:=ad
 rcases ad with⟨q1,q2,q3⟩|⟨q1,q2,q3⟩
 case' inl=>
  have a3:(mid:Int)<m:=by omega
  have a7:(m:Int)>mid:=a3;have q4:IntKind.i64.wrap ((nn:Int)-(b:Int))=(s0:Int):=by rw[q2];exact B4E (by omega) (by omega)
  simp -dsimp -implicitDefEqProofs[w1,wb,ac,ae,wm.1,wm.2.1,wm.2.2,A4v,wn,wp,a3,a7,q4]
 case' inr=>
  have a3:¬(mid:Int)<m:=by omega
  have a7:¬(m:Int)>mid:=a3;simp -dsimp -implicitDefEqProofs[w1,wb,ac,ae,wm.1,wm.2.1,wm.2.2,A4v,wn,wp,a3,a7]
 all_goals
  have aq:s0<=r0/\a<=s0/\r0<=m/\r0<=mid+m/\m<=nn-r0/\nn-s0<=b/\a<mid/\mid<b:=by omega
  refine A7L (.exit 8) (λT M1=>∃s:Nat,s0<=s/\s<=r0/\T 0=.vref f g 8 0 n/\T 1=I a/\T 2=I m/\T 3=I b/\T 4=.func (.func fid) first cap/\T 18=I mid/\T 19=I nn/\T 20=I s/\M1=M/\(s0<s->¬c (D (nn-s)) (D (s-1))<0)/\(s<r0->c (D (nn-1-s)) (D s)<0)) ?_ ?_
 case' inl.refine_1=>
  refine A1R hW (λT M1=>∃s:Nat,s0<=s/\T 0=.vref f g 8 0 n/\T 1=I a/\T 2=I m/\T 3=I b/\T 4=.func (.func fid) first cap/\T 18=I mid/\T 19=I nn/\T 22=I (nn-1:Nat)/\T 20=I s/\
   (s0<s->¬c (D (nn-s)) (D (s-1))<0)/\M1=M/\∃r:Nat,T 21=I r/\s<=r/\r<=r0/\(r<r0->c (D (nn-1-r)) (D r)<0))
   (λT _=>match T 20,T 21 with|.val (.int _ i),.val (.int _ j)=>j.toNat-i.toNat|_,_=>0) (by kernel_rfl) ?_ ?_
  .exact⟨s0,by omega,by simp,by simp,by simp,by simp,by simp,by simp,by simp,by simp,by simp,λq=>by omega,rfl,r0,by simp[q3],by omega,by omega,λq=>by omega⟩
 case' inr.refine_1=>
  refine A1R hW (λT M1=>∃s:Nat,s0<=s/\T 0=.vref f g 8 0 n/\T 1=I a/\T 2=I m/\T 3=I b/\T 4=.func (.func fid) first cap/\T 18=I mid/\T 19=I nn/\T 22=I (nn-1:Nat)/\T 20=I s/\
   (s0<s->¬c (D (nn-s)) (D (s-1))<0)/\M1=M/\∃r:Nat,T 21=I r/\s<=r/\r<=r0/\(r<r0->c (D (nn-1-r)) (D r)<0))
   (λT _=>match T 20,T 21 with|.val (.int _ i),.val (.int _ j)=>j.toNat-i.toNat|_,_=>0) (by kernel_rfl) ?_ ?_
  .exact⟨s0,by omega,by simp,by simp,by simp,by simp,by simp,by simp,by simp,by simp,by simp[q2],λq=>by omega,rfl,r0,by simp[q3],by omega,by omega,λq=>by omega⟩
 case inl.refine_1|inr.refine_1=>
  rintro T M1 ⟨x,x1,t0,t1,t2,t3,t4,d,w,a2,t20,hl,rfl,y,a5,xy,yr,hr⟩;by_cases hxy:x<y;case pos=>
   (have af:(x:Int)<y:=by omega);obtain⟨h,hh⟩:∃h,h=(x+y)/2:=⟨_,rfl⟩
   have w2:=D0u hh (by omega);have w3:=A1E (i:=h) (by omega);have w4:=B4E (i:=nn-1) (j:=h) (by omega) (by omega);(have k1:h<n:=by omega);(have am:(h:Int)<n:=by omega);(have k2:nn-1-h<n:=by omega);(have al:((nn-1-h:Nat):Int)<n:=by omega);simp -dsimp -implicitDefEqProofs[t0,t1,t2,t3,t4,d,w,a2,t20,a5,af,w2.1,w2.2.1,w2.2.2,A4v];refine A0X hW (A0t gl) (λk=>if k=6\/k=10 then 1 else 0) (λ_=>f) (by rfl) (by kernel_rfl) ?_;simp -dsimp -implicitDefEqProofs[t0,t1,t2,t3,t4,d,w,a2,t20,a5,w2.2.2,w4,k1,am,k2,al,L hM k1,L hM k2];refine A7x (r:=I (c (D (nn-1-h)) (D h))) (λM=>hc _ _ M) ?_;by_cases hlt:c (D (nn-1-h)) (D h)<0
   .simp -dsimp -implicitDefEqProofs[t0,t1,t2,t3,t4,d,w,a2,t20,a5,w2.2.2,hlt];exact⟨⟨x,by clear w2;omega,rfl,λq=>Z3j.1 (hl q),h,rfl,by clear w2;omega,by clear w2;omega,λ_=>hlt⟩,by clear w2;omega⟩
   ·(have e1:nn-(h+1)=nn-1-h:=by omega);simp -dsimp -implicitDefEqProofs[t0,t1,t2,t3,t4,d,w,a2,t20,a5,w2.2.2,hlt,w3]
    exact⟨⟨h+1,by clear w3;omega,by simp,λ_=>by rw[e1];exact Z3j.1 hlt,y,rfl,by clear w3;omega,by clear w3;omega,hr⟩,by clear w3 w2;omega⟩
  case neg=>
   (obtain rfl:x=y:=by omega);simp -dsimp -implicitDefEqProofs[t0,t1,t2,t3,t4,d,w,a2,t20,a5]
   exact⟨x,by omega,by omega,rfl,λq=>Z3j.1 (hl q),hr⟩
 all_goals
  rintro T M1 ⟨x,x1,x2,t0,t1,t2,t3,t4,d,w,t20,rfl,hl,hr⟩
  have we:=B4E (i:=nn) (j:=x) (by omega) (by omega)
  obtain⟨e,aa⟩:∃e,e=nn-x:=⟨_,rfl⟩
  rw[<-aa]at we
  simp -dsimp -implicitDefEqProofs[-A8n]
  rw[A8n]
  simp -dsimp -implicitDefEqProofs[-A8n,t0,t1,t2,t3,t4,d,w,t20,we]
  rw[A8n]
  have l:x<=m/\m<=e/\e<=b/\a<=x/\e+x=mid+m/\(a<x/\e<b->s0<x)/\(x<m/\m<e->x<r0):=by omega
  have a1:=λ(o:A6b c) (s1:Srt c a m D) (s2:Srt c m b D)=>D2S (mid:=mid) (s:=x) (e:=e) s1 s2 l.2.2.2.1 l.1 l.2.1 l.2.2.1 l.2.2.2.2.1
  have ag:=λ(o:A6b c) (s1:Srt c a m D) (s2:Srt c m b D)=>C7p (mid:=mid) (s:=x) (e:=e) o s1 s2 l.2.2.2.1 l.1 l.2.1 l.2.2.1 l.2.2.2.2.1 (λq=>by rw[aa];exact hl (l.2.2.2.2.2.1 q)) (λq=>by have:=hr (l.2.2.2.2.2.2 q);rwa[show nn-1-x=e-1 by omega]at this)
  refine B5D (λT M1=>T 0=.vref f g 8 0 n/\T 1=I a/\T 3=I b/\T 4=.func (.func fid) first cap/\T 18=I mid/\T 20=I x/\T 24=I e/\AtA 27 8 f g n enc M0 (rot D x m e) M1/\Mix n a b D (rot D x m e)) ?_ ?_
  .by_cases r1:x<m
   ·(have u:(x:Int)<m:=by omega);by_cases r2:m<e
    ·(have z:(m:Int)<e:=by omega);simp -dsimp -implicitDefEqProofs[t0,t1,t2,t3,t4,d,w,t20,u,z]
     refine A1l (A0V func209 rfl rfl (D2V gl he hf hn x m e r1 r2 (by omega) D _ hM _)) ?_;rintro r M2 ⟨hA,hX⟩;simp -dsimp -implicitDefEqProofs[t0,t1,t2,t3,t4,d,w,t20];exact⟨hA,hX.wide (by omega) (by omega)⟩
    ·(have z:¬(m:Int)<e:=by omega);simp -dsimp -implicitDefEqProofs[t0,t1,t2,t3,t4,d,w,t20,u,z]
     rw[C6W D l.1 l.2.1 (by omega)];exact⟨hM,.refl ..⟩
   ·(have u:¬(x:Int)<m:=by omega);simp -dsimp -implicitDefEqProofs[t0,t1,t2,t3,t4,d,w,t20,u]
    rw[C6W D l.1 l.2.1 (by omega)];exact⟨hM,.refl ..⟩
  clear t0 t1 t2 t3 t4 d w t20
  generalize rot D x m e=R at*
  rintro T M1 ⟨t0,t1,t3,t4,d,t20,a0,hA,hX⟩
  simp -dsimp -implicitDefEqProofs[-A8n]
  rw[A8n]
  refine B5D (λT M1=>T 0=.vref f g 8 0 n/\T 3=I b/\T 4=.func (.func fid) first cap/\T 18=I mid/\T 24=I e/\∃E,AtA 27 8 f g n enc M0 E M1/\Mix n a mid R E/\(A6b c->Srt c a m D->Srt c m b D->Srt c a mid E)) ?_ ?_
  .by_cases r1:a<x
   ·(have u:(a:Int)<x:=by omega);by_cases r2:x<mid
    ·(have z:(x:Int)<mid:=by omega);simp -dsimp -implicitDefEqProofs[t0,t1,t3,t4,d,t20,a0,u,z]
     refine A1l (A0V func160 rfl rfl (ih a x mid (by omega) r1 r2 (by omega) R _ hA)) ?_;rintro r M2 ⟨E,aj,a4,a8⟩;simp -dsimp -implicitDefEqProofs[t0,t1,t3,t4,d,t20,a0];exact⟨E,aj,a4,λo s1 s2=>a8 o (a1 o s1 s2).1 (a1 o s1 s2).2.1⟩
    ·(have z:¬(x:Int)<mid:=by omega);simp -dsimp -implicitDefEqProofs[t0,t1,t3,t4,d,t20,a0,u,z]
     exact⟨R,hA,.refl ..,λo s1 s2=>(a1 o s1 s2).1.part (Z0n _) (by omega)⟩
   ·(have u:¬(a:Int)<x:=by omega);simp -dsimp -implicitDefEqProofs[t0,t1,t3,t4,d,t20,a0,u]
    exact⟨R,hA,.refl ..,λo s1 s2=>(a1 o s1 s2).2.1.part (by omega) (Z0n _)⟩
  clear t0 t1 t3 t4 d t20 a0
  rintro T M1 ⟨t0,t3,t4,d,a0,E,hA,a4,a8⟩
  have fin:∀{F:Nat->α} {M:Mem},AtA 27 8 f g n enc M0 F M->Mix n mid b E F->(A6b c->Srt c a m D->Srt c m b D->Srt c mid b F)->∃E,AtA 27 8 f g n enc M0 E M/\Mix n a b D E/\(A6b c->Srt c a m D->Srt c m b D->Srt c a b E):=by intro F M hF a9 ah;refine⟨F,hF,(hX.trans (a4.wide (Z0n _) (by omega))).trans (a9.wide (by omega) (Z0n _)),λo s1 s2=>?_⟩;exact D0f (by omega) (by omega) (ag o s1 s2) a4 a9 (a8 o s1 s2) (ah o s1 s2)
  have a6:∀{p q:Nat},mid<=p->Srt c p q R->Srt c p q E:=λhp hs=>hs.congr λk k1 _=>a4.out k (.inr (by omega))
  by_cases r1:mid<e
  ·(have u:(mid:Int)<e:=by omega);by_cases r2:e<b
   ·(have z:(e:Int)<b:=by omega);simp -dsimp -implicitDefEqProofs[t0,t3,t4,d,a0,u,z]
    refine A1l (A0V func160 rfl rfl (ih mid e b (by omega) r1 r2 (by omega) E _ hA)) ?_;rintro r M2 ⟨F,ai,an,ak⟩;simp -dsimp -implicitDefEqProofs[t0,t3,t4,d,a0];exact fin ai an λo s1 s2=>ak o (a6 (Z0n _) (a1 o s1 s2).2.2.1) (a6 (by omega) (a1 o s1 s2).2.2.2)
   ·(have z:¬(e:Int)<b:=by omega);simp -dsimp -implicitDefEqProofs[t0,t3,t4,d,a0,u,z]
    exact fin hA (.refl ..) λo s1 s2=>(a6 (Z0n _) (a1 o s1 s2).2.2.1).part (Z0n _) (by omega)
  ·(have u:¬(mid:Int)<e:=by omega);simp -dsimp -implicitDefEqProofs[t0,t3,t4,d,a0,u]
   exact fin hA (.refl ..) λo s1 s2=>(a6 (by omega) (a1 o s1 s2).2.2.2).part (by omega) (Z0n _)
def D0A(he:∀x,(enc x).length=8)(hc:B6x (WC gl) enc c fid first cap)(hf:f<M0.length)(hn:n<=1000):∀(N a m b:Nat),b-a<N->a<m->m<b->b<=n->∀(D:Nat->α) (M:Mem),AtA 27 8 f g n enc M0 D M->
 A0c (WC gl) 160 [.vref f g 8 0 n,I a,I m,I b,.func (.func fid) first cap] M (λ_ M'=>∃E,AtA 27 8 f g n enc M0 E M'/\Mix n a b D E/\(A6b c->Srt c a m D->Srt c m b D->Srt c a b E))
 |0,a,m,b,hN,_,_,_,D,M,hM=>by omega
 |N+1,a,m,b,hN,h1,h2,h3,D,M,hM=>by
  by_cases c1:m-a=1
  .exact D4T gl he hc hf hn a m b h1 h2 h3 D M hM c1
  .by_cases c2:b-m=1
   .exact D4R gl he hc hf hn a m b h1 h2 h3 D M hM c1 c2
   .exact D5K gl he hc hf hn a m b h1 h2 h3 D M hM c1 c2 λa' m' b' hN' k1 k2 k3 D M hM=>D0A he hc hf hn N a' m' b' (by omega) k1 k2 k3 D M hM
end
section
variable (gl:Nat->AV) {α:Type} {enc:α->List AV} {c:α->α->Int} {fid:FuncId} {first cap:List AV} {f g n:Nat} {M0:Mem}
def D2d(he:∀x,(enc x).length=8)(hc:B6x (WC gl) enc c fid first cap)(hf:f<M0.length)(hn:n<40)(D:Nat->α)(M:Mem)(hM:AtA 27 8 f g n enc M0 D M):A0c (WC gl) 110 [.vref f g 8 0 n,I n,.func (.func fid) first cap] M (λ_ M'=>∃E,AtA 27 8 f g n enc M0 E M'/\Mix n 0 n D E/\(A6b c->Srt c 0 n E)):=by
 refine A3b hW func110 rfl rfl rfl rfl rfl rfl ?_
 simp -dsimp -implicitDefEqProofs
 refine A1R hW (λT M1=>∃a:Nat,T 0=.vref f g 8 0 n/\T 1=I n/\T 2=.func (.func fid) first cap/\T 6=I 20/\T 7=I a/\T 8=I (a+20:Nat)/\(a=0\/a=20)/\a<=n/\∃E,AtA 27 8 f g n enc M0 E M1/\Mix n 0 n D E/\(A6b c->Srt c 0 a E)) (λT _=>match T 7 with|.val (.int _ i)=>40-i.toNat|_=>0) (by kernel_rfl) ?_ ?_
 .exact⟨0,by simp,by simp,by simp,by simp,by simp,by simp,.inl rfl,by omega,D,hM,.refl ..,λ_=>.short (by omega)⟩
 .rintro T M1 ⟨a,t0,t1,t2,t6,t7,t8,ha,w,E,hA,hX,hS⟩;have w1:IntKind.i64.wrap (((a+20:Nat):Int)+20)=((a+20+20:Nat):Int):=by rw[A0J (by omega) (by omega)];omega
  obtain⟨a2,u⟩:∃a2,a2=a+20:=⟨_,rfl⟩;rw[<-u]at t8 w1;by_cases hb:a2<=n
  ·(have j:(a2:Int)<=n:=by omega);obtain rfl:a=0:=by omega
   simp -dsimp -implicitDefEqProofs[t0,t1,t2,t6,t7,t8,j];refine A1l (A0V func159 rfl rfl (C6d gl he hc hf (by omega) 0 a2 (by omega) (by omega) E _ hA)) ?_;rintro r M2 ⟨F,e,b,d⟩;simp -dsimp -implicitDefEqProofs[t0,t1,t2,t6,t7,t8,w1];exact⟨⟨a2,rfl,by omega,by omega,F,e,hX.trans (b.wide (by omega) (by omega)),d⟩,by omega⟩
  ·(have j:¬(a2:Int)<=n:=by omega);simp -dsimp -implicitDefEqProofs[t0,t1,t2,t6,t7,t8,j]
   refine A1l (A0V func159 rfl rfl (C6d gl he hc hf (by omega) a n (by omega) (by omega) E _ hA)) ?_;rintro r M2 ⟨F,e,b,d⟩;have l:A6b c->Srt c 0 a F:=λo=>(hS o).congr λk _ k2=>b.out k (.inl k2);have s:=hX.trans (b.wide (Z2S _) (Z0n _));clear b hA hS hX;simp -dsimp -implicitDefEqProofs;refine A1R hW (λT M1=>∃bs:Nat,T 0=.vref f g 8 0 n/\T 1=I n/\T 2=.func (.func fid) first cap/\T 6=I bs/\∃E,AtA 27 8 f g n enc M0 E M1/\Mix n 0 n D E/\(bs=20/\(A6b c->Srt c 0 a E/\Srt c a n E)\/bs=40/\(A6b c->Srt c 0 n E))) (λT _=>match T 6 with|.val (.int _ i)=>40-i.toNat|_=>0) (by kernel_rfl) ?_ ?_
   .exact⟨20,by simp[t0],by simp[t1],by simp[t2],by simp[t6],F,e,s,.inl ⟨rfl,λo=>⟨l o,d o⟩⟩⟩
   .clear t0 t1 t2 t6 t7 t8;rintro T M3 ⟨bs,t0,t1,t2,t6,E,hA,hX,hS⟩;by_cases hbs:bs<n
    ·(have h:(bs:Int)<n:=by omega);rcases hS with⟨rfl,hS⟩|⟨rfl,hS⟩
     (case inr=>omega);obtain rfl:a=20:=by omega
     (have w2:IntKind.i64.wrap 40=40:=by decide);have w3:IntKind.i64.wrap 20=20:=by decide
     (have q:(20:Int)<n:=by omega);have p:T 6=I 20:=t6
     simp -dsimp -implicitDefEqProofs[t0,t1,t2,p,q,w2];refine A1R hW (λT M4=>M4=M3/\T 0=.vref f g 8 0 n/\T 1=I n/\T 2=.func (.func fid) first cap/\T 6=I (20:Nat)/\T 7=I 0/\T 8=I 40) (λ_ _=>0) (by kernel_rfl) ?_ ?_
     .exact⟨rfl,by simp[t0],by simp[t1],by simp[t2],by simp[t6],by simp,by simp⟩
     .rintro T4 M4 ⟨rfl,u0,u1,u2,u6,u7,u8⟩;(have t:¬(40:Int)<=n:=by omega);have m:T4 6=I 20:=u6;simp -dsimp -implicitDefEqProofs[u0,u1,u2,m,u7,u8,t,q,w3,w2];refine A1l (A0V func160 rfl rfl (D0A gl he hc hf (by omega) (n+1) 0 20 n (by omega) (by omega) (by omega) (by omega) E _ hA)) ?_;rintro r M5 ⟨F,e,b,d⟩;simp -dsimp -implicitDefEqProofs[u0,u1,u2,m,u7,u8,w2,p];exact⟨40,rfl,F,e,hX.trans b,.inr ⟨rfl,λo=>d o (hS o).1 (hS o).2⟩⟩
    ·(have h:¬(bs:Int)<n:=by omega);simp -dsimp -implicitDefEqProofs[t0,t1,t2,t6,h]
     refine⟨E,hA,hX,λo=>?_⟩;rcases hS with⟨rfl,hS⟩|⟨rfl,hS⟩
     .rcases ha with rfl|rfl
      .exact(hS o).2
      .exact(hS o).1.part (Z0n _) (by omega)
     .exact hS o
def C1x(he:∀x,(enc x).length=8)(hc:B6x (WC gl) enc c fid first cap)(hf:f<M0.length)(hn:n<40)(D:Nat->α)(M:Mem)(hM:AtA 27 8 f g n enc M0 D M):A0c (WC gl) 53 [.vref f g 8 0 n,.func (.func fid) first cap] M (λ_ M'=>∃E,AtA 27 8 f g n enc M0 E M'/\Mix n 0 n D E/\(A6b c->Srt c 0 n E)):=by
 refine A3b hW func53 rfl rfl rfl rfl rfl rfl ?_
 simp -dsimp -implicitDefEqProofs
 refine A1l (A0V func110 rfl rfl (D2d gl he hc hf hn D M hM)) ?_
 rintro r M2 h
 simp -dsimp -implicitDefEqProofs[h]
def D1z(M:Mem)(cf:AV):A0c (WC gl) 159 [.val (.slice none 0 0),I 0,I 0,cf] M (λ_ M'=>M'=M):=by
 refine A3b hW func159 rfl rfl rfl rfl rfl rfl ?_;have w1:IntKind.i64.wrap 1=1:=by decide
 simp -dsimp -implicitDefEqProofs[w1];refine A1R hW (λT M1=>M1=M/\T 2=I 0/\T 8=I 1) (λ_ _=>0) (by kernel_rfl) ?_ ?_
 .exact⟨rfl,by simp,by simp⟩
 .rintro T M1 ⟨rfl,t2,t8⟩;simp -dsimp -implicitDefEqProofs[t2,t8]
def C8w(M:Mem)(cf:AV):A0c (WC gl) 110 [.val (.slice none 0 0),I 0,cf] M (λ_ M'=>M'=M):=by
 refine A3b hW func110 rfl rfl rfl rfl rfl rfl ?_;simp -dsimp -implicitDefEqProofs;refine A1R hW (λT M1=>M1=M/\T 0=.val (.slice none 0 0)/\T 1=I 0/\T 2=cf/\T 6=I 20/\T 7=I 0/\T 8=I 20) (λ_ _=>0) (by kernel_rfl) ?_ ?_
 .exact⟨rfl,by simp,by simp,by simp,by simp,by simp,by simp⟩
 .rintro T M1 ⟨rfl,t0,t1,t2,t6,t7,t8⟩;simp -dsimp -implicitDefEqProofs[t0,t1,t2,t6,t7,t8];refine A1l (A0V func159 rfl rfl (D1z gl _ cf)) ?_;rintro r M2 rfl;simp -dsimp -implicitDefEqProofs;refine A1R hW (λT M1=>M1=M2/\T 1=I 0/\T 6=I 20) (λ_ _=>0) (by kernel_rfl) ?_ ?_
  .exact⟨rfl,by simp[t1],by simp[t6]⟩
  .rintro T M1 ⟨rfl,t1,t6⟩;simp -dsimp -implicitDefEqProofs[t1,t6]
def B8S(M:Mem)(cf:AV):A0c (WC gl) 53 [.val (.slice none 0 0),cf] M (λ_ M'=>M'=M):=by refine A3b hW func53 rfl rfl rfl rfl rfl rfl ?_;simp -dsimp -implicitDefEqProofs;refine A1l (A0V func110 rfl rfl (C8w gl M cf)) ?_;rintro r M2 rfl;simp -dsimp -implicitDefEqProofs
end
def B7B(x y:Int):Int:=if x<y then -1 else if y<x then 1 else 0
def orL:List Int->Int
 |[]=>0
 |x::l=>if x=0 then orL l else x
def B9f(l:List Int):List (List AV):=l.map λx=>[I x]
@[simp] def E2e(l:List Int):(B9f l).length=l.length:=by simp[B9f]
@[simp] def E1S{p:List Int}{i:Nat}(h:i<(B9f p).length):(B9f p)[i]=[I (p[i]'(by simpa using h))]:=by simp[B9f]
section
variable (gl:Nat->AV) (M:Mem)
def C5B(x:Int):A0c (WC gl) 111 [I x] M (λv M'=>v=B false/\M'=M):=by refine A3b hB func111 rfl rfl rfl rfl rfl rfl ?_;simp -dsimp -implicitDefEqProofs
def D4k(x y:Int):A0c (WC gl) 56 [I x,I y] M (λv M'=>v=I (B7B x y)/\M'=M):=by
 refine A3b hB func56 rfl rfl rfl rfl rfl rfl ?_;simp -dsimp -implicitDefEqProofs;refine A1l (A0V func111 rfl rfl (C5B gl M x)) ?_;rintro _ _ ⟨rfl,rfl⟩;simp -dsimp -implicitDefEqProofs;refine A1l (A0V func111 rfl rfl (C5B gl _ y)) ?_;rintro _ _ ⟨rfl,rfl⟩;by_cases h1:x<y
 .simp -dsimp -implicitDefEqProofs[h1,B7B]
 .by_cases h2:y<x
  .have a:x>y:=h2;simp -dsimp -implicitDefEqProofs[h1,h2,a,B7B]
  .have a:¬x>y:=h2;simp -dsimp -implicitDefEqProofs[h1,h2,a,B7B]
def D9h(l:List Int)(hl:l.length<=1000):A0c (WC gl) 55 [.list 1 (B9f l) .full] M (λv M'=>v=I (orL l)/\M'=M):=by
 refine A3b hB func55 rfl rfl rfl rfl rfl rfl ?_;simp -dsimp -implicitDefEqProofs;refine A1R hB (λT M1=>∃i:Nat,i<=l.length/\T 3=I 0/\T 6=.list 1 (B9f l) .full/\T 7=I l.length/\T 8=I i/\M1=M/\orL l=orL (l.drop i)) (λT _=>match T 8 with|.val (.int _ i)=>l.length-i.toNat|_=>0) (by kernel_rfl) ?_ ?_
 .exact⟨0,by omega,by simp,by simp,by simp,by simp,rfl,by simp⟩
 .rintro T M1 ⟨i,i1,t3,t6,t7,t8,rfl,ho⟩;by_cases hi:i<l.length
  ·(have a:(i:Int)<l.length:=by omega);have w1:=A1E (i:=i) (by omega)
   have hd:l.drop i=l[i]::l.drop (i+1):=Z0i hi;by_cases h0:l[i]=0
   .rw[hd,orL,Z0d h0]at ho;simp -dsimp -implicitDefEqProofs[t3,t6,t7,t8,hi,a,h0,w1];exact⟨⟨i+1,by clear w1;omega,rfl,ho⟩,by clear w1;omega⟩
   .rw[hd,orL,Z0c h0]at ho;simp -dsimp -implicitDefEqProofs[t3,t6,t7,t8,hi,a,h0,ho]
  ·(have a:¬(i:Int)<l.length:=by omega);rw[show l.drop i=[]from Z0o (by omega)]at ho
   simp -dsimp -implicitDefEqProofs[t3,t6,t7,t8,a,ho,orL]
end
end Go.Abs
