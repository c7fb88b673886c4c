/- The texts CyBase, CyS, CyA, CyB, CyC, CyD, CvSa, CvSb, CvSe, CvA, CvB, CaTypes, CbTypes, CeTypes, CgTypes. -/
import Derived.Test.YtmpdkagfplajjaaGreatDoorHG20
import Derived.Test.YtmpdkagfplajjaaGreatDoorHG19
import Derived.Test.YtmpdkagfplajjaaGreatDoorHG21
import Derived.Test.YtmpdkagfplajjaaGreatDoorHG12
import Derived.Test.YtmpdkagfplajjaaGreatDoorHG17
set_option linter.all false
set_option maxRecDepth 100000
namespace Go.Abs
open Go.Proofs Tryz
noncomputable def WC(gl:Nat->AV):Ctx:=⟨prog,gl,λ_=>none,λ_=>false⟩
@[simp] def E3v(gl:Nat->AV):(WC gl).P=prog:=(rfl)
@[simp] def E5A(gl:Nat->AV):(WC gl).data=λ_=>false:=(rfl)
@[simp] def E9K(gl:Nat->AV):(WC gl).gl=gl:=(rfl)
def hB:A2u:=⟨λ_=>true,λ_=>true,λ_=>false⟩
def hV:A2u:=⟨λ_=>false,λ_=>false,λ_=>true⟩
def hW:A2u:=⟨λ_=>true,λ_=>false,λ_=>true⟩
@[simp] def E7I:hW.imm=λ_=>true:=(rfl)
@[simp] def E8s:hW.own=λ_=>false:=(rfl)
@[simp] def E7z:hW.vec=λ_=>true:=(rfl)
@[simp] def E7O:hB.imm=λ_=>true:=(rfl)
@[simp] def E8I:hB.own=λ_=>true:=(rfl)
@[simp] def E8V:hB.vec=λ_=>false:=(rfl)
@[simp] def E7A:hV.own=λ_=>false:=(rfl)
@[simp] def E8d:hV.vec=λ_=>true:=(rfl)
def A0u(gl:Nat->AV):(WC gl).P.follows .mixedOrders=true:=by kernel_rfl
attribute [simp] underlying22 underlying23 underlying24 underlying25 underlying26 underlying27 underlying28 underlying31 underlying68 underlying69 underlying85 underlying92 underlying93 underlying94 underlying96 underlying130 underlying150 underlying152 underlying242 underlying245 underlying247 underlying248 underlying249 underlying278 underlying321 underlying3 underlying4 underlying5 underlying9 underlying21 underlying37 underlying38 underlying39 underlying40 underlying110 underlying113 underlying114 underlying116 underlying159 underlying178 underlying215
attribute [simp] Env.of
def A0W(l:List ByteArray):List (List AV):=l.map λs=>[S s]
@[simp] def B6o(l:List ByteArray):(A0W l).length=l.length:=by simp[A0W]
section
variable {P:Program} {t e:TypeId} {s:ByteArray} {k k2:IntKind} {i j:Int}
@[simp] def D6M(h:P.underlying t=some .string):A2E P t (.val (.string s)) (some (.val (.int k i))) none none=if 0<=i/\i<=s.size then some (.val (.string (s.extract i.toNat s.size)))else none:=by
 by_cases hc:0<=i/\i<=s.size
 .simp[A2E,A4h,h,A1F,hc]
 .simp[A2E,A4h,h,A1F,hc]
@[simp] def D6Z(h:P.underlying t=some .string):A2E P t (.val (.string s)) none (some (.val (.int k i))) none=if 0<=i/\i<=s.size then some (.val (.string (s.extract 0 i.toNat)))else none:=by
 by_cases hc:0<=i/\i<=s.size
 .simp[A2E,A4h,h,A1F,hc]
 .simp[A2E,A4h,h,A1F,hc]
variable {sz:Nat} {rows:List (List AV)} {own:Own}
@[simp] def D5g(h:A1f P t=some e)(hs:A1u P e=some sz):A2E P t (.list sz rows own) (some (.val (.int k i))) none none=if 0<=i/\i<=rows.length then some (.list sz (rows.drop i.toNat) (A7A rows.length i.toNat rows.length none own))else none:=by
 by_cases hc:0<=i/\i<=rows.length
 .simp[A2E,A4h,A4m,h,hs,A1F,hc]
 .simp[A2E,A4h,A4m,h,hs,A1F,hc]
@[simp] def D2w(h:A1f P t=some e)(hs:A1u P e=some sz):A2E P t (.list sz rows own) (some (.val (.int k i))) (some (.val (.int k2 j))) none=if 0<=i/\i<=j/\j<=rows.length then some (.list sz ((rows.take j.toNat).drop i.toNat) (A7A rows.length i.toNat j.toNat none own))else none:=by
 by_cases hj:0<=j/\j<=rows.length
 .by_cases hc:0<=i/\i<=(j.toNat:Int)
  ·(have:0<=i/\i<=j/\j<=rows.length:=by omega);simp[A2E,A4h,A4m,h,hs,A1F,hj,hc.1,show i<=max j 0 from by omega];omega
  ·(have:¬(0<=i/\i<=j/\j<=rows.length):=by omega);rw[Z0d this]
   simp only[A2E,A4h,A4m,h,hs,A1F,Z3A,Z0e hj,Z0d hc,Z1W,Z2X,Z0T]
 .have:¬(0<=i/\i<=j/\j<=rows.length):=by omega
  simp only[A2E,A4h,A4m,h,hs,A1F,Z3A,Z0d hj,Z0d this];simp
end
def A1a{C}{f}{fn}{c}{args}{M}{Q:AV->Mem->Prop}(hf:C.P.funcs[f]?=some fn)(hb:fn.body=some c)(hn:(fn.name== "runtime.NumGoroutine")=false)(h:A0e C f args M Q):A4r C f args M Q:=.inl ⟨A9R hf hb hn,h⟩
def A0L{n}(h1:-9223372036854775808<=n)(h2:n<=9223372036854775807):IntKind.i64.wrap n=n:=IntWalk.i64_in _ ⟨h1,h2⟩
structure A0w where
 k:Int
 lab:ByteArray
def A0w.row(s:A0w):List AV:=[I s.k,S s.lab]
abbrev A5y(p:List A0w):AV:=.list 2 (p.map A0w.row) .no
structure A1e where
 k:Int
 path:List A0w
 to:ByteArray
 frm:Int
 at_:Int
def A1e.row(c:A1e):List AV:=[I c.k,A5y c.path,S c.to,I c.frm,I c.at_]
abbrev A1e.v(c:A1e):AV:=.agg c.row
open Go.Proofs
def A5K(e:TypeId)(M:Mem)(v:AV)(cs:List AV):Prop:=(v=.val (.slice none 0 0)/\cs=[])\/∃f g hist,v=.vref f g 1 0 cs.length/\M[f]?=some (.vec e 1 cs g hist)/\hist.lookup g=some cs.length
def A5K.lt{e:TypeId}{M}{v}{cs}(h:A5K e M v cs){f}(hf:obj v=some f):f<M.length:=by
 rcases h with⟨rfl,_⟩|⟨f',g,a,rfl,hm,_⟩
 .simp at hf
 .simp at hf;subst hf;exact(Z0a.1 hm).1
def A5K.keep{e:TypeId}{M M'}{v}{cs}(h:A5K e M v cs){o}(hk:A0c o M M')(ho:∀f,obj v=some f->o≠some f):A5K e M' v cs:=by
 rcases h with⟨rfl,h⟩|⟨f',g,a,rfl,hm,hl⟩
 .exact .inl ⟨rfl,h⟩
 .exact .inr ⟨f',g,a,rfl,hk.get hm (ho _ rfl),hl⟩
def A5K.src{e:TypeId}{M}{v}{cs}(h:A5K e M v cs):A0D M 1 v=some (cs,cs.length):=by
 rcases h with⟨rfl,rfl⟩|⟨f',g,a,rfl,hm,hl⟩
 .rfl
 .simp[A0D,hm,hl]
def A5K.len{e:TypeId}{M}{v}{cs}(h:A5K e M v cs){P}{t:TypeId}(ht:P.underlying t=some (.slice e)):A2y P t v=some cs.length:=by rcases h with⟨rfl,rfl⟩|⟨f',g,a,rfl,hm,hl⟩<;>simp[A2y,ht]
section
variable {C:Ctx} {M:Mem} {K:AV->Mem->Prop}
def push{own vec}{st xt e:TypeId}{bytes m}{s x}{cs news}{tg}(h1:A1f C.P st=some e)(h2:A3V C.P xt)(h3:A3s C.P e 1 bytes)(ho:A5K e M s cs)
 (hx:A0D M 1 x=some (news,m))(hm:news.length=m)(hb:(cs.length+m)*bytes<=140737488355328)(b:vec=true)
 (hk:∀v' M',A5K e M' v' (cs++news)->A0c (obj s) M M'->(obj v'=obj s\/A1m M.length v')->(news=[]->v'=s/\M'=M)->K v' M'):A4Q C own vec st xt s x M K tg:=by
 subst b
 rcases ho with⟨rfl,rfl⟩|⟨f,g,a,rfl,hf,hl⟩
 .refine A5D h1 h2 h3 (by rfl) hx hb (by simp only[A5H,hx]) ?_ rfl;simp only[A6w,hx];by_cases h0:m=0
  .rw[Z0e h0];have hn:news=[]:=Z0y (by omega);subst hn;exact hk _ _ (.inl ⟨rfl,rfl⟩) (A0c.refl _ _) (.inl rfl) λ_=>⟨rfl,rfl⟩
  .rw[Z0d h0];(refine hk _ _ (.inr ⟨M.length,0,[(0,m)],by simp[hm],by simp,by simp[List.lookup,hm]⟩) (.app _ _ _) (.inr ?_) λhn=>by subst hn;simp at hm;omega);intro f hf;simp at hf;omega
 .have d:A0D M 1 (.vref f g 1 0 cs.length)=some (cs,cs.length):=A5K.src (.inr ⟨f,g,a,rfl,hf,hl⟩);refine A5D h1 h2 h3 d hx hb ?_ ?_ rfl
  .simp only[A5H,hx,hf,hl];by_cases h0:0<m<;>simp<;>omega
  .simp only[A6w,hx,hf,hl];rw[Z0e (by simp)];by_cases h0:m=0
   .rw[Z0e h0];have hn:news=[]:=Z0y (by omega);subst hn;simp only[Z1d]at hk;exact hk _ _ (.inr ⟨f,g,a,rfl,hf,hl⟩) (A0c.refl _ _) (.inl rfl) λ_=>⟨rfl,rfl⟩
   .rw[Z0d h0];have c:f<M.length:=(Z0a.1 hf).1;refine hk _ _ (.inr ⟨f,g+1,(g+1,cs.length+m)::a.filter (λp=>decide (p.2<=cs.length)),by simp[hm],by simp[c,Z0g],by simp[List.lookup,hm]⟩) (.set _ _ _) (.inl rfl) λhn=>by subst hn;simp at hm;omega
end
section
variable (gl:Nat->AV) (M:Mem)
def D0z(a b:A1e):A0e (WC gl) 61 [a.v,b.v] M (λv M'=>v=B (decide (a.frm=b.frm/\a.at_=b.at_))/\M'=M):=by
 refine A0n hB func61 ?_;by_cases h1:a.frm=b.frm
 .simp -dsimp[Env.of,A1e.row,h1];by_cases h2:a.at_=b.at_<;>simp[h2]
 .simp -dsimp[Env.of,A1e.row,h1]
def A4a(c:Int):Bool:=decide (c=44)||decide (c=59)||decide (c=46)||decide (c=58)||decide (c=41)
def B2D(s:ByteArray):ByteArray:=if s.size=0 then .empty else if A4a (A0P s (s.size-1))then s.extract (s.size-1) s.size else .empty
def A8D{s:ByteArray}:s=⟨#[]⟩<->s.size=0:=by
 constructor
 .rintro rfl;rfl
 .intro h;refine D6r ?_;have:s.data.size=0:=h;simp[Z3K this]
end
open Go.Proofs TryTypes Tryz
def A4x(M:Mem)(l:List ByteArray)(v:AV)(M':Mem):Prop:=A5K 9 M' v (l.map S)/\A0c none M M'/\A1m M.length v
def C8v(l:List ByteArray):(A0W l).flatten=l.map S:=by
 induction l with
 |nil=>rfl
 |cons a l ih=>simp only[A0W,Z0z,Z0X]at ih|-;rw[ih];rfl
def E1q(M:Mem)(l:List ByteArray)(o:Own):A0D M 1 (.list 1 (A0W l) o)=some (l.map S,l.length):=by simp[A0D,C8v]
@[simp] def C9s{M}:A2m prog 37 0 [] M=some (.vref M.length 0 1 0 0,M++[.vec 9 1 [] 0 [(0,0)]]):=by simp[A2m,A0M]
def D2j(M:Mem):A5K 9 (M++[.vec 9 1 [] 0 [(0,0)]]) (.vref M.length 0 1 0 0) []:=.inr ⟨M.length,0,[(0,0)],rfl,by simp,by simp[List.lookup]⟩
def C4l{M M':Mem}{X:A0m}{v':AV}{l:List ByteArray}(h1:A5K 9 M' v' (l.map S))(h2:A0c (some M.length) (M++[X]) M')(h3:obj v'=some M.length\/A1m (M++[X]).length v'):A4x M l v' M':=by
 refine⟨h1,⟨by have:=h2.1;simp at this;omega,λi hi _=>?_⟩,?_⟩
 .rw[h2.2 i (by simp;omega) (by simp;omega),Z0i hi]
 .intro f hf;rcases h3 with h|h
  .rw[h]at hf;simp at hf;omega
  .have:=h f hf;simp at this;omega
section
variable (gl:Nat->AV) (M:Mem)
def C7R(l:List ByteArray)(o:Own)(hl:l.length*16<=140737488355328):A0e (WC gl) 59 [.list 1 (A0W l) o] M (A4x M l):=by
 refine A0n hW func59 ?_;have tail:∀(K:AV->Mem->Prop) (tg:Tag K),(∀v M',A4x M l v M'->K v M')->A4Q (WC gl) (A2t hW.own (some 7)) (A2t hW.vec (some 7)) 37 37 (.vref M.length 0 1 0 0) (.list 1 (A0W l) o) (M++[.vec 9 1 [] 0 [(0,0)]]) K tg:=by intro K tg hk;refine push (C:=WC gl) (e:=9) A7g A9M B6h (D2j M) (E1q _ l o) (by simp) (by simp;omega) rfl ?_;intro v' M' h1 h2 h3 _;exact hk _ _ (C4l (by simpa using h1) h2 h3)
 cases l with
 |nil=>
  simp -dsimp[A0W];rw[A7j (.inl rfl) underlying37];intro b;cases b
  .simp -dsimp;refine tail _ _ λv M' h=>?_;simp -dsimp;exact h
  .simp -dsimp[A4x,A5K,A0c.refl,A1m]
 |cons a l=>simp -dsimp[A0W];refine tail _ _ λv M' h=>?_;simp -dsimp;exact h
end
section
variable (gl:Nat->AV) (M:Mem)
def D7I{h}{d}{x}{t:TypeId}{p}{af}{g}{ρ:Operand->AV}{M}{b}{a buf}(hx:ρ x=.ptr b 0)(hM:M[b]?=some (.cells 116 [a,buf])):A0U (WC gl) h ⟨d,.convert 113 215 x,t,p,af,g⟩ ρ M=some (.ptr b 0,M):=by simp[A0U,A0I,A2b,A2c,A1d,A6T,hx,A6d,C5V,hM,B2P]
def D3k{h}{d}{x}{t:TypeId}{p}{af}{g}{ρ:Operand->AV}{M}{b}{a buf}(hx:ρ x=.ptr b 0)(hM:M[b]?=some (.cells 116 [a,buf])):A0U (WC gl) h ⟨d,.convert 215 113 x,t,p,af,g⟩ ρ M=some (.ptr b 0,M):=by
 simp[A0U,A0I,A2b,A2c,A1d,A6T,hx,A6d,C5V,hM,B2P]
 kernel_rfl
@[simp] def E0Q{P}{a b:TypeId}{x o}:A6d P a b (.ptr x o)=none:=by unfold A6d;split<;>simp_all
def List.set_eq_of_getElem?{α:Type}{l:List α}{i:Nat}{a:α}(h:l[i]?=some a):l.set i a=l:=by
 apply Z1G;intro j;rw[Z2m];split
 .rename_i e;subst e;obtain⟨h1,h2⟩:=Z0a.1 h;simp[h1,h2]
 .rfl
def D7d(M:Mem)(v:AV):A4r (WC gl) 170 [v] M (λr m=>r=v/\m=M):=(D5z (C:=WC gl) func170 rfl rfl (by kernel_rfl) (by kernel_rfl) [v] M v M [] rfl).1
@[simp] def E1W{P}{t:TypeId}{op}{y}{f:AV->Prop}{tg}:C0c P op t (.val (.pointer none)) y f tg=A1s (A1B P op t (.val (.pointer none)) y) f ⟨⟩:=C5l
@[simp] def D5c{P}{t e:TypeId}(h:P.underlying t=some (.pointer e)):A1B P .eql t (.val (.pointer none)) (.val (.pointer none))=some (.val (.bool true)):=by simp[A1B,A3q,A4p,h,A3Q,B5B]
def C3V(b:Nat)(a c:AV)(hM:M[b]?=some (.cells 116 [a,c]))(ha:a=.val (.pointer none)\/a=.ptr b 0):A0e (WC gl) 118 [.ptr b 0] M (λv M'=>M'=M.set b (.cells 116 [.ptr b 0,c])):=by
 refine A0n hB func118 ?_
 rcases ha with rfl|rfl
 .simp -dsimp[A0b hM,A0f hM];rw[D7I gl (by rfl) hM];simp -dsimp;refine A1W (D7d gl _ _) ?_;rintro r M' ⟨rfl,rfl⟩;simp -dsimp;rw[D3k gl (by rfl) hM];have d:b<M'.length:=(Z0a.1 hM).1;simp -dsimp[A0f hM,A0d,AV.storable,d,B1N]
 .simp -dsimp[A0b hM,A0f hM,B1N];rw[List.set_eq_of_getElem? hM]
def A6V(s:ByteArray):List AV:=s.data.toList.map λb=>.val (.int .u8 b.toNat)
@[simp] def C9i(s:ByteArray):(A6V s).length=s.size:=by simp[A6V]
def C8z(a b:ByteArray):A6V (a++b)=A6V a++A6V b:=by simp[A6V,B5K]
def Bld(n b:Nat)(M:Mem)(bs:ByteArray):Prop:=n<=b/\∃a buf,M[b]?=some (.cells 116 [a,buf])/\(a=.val (.pointer none)\/a=.ptr b 0)/\A5K 5 M buf (A6V bs)/\(∀f,obj buf=some f->n<=f/\f≠b)/\(bs.size=0->buf=.val (.slice none 0 0))
def A1c(n:Nat)(M M':Mem):Prop:=M.length<=M'.length/\∀i,i<n->M'[i]?=M[i]?
def A1c.refl(n:Nat)(M:Mem):A1c n M M:=⟨Z0n _,λ_ _=>rfl⟩
def A1c.trans{n}{A B C}(h1:A1c n A B)(h2:A1c n B C):A1c n A C:=⟨Z0R h1.1 h2.1,λi hi=>(h2.2 i hi).trans (h1.2 i hi)⟩
def A1c.get{n}{A B}(h:A1c n A B){i}(hi:i<n){X}(hx:A[i]?=some X):B[i]?=some X:=by rw[h.2 i hi,hx]
def A0c.low{o}{A B}(h:A0c o A B){n}(hn:n<=A.length)(ho:∀f,o=some f->n<=f):A1c n A B:=⟨h.1,λi hi=>h.2 i (by omega) λe=>by have:=ho i e;omega⟩
def A1c.set{n f}(M:Mem)(X:A0m)(h:n<=f):A1c n M (M.set f X):=⟨by simp,λi hi=>by rw[Z0c (by omega)]⟩
def C7o(n b:Nat)(bs s:ByteArray)(h:Bld n b M bs)(q:bs.size+s.size<=140737488355328)(hn:n<=M.length):A0e (WC gl) 62 [.ptr b 0,S s] M (λv M'=>Bld n b M' (bs++s)/\A1c n M M'):=by
 obtain⟨k,a,c,hM,ha,ho,d,h0⟩:=h
 have p:b<M.length:=(Z0a.1 hM).1
 refine A0n hW func62 ?_
 simp -dsimp
 refine A0q func118 (C3V gl M b a c hM ha) ?_
 rintro r M1 rfl
 have o:(M.set b (.cells 116 [.ptr b 0,c]))[b]?=some (.cells 116 [.ptr b 0,c]):=by simp[p]
 simp -dsimp[A0b o]
 have t:A5K 5 (M.set b (.cells 116 [.ptr b 0,c])) c (A6V bs):=ho.keep (.set M b _) λf hf=>by have:=(d f hf).2;simp;omega
 refine push (C:=WC gl) (e:=5) D7A (.inr (by kernel_rfl)) E7E t (news:=A6V s) (m:=s.size) rfl (by simp) (by simpa using q) rfl ?_
 intro v' M' p1 p2 p3 p4
 have j:M'[b]?=some (.cells 116 [.ptr b 0,c]):=p2.get o λe=>(d b e).2 rfl
 have u:bs.size+s.size=0->v'=.val (.slice none 0 0):=λe=>by have:A6V s=[]:=Z0y (by rw[C9i];omega);rw[(p4 this).1];exact h0 (by omega)
 have i:∀f,obj v'=some f->n<=f/\f≠b:=by
  intro f hf;rcases p3 with e|e
  .rw[e]at hf;exact d f hf
  .have:=e f hf;simp at this;omega
 have fin:∀(w:AV) (hw:w=v'),Bld n b (M'.set b (.cells 116 [.ptr b 0,w])) (bs++s)/\A1c n M (M'.set b (.cells 116 [.ptr b 0,w])):=by
  intro w hw;subst hw;have l:b<M'.length:=(Z0a.1 j).1;refine⟨⟨k,.ptr b 0,w,by simp[l],.inr rfl,?_,i,by simpa using u⟩,?_⟩
  .rw[C8z];exact p1.keep (.set M' b _) λf hf=>by have:=(i f hf).2;simp;omega
  .refine((A1c.set M _ k).trans (p2.low (by simp;exact hn) λf hf=>(d f hf).1)).trans (.set M' _ k)
 rcases p1 with⟨e,_⟩|⟨f,g,x,e,_,_⟩
 .rw[e]at fin|-;simp -dsimp[A0f j,A0d];exact fin _ rfl
 .rw[e]at fin|-;simp -dsimp[A0f j,A0d];exact fin _ (by simp)
def C2j:∀l:List UInt8,B1X (l.map λb=>AV.val (.int .u8 b.toNat))=some l
 |[]=>rfl
 |a::l=>by have:=a.toNat_lt;simp only[Z0z,B1X];rw[Z0e ⟨by omega,by omega⟩,C2j l];simp
def D8L(s:ByteArray):B1X (A6V s)=some s.data.toList:=C2j _
def D1T(n b:Nat)(bs:ByteArray)(h:Bld n b M bs)(x:bs.size<=140737488355328)(hn:n<=M.length):A0e (WC gl) 64 [.ptr b 0] M (λv M'=>v=S bs/\A1c n M M'):=by
 obtain⟨u,a,w,hM,ha,ho,q,h0⟩:=h
 have t:b<M.length:=(Z0a.1 hM).1
 refine A0n hW func64 ?_
 rcases ho with⟨rfl,he⟩|⟨f,g,s,rfl,hf,hl⟩
 .have hs:bs.size=0:=by have:=congrArg List.length he;simpa using this
  have he:bs=⟨#[]⟩:=A8D.2 hs;simp -dsimp;refine C0F hW (A0u gl) (λk=>if k=3\/k=8 then 1 else if k=4\/k=10 then 2 else 0) b (by rfl) (by kernel_rfl) ?_;simp -dsimp[A0b hM,A5u,A5m,he,A1c.refl];rfl
 .have hs:bs.size≠0:=λe=>by have:=h0 e;simp at this
  have d:=q f rfl;simp -dsimp;refine C0F hW (A0u gl) (λk=>if k=3\/k=8 then 1 else if k=4\/k=10 then 2 else 0) b (by rfl) (by kernel_rfl) ?_;have l:¬bs=ByteArray.empty:=λe=>hs (by rw[e];rfl);have i:0<bs.size:=by omega
  have p:prog.cellsOf 5=1:=by kernel_rfl
  have r:(bs.size:Int)<=9223372036854775807:=by omega
  have m:List.take bs.size (A6V bs)=A6V bs:=Z0g (by simp);have j:¬f=b:=d.2;have o:(⟨bs.data.toList.toArray⟩:ByteArray)=bs:=by simp
  have c:A1c n M (M.set f .gone):=.set M _ d.1;simp -dsimp[A0b hM,A5u,A5m,hf,hl,l,i,p,r,m,D8L,j,o,c]
end
section
variable (gl:Nat->AV) (M:Mem)
def A6N:ByteArray:=⟨#[44,59,46,58,41]⟩
def A7d(c:Int):Int:=if c=44 then 0 else if c=59 then 1 else if c=46 then 2 else if c=58 then 3 else if c=41 then 4 else -1
def C7e(c:Int):decide (0<=A7d c)=A4a c:=by
 unfold A7d A4a;by_cases h1:c=44
 .simp[h1]
 by_cases h2:c=59
 .simp[h2]
 by_cases h3:c=46
 .simp[h3]
 by_cases h4:c=58
 .simp[h4]
 by_cases h5:c=41
 .simp[h5]
 simp[h1,h2,h3,h4,h5]
def D2e(c:UInt8):(match(List.range A6N.size).find? λi=>A6N[i]! ==c with
 |some i=>goInt i
 |none=>goInt (-1))=.int .i64 (A7d (c.toNat:Int)):=by
 have key:∀n:Fin 256,(match(List.range A6N.size).find? λi=>A6N[i]! ==UInt8.ofNat n.val with
  |some i=>(i:Int)
  |none=>-1)=A7d (n.val:Int):=by decide+kernel
 have k:=key ⟨c.toNat,c.toNat_lt⟩
 simp only[UInt8.ofNat_toNat]at k
 rw[<-k]
 cases(List.range A6N.size).find? λi=>A6N[i]! ==c<;>rfl
def D4r(c:UInt8):A4r (WC gl) 344 [S A6N,.val (.int .u8 c.toNat)] M (λr m=>r=I (A7d c.toNat)/\m=M):=by refine(C0T (C:=WC gl) func344 rfl rfl (by kernel_rfl) (by kernel_rfl) [S A6N,.val (.int .u8 c.toNat)] M _ M [] rfl).1.mono ?_;rintro r m ⟨rfl,rfl⟩;refine⟨?_,rfl⟩;have:=D2e c;simp only[Int.toNat_natCast,Nat.toUInt8_eq,UInt8.ofNat_toNat];exact congrArg AV.val this
def C5Y(c:UInt8):A0e (WC gl) 271 [S A6N,.val (.int .u8 c.toNat)] M (λr m=>r=I (A7d c.toNat)/\m=M):=by refine A0n hB func271 ?_;simp -dsimp;refine A1W (D4r gl M c) ?_;rintro r m ⟨rfl,rfl⟩;simp -dsimp
def D4v(t:ByteArray)(ht:t.size=1):A0e (WC gl) 220 [S A6N,S t] M (λr m=>r=I (A7d (A0P t 0))/\m=M):=by
 refine A0n hB func220 ?_;have a:¬t=A6N:=λe=>by rw[e]at ht;revert ht;decide
 simp -dsimp[ht,a];refine A0q func271 (C5Y gl M (t.data.getD 0 0)) ?_;rintro r m ⟨rfl,rfl⟩;simp -dsimp[A0P]
def D3D(t:ByteArray)(ht:t.size=1):A0e (WC gl) 171 [S A6N,S t] M (λr m=>r=I (A7d (A0P t 0))/\m=M):=by refine A0n hB func171 ?_;simp -dsimp;refine A0q func220 (D4v gl M t ht) ?_;rintro r m ⟨rfl,rfl⟩;simp -dsimp
def C7d(t:ByteArray)(ht:t.size=1):A0e (WC gl) 119 [S A6N,S t] M (λr m=>r=B (A4a (A0P t 0))/\m=M):=by refine A0n hB func119 ?_;simp -dsimp;refine A0q func171 (D3D gl M t ht) ?_;rintro r m ⟨rfl,rfl⟩;simp -dsimp[<-C7e]
def A5s{s}{i j k}(h:i+k<j)(hj:j<=s.size):A0P (s.extract i j) k=A0P s (i+k):=by
 have h1:k<(s.extract i j).size:=by simp;omega
 have h2:i+k<s.size:=by omega
 have e:(s.extract i j)[k]=s[i+k]:=ByteArray.getElem_extract h1;have g:∀(t:ByteArray) (n:Nat) (h:n<t.size),A0P t n=(t[n].toNat:Int):=by intro t n h;have h':n<t.data.size:=h;simp only[A0P,Z3S,Z0Q h',Z1w];rfl
 rw[g _ _ h1,g _ _ h2,e]
def D7P(s:ByteArray)(hs:s.size<=maxLen):A0e (WC gl) 63 [S s] M (λv M'=>v=S (B2D s)/\M'=M):=by
 refine A0n hB func63 ?_;by_cases h0:s.size=0
 .have he:s=⟨#[]⟩:=A8D.2 h0;simp -dsimp[he];rfl
 .have he:¬s=⟨#[]⟩:=λh=>h0 (A8D.1 h);have hw:IntKind.i64.wrap ((s.size:Int)-1)=(s.size-1:Nat):=by rw[A0L (by omega) (by simp only[maxLen]at hs;omega)];omega
  have b:s.size-1<s.size:=by omega
  have d:s.size-1<=s.size:=by omega
  have a:B2D s=if A4a (A0P s (s.size-1))then s.extract (s.size-1) s.size else .empty:=by rw[B2D,Z0d h0]
  have c:A0P (s.extract (s.size-1) s.size) 0=A0P s (s.size-1):=A5s (by omega) (by omega);simp -dsimp[he,hw,b];refine A0q func119 (C7d gl M (s.extract (s.size-1) s.size) (by simp;omega)) ?_;rintro r m ⟨rfl,rfl⟩;rw[c];cases hb:A4a (A0P s (s.size-1))
  .rw[hb]at a;simp -dsimp[a];rfl
  .rw[hb]at a;simp -dsimp[hw,a,b]
end
open Go.Proofs TryTypes
section
variable (gl:Nat->AV) {α:Type} {enc:α->List AV} {c:α->α->Int} {fid:FuncId} {first cap:List AV} {f g n:Nat} {M0:Mem}
end
def A1H{i:Nat}(h:i<=1000000):IntKind.i64.wrap ((i:Int)+1)=((i+1:Nat):Int):=by rw[A0L (by omega) (by omega)];omega
section
variable (gl:Nat->AV) {α:Type} {enc:α->List AV} {c:α->α->Int} {fid:FuncId} {first cap:List AV} {f g n:Nat} {M0:Mem}
end
section
variable (gl:Nat->AV) {α:Type} {enc:α->List AV} {c:α->α->Int} {fid:FuncId} {first cap:List AV} {f g n:Nat} {M0:Mem}
end
def C5N(x y:Int):Int:=if x<y then -1 else if y<x then 1 else 0
def orL:List Int->Int
 |[]=>0
 |x::l=>if x=0 then orL l else x
def B8O(l:List Int):List (List AV):=l.map λx=>[I x]
@[simp] def E2e(l:List Int):(B8O l).length=l.length:=by simp[B8O]
@[simp] def E1S{p:List Int}{i:Nat}(h:i<(B8O p).length):(B8O p)[i]=[I (p[i]'(by simpa using h))]:=by simp[B8O]
section
variable (gl:Nat->AV) (M:Mem)
def C5c(x:Int):A0e (WC gl) 111 [I x] M (λv M'=>v=B false/\M'=M):=by refine A6D hB func111 rfl rfl rfl rfl rfl rfl ?_;simp -dsimp
def D4h(x y:Int):A0e (WC gl) 56 [I x,I y] M (λv M'=>v=I (C5N x y)/\M'=M):=by
 refine A6D hB func56 rfl rfl rfl rfl rfl rfl ?_;simp -dsimp;refine A1W (A1a func111 rfl rfl (C5c gl M x)) ?_;rintro _ _ ⟨rfl,rfl⟩;simp -dsimp;refine A1W (A1a func111 rfl rfl (C5c gl _ y)) ?_;rintro _ _ ⟨rfl,rfl⟩;by_cases h1:x<y
 .simp -dsimp[h1,C5N]
 .by_cases h2:y<x
  .have a:x>y:=h2;simp -dsimp[h1,h2,a,C5N]
  .have a:¬x>y:=h2;simp -dsimp[h1,h2,a,C5N]
def D9h(l:List Int)(hl:l.length<=1000):A0e (WC gl) 55 [.list 1 (B8O l) .full] M (λv M'=>v=I (orL l)/\M'=M):=by
 refine A6D hB func55 rfl rfl rfl rfl rfl rfl ?_;simp -dsimp;refine A2P hB (λT M1=>∃i:Nat,i<=l.length/\T 3=I 0/\T 6=.list 1 (B8O l) .full/\T 7=I l.length/\T 8=I i/\M1=M/\orL l=orL (l.drop i)) (λT _=>match T 8 with|.val (.int _ i)=>l.length-i.toNat|_=>0) (by kernel_rfl) ?_ ?_
 .exact⟨0,by omega,by simp,by simp,by simp,by simp,rfl,by simp⟩
 .rintro T M1 ⟨i,i1,t3,t6,t7,t8,rfl,ho⟩;by_cases hi:i<l.length
  ·(have a:(i:Int)<l.length:=by omega);have w1:=A1H (i:=i) (by omega)
   have hd:l.drop i=l[i]::l.drop (i+1):=Z0j hi;by_cases h0:l[i]=0
   .rw[hd,orL,Z0e h0]at ho;simp -dsimp[t3,t6,t7,t8,hi,a,h0,w1];exact⟨⟨i+1,by clear w1;omega,rfl,ho⟩,by clear w1;omega⟩
   .rw[hd,orL,Z0d h0]at ho;simp -dsimp[t3,t6,t7,t8,hi,a,h0,ho]
  ·(have a:¬(i:Int)<l.length:=by omega);rw[show l.drop i=[]from Z0v (by omega)]at ho
   simp -dsimp[t3,t6,t7,t8,a,ho,orL]
end
def A8n(l:List A0Q):Bool:=l.all (λw=>decide (w.text.size<=100))&&decide (l.length<=300)
mutual
def B2C:A0a->Bool
 |.mk _ _ l h w ks=>decide (l.size<=30)&&A8n h&&A8n w&&B0Q ks
def B0Q:List A0a->Bool
 |[]=>true
 |k::ks=>B2C k&&B0Q ks
end
mutual
def B0i:A0a->Int->Int->Int
 |.mk _ _ _ _ _ ks,deep,most=>if 20<deep then most+1 else A8k ks deep most 1
def A8k:List A0a->Int->Int->Int->Int
 |[],_,_,n=>n
 |k::ks,deep,most,n=>if n<=most then A8k ks deep most (n+B0i k (deep+1) (most-n))else n
end
mutual
def C5v:∀(u:A0a) (b a:Int),0<=a->1<=B0i u b a/\B0i u b a<=a+1
 |.mk _ _ _ _ _ ks,b,a,h=>by
  rw[B0i];split
  .omega
  .exact C7B ks b a 1 h (by omega) (by omega)
def C7B:∀(ks:List A0a) (b a n:Int),0<=a->1<=n->n<=a+1->1<=A8k ks b a n/\A8k ks b a n<=a+1
 |[],b,a,n,h,h1,h2=>by rw[A8k];exact⟨h1,h2⟩
 |k::ks,b,a,n,h,h1,h2=>by
  rw[A8k];split
  .have:=C5v k (b+1) (a-n) (by omega);exact C7B ks b a _ h (by omega) (by omega)
  .exact⟨h1,h2⟩
end
def B7n(u:A0a)(most:Int):Bool:=decide (B0i u 0 most<=most)&&B2C u
section
variable (gl:Nat->AV) (M:Mem)
def C2r(l:List A0Q)(o:Own)(hl:l.length<=maxLen):A0e (WC gl) 149 [.list 4 (A0g l) o] M (λv M'=>v=B (A8n l)/\M'=M):=by
 refine A0n hB func149 ?_;have e:l.length<=9223372036854775807:=by simpa[maxLen]using hl
 simp -dsimp;refine A0B hB l.length 3 (λT M1=>∃i:Nat,i<=l.length/\T 0=.list 4 (A0g l) o/\T 3=I i/\M1=M/\A8n l=((l.drop i).all (λw=>decide (w.text.size<=100))&&decide (l.length<=300))) ?_ ?_
 .exact⟨0,by omega,by simp,by simp,rfl,by simp[A8n]⟩
 .rintro T M1 ⟨i,i1,t0,t3,rfl,ho⟩;by_cases hi:i<l.length
  ·(have b:(i:Int)<l.length:=by omega);have w1:IntKind.i64.wrap ((i:Int)+1)=(i+1:Nat):=by rw[A0L (by omega) (by omega)];omega
   have hd:l.drop i=l[i]::l.drop (i+1):=Z0j hi;rw[hd,Z1n]at ho;by_cases h0:l[i].text.size<=100
   ·(have a:¬(100:Int)<l[i].text.size:=by omega);have c:¬(l[i].text.size:Int)>100:=a
    rw[Z0w h0,Z0L]at ho;simp -dsimp[t0,t3,hi,b,a,c,w1,A0Q.row];exact⟨⟨i+1,by clear w1;omega,rfl,ho⟩,by clear w1;omega⟩
   ·(have a:(100:Int)<l[i].text.size:=by omega);have c:(l[i].text.size:Int)>100:=a
    rw[Z0r h0,Z0O,Z0O]at ho;simp -dsimp[t0,t3,hi,b,a,c,A0Q.row,ho]
  ·(have b:¬(i:Int)<l.length:=by omega);rw[show l.drop i=[]from Z0v (by omega),Z3L,Z0L]at ho
   simp -dsimp[t0,t3,b,ho];by_cases h3:l.length<=300
   ·(have d:(l.length:Int)<=300:=by omega);simp[h3,d]
   ·(have d:¬(l.length:Int)<=300:=by omega);simp[h3,d]
end
section
variable (gl:Nat->AV)
def C2X:∀(u:A0a) (M:Mem),u.good->A0e (WC gl) 101 [.agg u.row] M (λv M'=>v=B (B2C u)/\M'=M)
 |.mk id kind lab hd ws ks,M,hg=>by
  obtain⟨_,_,_,hh,_,hw,_,hk,g⟩:=(A0a.good_iff _).1 hg;have h:ks.length<=9223372036854775807:=hk;refine A0n hB func101 ?_;have a:B2C (.mk id kind lab hd ws ks)=(decide (lab.size<=30)&&A8n hd&&A8n ws&&B0Q ks):=by rw[B2C]
  by_cases h1:lab.size<=30;case neg=>
   (have b:(30:Int)<lab.size:=by omega);have d:(lab.size:Int)>30:=b
   rw[Z0r h1]at a;simp only[Z0O]at a;simp -dsimp[A0a.row,b,d,a]
  have b:¬(30:Int)<lab.size:=by omega
  have d:¬(lab.size:Int)>30:=b;rw[Z0w h1,Z0L]at a;simp -dsimp[A0a.row,b,d];refine A0h func149 (C2r gl M hd .no hh) ?_;cases h2:A8n hd;case false=>rw[h2,Z0O,Z0O]at a;simp -dsimp[a]
  rw[h2,Z0L]at a;simp -dsimp;refine A0h func149 (C2r gl _ ws .no hw) ?_;cases h3:A8n ws;case false=>rw[h3,Z0O]at a;simp -dsimp[a]
  rw[h3,Z0L]at a;simp -dsimp;refine A0B hB ks.length 3 (λT M1=>∃i:Nat,i<=ks.length/\T 1=.cptr [I id.act,I id.item,I id.n,I kind,S lab,.list 4 (A0g hd) .no,.list 4 (A0g ws) .no,.list 8 (A0p ks) .no]/\T 3=I i/\M1=M/\B0Q ks=B0Q (ks.drop i)) ?_ ?_
  .exact⟨0,by omega,by simp,by simp,rfl,by simp⟩
  .rintro T M1 ⟨i,i1,t1,t3,rfl,ho⟩;by_cases hi:i<ks.length
   ·(have e:(i:Int)<ks.length:=by omega);have w1:IntKind.i64.wrap ((i:Int)+1)=(i+1:Nat):=by rw[A0L (by omega) (by omega)];omega
    have f:ks.drop i=ks[i]::ks.drop (i+1):=Z0j hi;have c:ks[i]∈ks:=Z0o hi;rw[f,B0Q]at ho;simp -dsimp[t1,t3,hi,e];have:=A0a.kid_lt (u:=.mk id kind lab hd ws ks) c;refine A0h func101 (C2X ks[i] M1 (g _ c)) ?_;cases h4:B2C ks[i]
    .rw[h4,Z0O]at ho;simp -dsimp[t1,t3,a,ho]
    .rw[h4,Z0L]at ho;simp -dsimp[t1,t3,w1];exact⟨⟨i+1,by clear w1;omega,rfl,ho⟩,by clear w1;omega⟩
   ·(have e:¬(i:Int)<ks.length:=by omega);rw[show ks.drop i=[]from Z0v (by omega),B0Q]at ho
    simp -dsimp[t1,t3,e,a,ho]
termination_by u=>SizeOf.sizeOf u
def C7l:∀(u:A0a) (b a:Int) (M:Mem),u.good->0<=b->b<=30->0<=a->a<=1000->A0e (WC gl) 100 [.agg u.row,I b,I a] M (λv M'=>v=I (B0i u b a)/\M'=M)
 |.mk id kind lab hd ws ks,b,a,M,hg,d0,d1,m0,m1=>by
  obtain⟨_,_,_,hh,_,hw,_,hk,h⟩:=(A0a.good_iff _).1 hg;have j:ks.length<=9223372036854775807:=hk;refine A0n hB func100 ?_;have c:B0i (.mk id kind lab hd ws ks) b a=if 20<b then a+1 else A8k ks b a 1:=by rw[B0i]
  by_cases h1:20<b
  .have f:b>20:=h1;have w1:IntKind.i64.wrap (a+1)=a+1:=A0L (by omega) (by omega);rw[Z0e h1]at c;simp -dsimp[A0a.row,h1,f,w1,c]
  have f:¬b>20:=h1;rw[Z0d h1]at c;simp -dsimp[A0a.row,h1,f];refine A0B hB ks.length 8 (λT M1=>∃i:Nat,i<=ks.length/\T 1=I b/\T 2=I a/\T 3=.cptr [I id.act,I id.item,I id.n,I kind,S lab,.list 4 (A0g hd) .no,.list 4 (A0g ws) .no,.list 8 (A0p ks) .no]/\T 8=I i/\M1=M/\∃n:Int,T 7=I n/\1<=n/\n<=a+1/\A8k ks b a 1=A8k (ks.drop i) b a n) ?_ ?_
  .exact⟨0,by omega,by simp,by simp,by simp,by simp,rfl,1,by simp,by omega,by omega,by simp⟩
  .rintro T M1 ⟨i,i1,t1,t2,t3,t8,rfl,n,t7,n1,n2,ho⟩;by_cases hi:i<ks.length
   ·(have d:(i:Int)<ks.length:=by omega);have w1:IntKind.i64.wrap ((i:Int)+1)=(i+1:Nat):=by rw[A0L (by omega) (by omega)];omega
    have g:ks.drop i=ks[i]::ks.drop (i+1):=Z0j hi;have e:ks[i]∈ks:=Z0o hi;rw[g,A8k]at ho;by_cases hn:n<=a
    .rw[Z0e hn]at ho;have w2:IntKind.i64.wrap (b+1)=b+1:=A0L (by omega) (by omega);have w3:IntKind.i64.wrap (a-n)=a-n:=A0L (by omega) (by omega);simp -dsimp[t1,t2,t3,t7,t8,hi,d,hn,w2,w3];have:=A0a.kid_lt (u:=.mk id kind lab hd ws ks) e;refine A0h func100 (C7l ks[i] (b+1) (a-n) M1 (h _ e) (by omega) (by omega) (by omega) (by omega)) ?_;have hs:=C5v ks[i] (b+1) (a-n) (by omega);generalize B0i ks[i] (b+1) (a-n)=z at*;have w4:IntKind.i64.wrap (n+z)=n+z:=A0L (by omega) (by omega);simp -dsimp[t1,t2,t3,t7,t8,w1,w4];exact⟨⟨i+1,by clear w1;omega,rfl,by omega,by omega,ho⟩,by clear w1;omega⟩
    .rw[Z0d hn]at ho;simp -dsimp[t1,t2,t3,t7,t8,hi,d,hn,c,ho]
   ·(have d:¬(i:Int)<ks.length:=by omega);rw[show ks.drop i=[]from Z0v (by omega),A8k]at ho
    simp -dsimp[t1,t2,t3,t7,t8,d,c,ho]
termination_by u=>SizeOf.sizeOf u
def D5x(u:A0a)(a:Int)(M:Mem)(hg:u.good)(m0:0<=a)(m1:a<=1000):A0e (WC gl) 46 [.agg u.row,I a] M (λv M'=>v=B (B7n u a)/\M'=M):=by
 refine A0n hB func46 ?_;simp -dsimp;refine A0h func100 (C7l gl u 0 a M hg (by omega) (by omega) m0 m1) ?_;by_cases h1:B0i u 0 a<=a
 .simp -dsimp[h1];refine A0h func101 (C2X gl u _ hg) ?_;simp -dsimp[B7n,h1]
 .simp -dsimp[h1,B7n]
end
namespace TryTypes
@[simp] def E5v:A1f prog 235=some 237:=by kernel_rfl
@[simp] def E8B:A2w prog 237=some false:=by kernel_rfl
@[simp] def E9o:A1u prog 237=some 1:=by kernel_rfl
@[simp] def E7i:A0H prog 237=some [.nilFunc]:=by kernel_rfl
@[simp] def E8M:A2w prog 240=some true:=by kernel_rfl
@[simp] def E9D:A1u prog 240=some 3:=by kernel_rfl
@[simp] def E2X:A1t prog 240 0=some 0:=by kernel_rfl
@[simp] def E3t:A0K prog 240 0=some (0,37):=by kernel_rfl
@[simp] def E3q:A1t prog 240 1=some 1:=by kernel_rfl
@[simp] def E4j:A0K prog 240 1=some (1,3):=by kernel_rfl
@[simp] def E3X:A1t prog 240 2=some 2:=by kernel_rfl
@[simp] def E7Y:A2G prog 240=true:=by kernel_rfl
@[simp] def E6N:A0H prog 240=some [.slice none 0 0,.int .i64 0,.bool false]:=by kernel_rfl
end TryTypes
attribute [simp] underlying235 underlying237 underlying238 underlying240 underlying146
namespace TryTypes
@[simp] def E1f:A1f prog 44=some 90:=by kernel_rfl
def E4x:A3V prog 44:=.inl ⟨90,by kernel_rfl⟩
@[simp] def E9I:A2w prog 46=some true:=by kernel_rfl
@[simp] def F0h:A1u prog 46=some 3:=by kernel_rfl
@[simp] def E6h:A1t prog 46 0=some 0:=by kernel_rfl
@[simp] def E5F:A0K prog 46 0=some (0,3):=by kernel_rfl
@[simp] def E5J:A1t prog 46 1=some 1:=by kernel_rfl
@[simp] def E6g:A0K prog 46 1=some (1,3):=by kernel_rfl
@[simp] def E6z:A1t prog 46 2=some 2:=by kernel_rfl
@[simp] def E9t:A2G prog 46=true:=by kernel_rfl
@[simp] def E8f:A0H prog 46=some [.int .i64 0,.int .i64 0,.string ⟨#[]⟩]:=by kernel_rfl
@[simp] def E9u:A2w prog 47=some false:=by kernel_rfl
@[simp] def E9Z:A1u prog 47=some 1:=by kernel_rfl
@[simp] def D4L:A1f prog 47=some 128:=by kernel_rfl
def D9q:A3V prog 47:=.inl ⟨128,by kernel_rfl⟩
@[simp] def E9s:A2w prog 49=some true:=by kernel_rfl
@[simp] def E9W:A1u prog 49=some 7:=by kernel_rfl
@[simp] def E7j:A1t prog 49 0=some 0:=by kernel_rfl
@[simp] def E5S:A0K prog 49 0=some (0,3):=by kernel_rfl
@[simp] def E6q:A1t prog 49 1=some 1:=by kernel_rfl
@[simp] def E6d:A0K prog 49 1=some (1,9):=by kernel_rfl
@[simp] def E5I:A1t prog 49 2=some 2:=by kernel_rfl
@[simp] def E7g:A0K prog 49 2=some (2,3):=by kernel_rfl
@[simp] def E5X:A1t prog 49 3=some 3:=by kernel_rfl
@[simp] def E5s:A0K prog 49 3=some (3,46):=by kernel_rfl
@[simp] def E7q:A1t prog 49 4=some 6:=by kernel_rfl
@[simp] def E9R:A2G prog 49=true:=by kernel_rfl
@[simp] def E8b:A0H prog 49=some [.int .i64 0,.string ⟨#[]⟩,.int .i64 0,.int .i64 0,.int .i64 0,.string ⟨#[]⟩,.slice none 0 0]:=by kernel_rfl
@[simp] def E0u:A1f prog 50=some 79:=by kernel_rfl
def E5o:A3V prog 50:=.inl ⟨79,by kernel_rfl⟩
@[simp] def E9E:A2w prog 79=some true:=by kernel_rfl
@[simp] def F0f:A1u prog 79=some 6:=by kernel_rfl
@[simp] def E5N:A1t prog 79 0=some 0:=by kernel_rfl
@[simp] def E6S:A0K prog 79 0=some (0,23):=by kernel_rfl
@[simp] def E6k:A1t prog 79 1=some 3:=by kernel_rfl
@[simp] def E6T:A0K prog 79 1=some (3,23):=by kernel_rfl
@[simp] def E9h:A2G prog 79=true:=by kernel_rfl
@[simp] def E8k:A0H prog 79=some [.int .i64 0,.int .i64 0,.int .i64 0,.int .i64 0,.int .i64 0,.int .i64 0]:=by kernel_rfl
def E3J:A3s prog 79 6 48:=⟨_,_,type79,rfl,rfl,rfl,rfl,by decide⟩
@[simp] def E9q:A2w prog 90=some true:=by kernel_rfl
@[simp] def F0k:A1u prog 90=some 5:=by kernel_rfl
@[simp] def E7b:A1t prog 90 0=some 0:=by kernel_rfl
@[simp] def E6X:A0K prog 90 0=some (0,23):=by kernel_rfl
@[simp] def E6t:A1t prog 90 1=some 3:=by kernel_rfl
@[simp] def E7h:A0K prog 90 1=some (3,3):=by kernel_rfl
@[simp] def E6l:A1t prog 90 2=some 4:=by kernel_rfl
@[simp] def E6L:A0K prog 90 2=some (4,85):=by kernel_rfl
@[simp] def E9y:A2G prog 90=true:=by kernel_rfl
@[simp] def E8C:A0H prog 90=some [.int .i64 0,.int .i64 0,.int .i64 0,.int .i64 0,.slice none 0 0]:=by kernel_rfl
def E3G:A3s prog 90 5 56:=⟨_,_,type90,rfl,rfl,rfl,rfl,by decide⟩
@[simp] def E8y:A2w prog 128=some true:=by kernel_rfl
@[simp] def E9G:A1u prog 128=some 25:=by kernel_rfl
@[simp] def E3a:A1t prog 128 0=some 0:=by kernel_rfl
@[simp] def E3U:A0K prog 128 0=some (0,3):=by kernel_rfl
@[simp] def E4H:A1t prog 128 1=some 1:=by kernel_rfl
@[simp] def E5n:A0K prog 128 1=some (1,40):=by kernel_rfl
@[simp] def E4O:A1t prog 128 2=some 2:=by kernel_rfl
@[simp] def E3Q:A1t prog 128 3=some 3:=by kernel_rfl
@[simp] def E5g:A0K prog 128 3=some (3,3):=by kernel_rfl
@[simp] def E5k:A1t prog 128 4=some 4:=by kernel_rfl
@[simp] def E2M:A1t prog 128 5=some 5:=by kernel_rfl
@[simp] def E3S:A0K prog 128 5=some (5,27):=by kernel_rfl
@[simp] def E4b:A1t prog 128 6=some 13:=by kernel_rfl
@[simp] def E4G:A1t prog 128 7=some 14:=by kernel_rfl
@[simp] def E4L:A1t prog 128 8=some 15:=by kernel_rfl
@[simp] def E3i:A1t prog 128 9=some 16:=by kernel_rfl
@[simp] def E2s:A1t prog 128 10=some 17:=by kernel_rfl
@[simp] def E2H:A1t prog 128 11=some 20:=by kernel_rfl
@[simp] def E2k:A1t prog 128 12=some 21:=by kernel_rfl
@[simp] def E2o:A1t prog 128 13=some 22:=by kernel_rfl
@[simp] def E2x:A1t prog 128 14=some 23:=by kernel_rfl
@[simp] def E1U:A1t prog 128 15=some 24:=by kernel_rfl
@[simp] def E7y:A2G prog 128=true:=by kernel_rfl
@[simp] def E6r:A0H prog 128=some [.int .i64 0,.slice none 0 0,.slice none 0 0,.int .i64 0,.int .i64 0,.int .i64 0,.int .i64 0,.int .i64 0,.int .i64 0,.string ⟨#[]⟩,.slice none 0 0,.slice none 0 0,.slice none 0 0,.slice none 0 0,.slice none 0 0,.string ⟨#[]⟩,.string ⟨#[]⟩,.int .i64 0,.int .i64 0,.string ⟨#[]⟩,.int .i64 0,.int .i64 0,.int .i64 0,.string ⟨#[]⟩,.slice none 0 0]:=by kernel_rfl
def D4H:A3s prog 128 25 368:=⟨_,_,type128,rfl,rfl,rfl,rfl,by decide⟩
end TryTypes
attribute [simp] underlying44 underlying46 underlying47 underlying49 underlying50 underlying79 underlying90 underlying128 underlying129
namespace TryTypes
@[simp] def D8C:A1f prog 141=some 143:=by kernel_rfl
def E1a:A3V prog 141:=.inl ⟨143,by kernel_rfl⟩
@[simp] def E0c:A2w prog 143=some true:=by kernel_rfl
@[simp] def E3f:A1u prog 143=some 28:=by kernel_rfl
@[simp] def E3M:A1t prog 143 0=some 0:=by kernel_rfl
@[simp] def E3r:A0K prog 143 0=some (0,3):=by kernel_rfl
@[simp] def E3N:A1t prog 143 1=some 1:=by kernel_rfl
@[simp] def E2S:A0K prog 143 1=some (1,3):=by kernel_rfl
@[simp] def E3j:A0K prog 143 2=some (2,3):=by kernel_rfl
@[simp] def E4i:A1t prog 143 3=some 3:=by kernel_rfl
@[simp] def E3g:A0K prog 143 3=some (3,128):=by kernel_rfl
@[simp] def E8O:A2G prog 143=true:=by kernel_rfl
@[simp] def E5U:A0H prog 143=some [.int .i64 0,.int .i64 0,.int .i64 0,.int .i64 0,.slice none 0 0,.slice none 0 0,.int .i64 0,.int .i64 0,.int .i64 0,.int .i64 0,.int .i64 0,.int .i64 0,.string ⟨#[]⟩,.slice none 0 0,.slice none 0 0,.slice none 0 0,.slice none 0 0,.slice none 0 0,.string ⟨#[]⟩,.string ⟨#[]⟩,.int .i64 0,.int .i64 0,.string ⟨#[]⟩,.int .i64 0,.int .i64 0,.int .i64 0,.string ⟨#[]⟩,.slice none 0 0]:=by kernel_rfl
def E0q:A3s prog 143 28 392:=⟨_,_,type143,rfl,rfl,rfl,rfl,by decide⟩
@[simp] def E7u:A2w prog 148=some false:=by kernel_rfl
@[simp] def E9z:A1u prog 148=some 1:=by kernel_rfl
@[simp] def E8E:A2w prog 192=some false:=by kernel_rfl
@[simp] def E9A:A1u prog 192=some 1:=by kernel_rfl
@[simp] def E8R:A2w prog 260=some true:=by kernel_rfl
@[simp] def E9B:A1u prog 260=some 2:=by kernel_rfl
@[simp] def E4f:A1t prog 260 0=some 0:=by kernel_rfl
@[simp] def E4w:A0K prog 260 0=some (0,192):=by kernel_rfl
@[simp] def E3d:A1t prog 260 1=some 1:=by kernel_rfl
@[simp] def E3H:A0K prog 260 1=some (1,148):=by kernel_rfl
@[simp] def E8i:A2G prog 260=true:=by kernel_rfl
@[simp] def E5H:A0H prog 260=some [.nilFunc,.nilFunc]:=by kernel_rfl
@[simp] def E7F:A2w prog 335=some true:=by kernel_rfl
@[simp] def E9v:A1u prog 335=some 4:=by kernel_rfl
@[simp] def E2R:A1t prog 335 0=some 0:=by kernel_rfl
@[simp] def E4D:A0K prog 335 0=some (0,23):=by kernel_rfl
@[simp] def E2Q:A1t prog 335 1=some 3:=by kernel_rfl
@[simp] def E4X:A0K prog 335 1=some (3,3):=by kernel_rfl
@[simp] def E8L:A2G prog 335=true:=by kernel_rfl
@[simp] def E5T:A0H prog 335=some [.int .i64 0,.int .i64 0,.int .i64 0,.int .i64 0]:=by kernel_rfl
@[simp] def E9S:A1u prog 339=some 4:=by kernel_rfl
@[simp] def E3u:A1t prog 339 0=some 0:=by kernel_rfl
@[simp] def E2Z:A0K prog 339 0=some (0,3):=by kernel_rfl
@[simp] def E4Q:A1t prog 339 1=some 1:=by kernel_rfl
@[simp] def E4Z:A0K prog 339 1=some (1,3):=by kernel_rfl
@[simp] def E4R:A1t prog 339 2=some 2:=by kernel_rfl
@[simp] def E4J:A1t prog 339 3=some 3:=by kernel_rfl
@[simp] def E7C:A2G prog 339=true:=by kernel_rfl
@[simp] def E6A:A0H prog 339=some [.int .i64 0,.int .i64 0,.int .i64 0,.int .i64 0]:=by kernel_rfl
@[simp] def E8t:A2w prog 366=some true:=by kernel_rfl
@[simp] def E9w:A1u prog 366=some 4:=by kernel_rfl
@[simp] def E7d:A0H prog 366=some [.nilFunc,.nilFunc,.nilFunc,.nilFunc]:=by kernel_rfl
end TryTypes
attribute [simp] underlying58 underlying75 underlying126 underlying139 underlying141 underlying143 underlying148 underlying189 underlying192 underlying204 underlying227 underlying260 underlying262 underlying301 underlying303 underlying335 underlying339 underlying357 underlying366 underlying368 underlying371
namespace TryTypes
@[simp] def E3l:A1t prog 202 0=some 0:=by kernel_rfl
@[simp] def E5l:A0K prog 202 0=some (0,27):=by kernel_rfl
@[simp] def E3R:A1t prog 202 1=some 8:=by kernel_rfl
@[simp] def E4k:A0K prog 202 1=some (8,23):=by kernel_rfl
@[simp] def E2L:A1t prog 202 2=some 11:=by kernel_rfl
@[simp] def E2P:A0K prog 202 2=some (11,85):=by kernel_rfl
@[simp] def E7L:A2G prog 202=true:=by kernel_rfl
@[simp] def E5t:A0H prog 202=some [.int .i64 0,.int .i64 0,.int .i64 0,.int .i64 0,.string ⟨#[]⟩,.slice none 0 0,.slice none 0 0,.slice none 0 0,.int .i64 0,.int .i64 0,.int .i64 0,.slice none 0 0]:=by kernel_rfl
end TryTypes
end Go.Abs
