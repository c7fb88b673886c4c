/- The texts CyE, CyF, CyG, CyH, CsP, CsQ, CsR, CsT, CsU, CsV, CsW, CvC, CvD, CyI. -/
import Derived.Test.YtmpdkagfplajjaaGreatDoorAG22
import Derived.Laws.RangeAny
import Derived.Laws.RangeString
set_option linter.all false
set_option maxRecDepth 100000
namespace Go.Abs
open Go.Proofs TryTypes Tryz
def A1y(p:Int->Bool)(s:ByteArray):Nat->Nat->Int
 |0,_=>-1
 |n+1,i=>if p (A0T s i)then i else A1y p s n (i+1)
def A0U(lo hi:Int)(c:Int):Bool:=decide (c<lo)||decide (c>hi)
def B9l(s:ByteArray)(i:Nat)(h:i<s.size):A0T s i=((s[i]'h).toNat:Int):=by have h':i<s.data.size:=h;simp only[A0T,Z3Q,Z0U h',Z1p];rfl
def C7n{lo hi}(b:0<lo)(a:hi<128)(s:ByteArray)(pos:Nat)(hp:pos<s.size):A0U lo hi ((Utf8.decode s pos).1:Int)=A0U lo hi (A0T s pos)/\(A0U lo hi (A0T s pos)=false->(Utf8.decode s pos).2=1):=by
 rw[B9l s pos hp]
 by_cases ha:(s[pos]'hp).toNat<128
 .rw[decode_ascii s pos hp ha];exact⟨rfl,λ_=>rfl⟩
 .have:=decode_high s pos hp (by omega);have e1:A0U lo hi ((Utf8.decode s pos).1:Int)=true:=by(have:((Utf8.decode s pos).1:Int)>hi:=by omega);simp[A0U,this]
  have e2:A0U lo hi ((s[pos]'hp).toNat:Int)=true:=by(have:((s[pos]'hp).toNat:Int)>hi:=by omega);simp[A0U,this]
  rw[e1,e2];exact⟨rfl,λe=>by simp at e⟩
section
variable (gl:Nat->AV) (M:Mem)
def D5M(c:Int):A0e (WC gl) 211 [.val (.int .i32 c)] M (λv M'=>v=B (A0U 48 57 c)/\M'=M):=by
 refine A0k hB func211 ?_;by_cases h1:c<48
 .simp -dsimp -implicitDefEqProofs[A0U,h1]
 .simp -dsimp -implicitDefEqProofs[A0U,h1]
def D6E(c:Int):A0e (WC gl) 162 [.val (.int .i32 c)] M (λv M'=>v=B (A0U 65 90 c)/\M'=M):=by
 refine A0k hB func162 ?_;by_cases h1:c<65
 .simp -dsimp -implicitDefEqProofs[A0U,h1]
 .simp -dsimp -implicitDefEqProofs[A0U,h1]
def C2t(g:FuncId)(lo hi:Int)(e:0<lo)(d:hi<128)(s:ByteArray)(hg:∀M c,A5q (WC gl) g [.val (.int .i32 c)] M (λv M'=>v=B (A0U lo hi c)/\M'=M)):
 A0e (WC gl) 264 [S s,.func (.func g) [] [],B true] M (λv M'=>v=I (A1y (A0U lo hi) s s.size 0)/\Grow M M'):=by
 refine A0k hB func264 ?_
 simp -dsimp -implicitDefEqProofs[A6D]
 refine A2o hB (λT M1=>∃pos,pos<=s.size/\M1=M++[.siter s pos]/\T 1=.func (.func g) [] []/\T 2=B true/\T 10=.ptr M.length 0/\A1y (A0U lo hi) s s.size 0=A1y (A0U lo hi) s (s.size-pos) pos) (λT M1=>match M1[M.length]? with|some (.siter _ pos)=>s.size-pos|_=>0) (by kernel_rfl) ?_ ?_
 .refine⟨0,?_⟩;simp -dsimp -implicitDefEqProofs
 .rintro T M1 ⟨pos,h1,rfl,h2,h3,h4,h5⟩;by_cases hp:pos<s.size
  ·(have hn:A5K (.ptr M.length 0) (M++[.siter s pos])=some (.tuple [.val (.bool true),.val (goInt pos),.val (.int .i32 (Utf8.decode s pos).1)],M++[.siter s (pos+(Utf8.decode s pos).2)]):=by simp[A5K,hp]);have a:A1y (A0U lo hi) s (s.size-pos) pos=if A0U lo hi (A0T s pos)then(pos:Int)else A1y (A0U lo hi) s (s.size-(pos+1)) (pos+1):=by(have:s.size-pos=(s.size-(pos+1))+1:=by omega);rw[this];rfl
   obtain⟨b,f⟩:=C7n e d s pos hp;have h:((Utf8.decode s pos).1:Int)=((Utf8.decode s pos).1:Nat):=rfl;simp -dsimp -implicitDefEqProofs[h2,h3,h4,hn];refine A6P (hg _ _) ?_;rintro r M' ⟨rfl,rfl⟩;cases hb:A0U lo hi ((Utf8.decode s pos).1:Int)
   .rw[b]at hb;have hd:=f hb;simp -dsimp -implicitDefEqProofs[h2,h3,h4,hd];refine⟨⟨pos+1,by omega,rfl,by rw[h5,a,hb];rfl⟩,?_⟩;omega
   .rw[b]at hb;simp -dsimp -implicitDefEqProofs[h2,h3,h4];refine⟨?_,.app _ _ _⟩;rw[h5,a,hb];rfl
  ·(have hn:A5K (.ptr M.length 0) (M++[.siter s pos])=some (.tuple [.val (.bool false)],M++[.siter s pos]):=by simp[A5K,hp]);simp -dsimp -implicitDefEqProofs[h2,h3,h4,hn]
   refine⟨?_,.app _ _ _⟩;rw[h5,show s.size-pos=0 by omega];rfl
def B4p(g:FuncId)(lo hi:Int)(b:0<lo)(a:hi<128)(s:ByteArray)(hg:∀M c,A5q (WC gl) g [.val (.int .i32 c)] M (λv M'=>v=B (A0U lo hi c)/\M'=M)):
 A0e (WC gl) 210 [S s,.func (.func g) [] []] M (λv M'=>v=I (A1y (A0U lo hi) s s.size 0)/\Grow M M'):=by
 refine A0k hB func210 ?_
 simp -dsimp -implicitDefEqProofs
 refine A0j func264 (C2t gl M g lo hi b a s hg) ?_
 rintro r M' ⟨rfl,d⟩
 simp -dsimp -implicitDefEqProofs[d]
def B6z(g:FuncId)(lo hi:Int)(b:0<lo)(a:hi<128)(s:ByteArray)(hg:∀M c,A5q (WC gl) g [.val (.int .i32 c)] M (λv M'=>v=B (A0U lo hi c)/\M'=M)):
 A0e (WC gl) 163 [S s,.func (.func g) [] []] M (λv M'=>v=B (decide (0<=A1y (A0U lo hi) s s.size 0))/\Grow M M'):=by
 refine A0k hB func163 ?_
 simp -dsimp -implicitDefEqProofs
 refine A0j func210 (B4p gl M g lo hi b a s hg) ?_
 rintro r M' ⟨rfl,d⟩
 simp -dsimp -implicitDefEqProofs[d]
def B1i(p:Int->Bool)(s:ByteArray):∀n i,A1y p s n i=-1\/((i:Int)<=A1y p s n i/\A1y p s n i<i+n)
 |0,i=>.inl rfl
 |n+1,i=>by
  simp only[A1y];split
  .right;omega
  .rcases B1i p s n (i+1)with h|h
   .exact .inl h
   .right;push_cast at h;omega
def A1X(s:ByteArray):Nat:=let k:=A1y (A0U 48 57) s s.size 0;if k<0 then s.size else k.toNat
def C8S(s:ByteArray):A0e (WC gl) 161 [S s] M (λv M'=>v=.tuple [S (s.extract 0 (A1X s)),S (s.extract (A1X s) s.size)]/\Grow M M'):=by
 refine A0k hB func161 ?_;simp -dsimp -implicitDefEqProofs;refine A0j func210 (B4p gl M 211 48 57 (by decide) (by decide) s λM c=>A2B func211 rfl rfl (D5M gl M c)) ?_;rintro r M' ⟨rfl,a⟩;have hr:=B1i (A0U 48 57) s s.size 0;generalize hk:A1y (A0U 48 57) s s.size 0=k at hr;by_cases h0:k<0
 .have hd:A1X s=s.size:=by simp[A1X,hk,h0]
  simp -dsimp -implicitDefEqProofs[h0,a,hd];rfl
 .have hd:A1X s=k.toNat:=by simp[A1X,hk,h0]
  have h1:0<=k:=by omega
  have h2:k<=s.size:=by omega
  simp -dsimp -implicitDefEqProofs[h0];refine A1h hB (A0w gl) (λ_=>0) (λ_=>0) (by rfl) (by kernel_rfl) ?_;simp -dsimp -implicitDefEqProofs[a,hd,h1,h2]
def B8f(s:ByteArray):A1X s<=s.size:=by have hr:=B1i (A0U 48 57) s s.size 0;simp only[A1X];split<;>omega
def A8S(p:Int->Bool)(s:ByteArray)(d:Nat):∀n i,d+i+n<=s.size->(A1y p (s.extract d s.size) n i<0<->A1y p s n (d+i)<0)
 |0,i,h=>by simp[A1y]
 |n+1,i,h=>by
  simp only[A1y];rw[A8q (by omega) (by omega)];split
  .constructor<;>intro h<;>omega
  .exact A8S p s d n (i+1) (by omega)
def A0K(s:ByteArray):Bool:=decide (1<=A1X s)&&decide (A1X s<=4)&&!decide (A0T s 0=48)&&decide (s.size-A1X s<=3)&&decide (A1y (A0U 65 90) s (s.size-A1X s) (A1X s)<0)
def B1u(s:ByteArray):A0e (WC gl) 112 [S s] M (λv M'=>v=B (A0K s)/\Grow M M'):=by
 refine A0k hB func112 ?_;simp -dsimp -implicitDefEqProofs;refine A0j func161 (C8S gl M s) ?_;rintro r M' ⟨rfl,b⟩;have k:=B8f s;have a:(s.extract 0 (A1X s)).size=A1X s:=by simp;omega
 have f:(s.extract (A1X s) s.size).size=s.size-A1X s:=by simp
 have e:1<=A1X s->A0T (s.extract 0 (A1X s)) 0=A0T s 0:=λh=>by rw[A8q (by omega) k]
 generalize hd:A1X s=d at*;by_cases c1:1<=d;case neg=>
  have:¬(1:Int)<=d:=by omega
  simp -dsimp -implicitDefEqProofs[a,this,A0K,hd,c1,b]
 have i1:(1:Int)<=d:=by omega
 have e:=e c1;by_cases c2:d<=4;case neg=>
  have:¬(d:Int)<=4:=by omega
  simp -dsimp -implicitDefEqProofs[a,this,A0K,hd,c1,i1,c2,b]
 have i2:(d:Int)<=4:=by omega
 have g:0<d:=c1;by_cases c3:A0T s 0=48
 .simp -dsimp -implicitDefEqProofs[a,A0K,hd,c1,i1,c2,i2,c3,e,g,b]
 by_cases c4:s.size-d<=3;case neg=>
  have:¬((s.size-d:Nat):Int)<=3:=by omega
  have l:¬s.size<=3+d:=by omega
  simp -dsimp -implicitDefEqProofs[a,f,A0K,hd,c1,i1,c2,i2,c3,e,g,this,c4,l,b]
 have i4:((s.size-d:Nat):Int)<=3:=by omega
 simp -dsimp -implicitDefEqProofs[a,f,A0K,hd,c1,i1,c2,i2,c3,e,g,i4,c4,b];refine A0j func163 (B6z gl M' 162 65 90 (by decide) (by decide) _ λM c=>A2B func162 rfl rfl (D6E gl M c)) ?_;rintro r M2 ⟨rfl,j⟩;have i:Grow M M2:=A0c.trans b j;have hx:=A8S (A0U 65 90) s d (s.size-d) 0 (by omega);rw[f];by_cases c5:0<=A1y (A0U 65 90) (s.extract d s.size) (s.size-d) 0
 .have:¬A1y (A0U 65 90) s (s.size-d) d<0:=λh=>by have:=hx.2 (by simpa using h);omega
  simp -dsimp -implicitDefEqProofs[c5,A0K,hd,c1,c2,c3,c4,this,i]
 .have:A1y (A0U 65 90) s (s.size-d) d<0:=by have:=hx.1 (by omega);simpa using this
  simp -dsimp -implicitDefEqProofs[c5,A0K,hd,c1,c2,c3,c4,this,i]
end
abbrev A0u.v(s:A0u):AV:=.agg s.row
def A1f(p:List A0u):List (List AV):=p.map A0u.row
@[simp] def D7D(p:List A0u):(A1f p).length=p.length:=by simp[A1f]
@[simp] def E3K{k j}{a b}:A1C prog .eql 159 (.agg [I k,S a]) (.agg [I j,S b])=some (B (decide (k=j)&&decide (a=b))):=by
 have h1:prog.eqGuardType prog.depth 159=false:=by kernel_rfl
 have h2:prog.stoodInHeld 159=false:=by kernel_rfl
 simp[A1C,A3o,A5i,A5k,A5a,h1,A8H,h2,A2Y];by_cases c1:k=j
 .by_cases c2:a=b
  .simp[c1,c2]
  .have:¬a.data=b.data:=λe=>c2 (by cases a;cases b;simpa using e);(have e:(a.data==b.data)=false:=by simpa using this);rw[e];simp[c1,c2]
 .have e:(k==j)=false:=by simpa using c1
  rw[e];simp[c1]
def B0h{x}:A0Q prog 159 [(0,I x)]=some (.agg [I x,S ⟨#[]⟩]):=by simp[A0Q,A1G,A2e,A0d]
section
variable (gl:Nat->AV) (M:Mem)
def A2c(s:A0u):Bool:=decide (s.k=0)&&decide (s.lab=⟨#[]⟩)
def C8q(s:A0u):A0e (WC gl) 214 [s.v] M (λv M'=>v=B (A2c s)/\M'=M):=by refine A0k hB func214 ?_;simp -dsimp -implicitDefEqProofs[A0u.row,A2c,B0h]
def A1b(s:A0u):Bool:=decide (1<=s.k)&&decide (s.k<=7)&&A0K s.lab
def C3M(s:A0u):A0e (WC gl) 217 [s.v] M (λv M'=>v=B (A1b s)/\Grow M M'):=by
 refine A0k hB func217 ?_;by_cases c1:1<=s.k;case neg=>simp -dsimp -implicitDefEqProofs[A0u.row,A1b,c1,Grow,A0c.refl]
 by_cases c2:s.k<=7;case neg=>simp -dsimp -implicitDefEqProofs[A0u.row,A1b,c1,c2,Grow,A0c.refl]
 simp -dsimp -implicitDefEqProofs[A0u.row,A1b,c1,c2];refine A0j func112 (B1u gl M s.lab) ?_;rintro r M' ⟨rfl,a⟩;simp -dsimp -implicitDefEqProofs[A1b,c1,c2,a]
def D0u(s:A0u):A0e (WC gl) 216 [s.v] M (λv M'=>v=B (!A1b s)/\Grow M M'):=by refine A0k hB func216 ?_;simp -dsimp -implicitDefEqProofs[A0u.row];refine A0j func217 (C3M gl M s) ?_;rintro r M' ⟨rfl,a⟩;simp -dsimp -implicitDefEqProofs[a]
end
def Grow.refl(M:Mem):Grow M M:=A0c.refl _ _
def Grow.trans{A B C}(h1:Grow A B)(h2:Grow B C):Grow A C:=A0c.trans h1 h2
@[simp] def D8d{p}{i}(h:i<(A1f p).length):(A1f p)[i]=[I (p[i]'(by simpa using h)).k,S (p[i]'(by simpa using h)).lab]:=by simp[A1f,A0u.row]
def A9p{p:List A0u}{f:A0u->Bool}{i:Nat}(h:i<p.length)(ha:(p.take i).all f=true)(hf:f (p[i])=true):(p.take (i+1)).all f=true:=by rw[Z0A h,Z3H,ha];simp[hf]
section
variable (gl:Nat->AV) (M:Mem)
def C2H(p:List A0u)(o:Own)(c:p.length<=1000000):A0e (WC gl) 270 [.list 2 (A1f p) o,.func (.func 216) [] []] M (λv M'=>(∃r,v=I r/\decide (0<=r)=p.any (λs=>!A1b s))/\Grow M M'):=by
 refine A0k hB func270 ?_;simp -dsimp -implicitDefEqProofs;refine A0s hB p.length 8 (λT M1=>∃i:Nat,i<=p.length/\Grow M M1/\T 0=.list 2 (A1f p) o/\T 1=.func (.func 216) [] []/\T 7=I p.length/\T 8=I i/\(p.take i).all A1b=true) ?_ ?_
 .refine⟨0,?_⟩;simp -dsimp -implicitDefEqProofs[Grow.refl]
 .rintro T M1 ⟨i,h1,h2,h3,h4,h5,h6,h7⟩;by_cases hi:i<p.length
  ·(have a:(i:Int)<p.length:=by omega);have hw:IntKind.i64.wrap ((i:Int)+1)=(i+1:Nat):=by rw[A0H (by omega) (by omega)];omega
   simp -dsimp -implicitDefEqProofs[h3,h4,h5,h6,hi,a];refine A0j func216 (D0u gl M1 p[i]) ?_;rintro r M' ⟨rfl,b⟩;have hg:=h2.trans b;cases hb:A1b p[i]
   .simp -dsimp -implicitDefEqProofs[h3,h4,h5,h6];refine⟨?_,hg⟩;exact⟨p[i],Z0v hi,hb⟩
   .simp -dsimp -implicitDefEqProofs[h3,h4,h5,h6,hw,hg];refine⟨⟨i+1,?_⟩,?_⟩
    .have:=A9p hi h7 hb;simp only[Z0r]at this|-;exact⟨by clear hw;omega,by simp,this⟩
    .clear hw;omega
  ·(have a:¬(i:Int)<p.length:=by omega);rw[Z0l (by omega),Z0r]at h7
   simp -dsimp -implicitDefEqProofs[h3,h4,h5,h6,a];exact⟨h7,h2⟩
def B0R(p:List A0u)(o:Own)(a:p.length<=1000000):A0e (WC gl) 215 [.list 2 (A1f p) o,.func (.func 216) [] []] M (λv M'=>v=B (p.any (λs=>!A1b s))/\Grow M M'):=by refine A0k hB func215 ?_;simp -dsimp -implicitDefEqProofs;refine A0j func270 (C2H gl M p o a) ?_;rintro r M' ⟨⟨r,rfl,hr⟩,b⟩;simp -dsimp -implicitDefEqProofs[b,hr]
def A6U(p:List A0u):List A0u:=match p with
 |[]=>[]
 |s::p'=>if A2c s then p' else s::p'
def A1U(p:List A0u):Bool:=decide (0<(A6U p).length)&&(A6U p).all A1b
def C2f{p:List A0u}:(!p.any (λs=>!A1b s))=p.all A1b:=by
 induction p with
 |nil=>rfl
 |cons a p ih=>simp only[Z1V,Z1k,Bool.not_or,Bool.not_not,ih]
def B4O(p:List A0u)(o:Own)(a:p.length<=1000000):A0e (WC gl) 166 [.list 2 (A1f p) o] M (λv M'=>v=B (A1U p)/\Grow M M'):=by
 refine A0k hB func166 ?_;cases p with
 |nil=>simp -dsimp -implicitDefEqProofs[A1f,A1U,A6U,Grow.refl]
 |cons s p'=>
  simp only[Z0B]at a;simp -dsimp -implicitDefEqProofs[A1f,A0u.row];refine A0j func214 (C8q gl M s) ?_;rintro r M' ⟨rfl,rfl⟩;cases hb:A2c s
  .simp -dsimp -implicitDefEqProofs;refine A0j func215 (B0R gl M' (s::p') o (by simpa using a)) ?_;rintro r M2 ⟨rfl,b⟩;(have e:(s::p').all A1b=A1U (s::p'):=by simp[A1U,A6U,hb]);rw[<-e,<-C2f];simp -dsimp -implicitDefEqProofs[b]
  ·(have i1:(1:Int)<=p'.length+1:=by omega);by_cases c:0<p'.length
   ·(have e:p'.all A1b=A1U (s::p'):=by simp[A1U,A6U,hb,c]);rw[<-e,<-C2f]
    simp -dsimp -implicitDefEqProofs[i1,c];refine A0j func215 (B0R gl M' p' _ (by omega)) ?_;rintro r M2 ⟨rfl,b⟩;simp -dsimp -implicitDefEqProofs[b]
   ·(have e:A1U (s::p')=false:=by simp[A1U,A6U,hb,c]);simp -dsimp -implicitDefEqProofs[i1,c,e,Grow.refl]
end
abbrev C8A(p:List A0u)(o:Own):AV:=.agg [I 0,.list 2 (A1f p) o,S ⟨#[]⟩,I 0,I 0]
def A7L(p:List A0u):Bool:=decide (p.length<=9)&&A1U p
def A1a:List ByteArray:=[⟨#[]⟩,⟨#[112,97,114,116]⟩,⟨#[115,101,99,116,105,111,110]⟩,⟨#[112,97,114,97,103,114,97,112,104]⟩,⟨#[116,97,98,108,101]⟩,⟨#[114,111,119]⟩,⟨#[99,101,108,108]⟩,⟨#[110,111,116,101]⟩]
def A2j:ByteArray:=⟨#[98,111,111,107]⟩
def A3L(s:A0u):List ByteArray:=if A2c s then[A2j]else[A1a.getD s.k.toNat ⟨#[]⟩,s.lab]
def A7t(p:List A0u):List ByteArray:=p.flatMap A3L
def hT:A2I:=⟨λ_=>true,λ_=>false,λd=>d==27||d==39||d==21⟩
@[simp] def E1O:hT.own=λ_=>false:=rfl
@[simp] def E1P:hT.vec=λd=>d==27||d==39||d==21:=rfl
def A6A(s:A0u):Bool:=A2c s||A1b s
def C3h{s}(h:A0K s=true):¬s=⟨#[]⟩:=by rintro rfl;revert h;decide+kernel
def A4P{M M1 M' X}{l news}{out v'}(h:A2Z M l out M1)(h1:A4H 9 M' v' (l.map S++news.map S))(h2:A0c (obj out) (M1++X) M')(h3:obj v'=obj out\/A1n (M1++X).length v'):A2Z M (l++news) v' M':=by
 refine⟨by simpa using h1,⟨?_,λi hi _=>?_⟩,?_⟩
 .have a:=h.2.1.1;have b:=h2.1;simp at b;omega
 .have hl:=h.2.1.1;rw[h2.2 i (by simp;omega) λe=>by have:=h.2.2 i e;omega,Z0j (by omega)];exact h.2.1.2 i hi (by simp)
 .intro f hf;rcases h3 with e|e
  .exact h.2.2 f (by rw[<-e];exact hf)
  .have a:=h.2.1.1;have b:=e f hf;simp at b;omega
def B0n{p:List A0u}{i:Nat}(h:i<p.length):A7t (p.take (i+1))=A7t (p.take i)++A3L p[i]:=by rw[Z0A h,A7t,A7t,Z1y];simp
def B9V(s:A0u):(A3L s).length<=2:=by unfold A3L;split<;>simp
def B5A(p:List A0u):(A7t p).length<=2*p.length:=by
 induction p with
 |nil=>simp[A7t]
 |cons a p ih=>have:=B9V a;simp only[A7t,Z1v,Z0z,Z0B]at*;omega
section
variable (gl:Nat->AV) (M:Mem)
def C2K(p:List A0u)(o:Own)(a:p.length<=1000000):A0e (WC gl) 116 [C8A p o] M (λv M'=>v=B (A7L p)/\Grow M M'):=by
 refine A0k hB func116 ?_;by_cases c:p.length<=9
 .have i1:¬(p.length:Int)>9:=by omega
  have i2:¬(9:Int)<p.length:=by omega
  simp -dsimp -implicitDefEqProofs[i1,i2];refine A0j func166 (B4O gl M p o a) ?_;rintro r M2 ⟨rfl,b⟩;simp -dsimp -implicitDefEqProofs[A7L,c,b]
 .have i2:(9:Int)<p.length:=by omega
  simp -dsimp -implicitDefEqProofs[i2,A7L,c,Grow.refl]
def C9V:A0e (WC gl) 219 [] M (λv M'=>v=.list 1 (A0F A1a) .full/\M'=M):=by refine A0k hB func219 ?_;simp -dsimp -implicitDefEqProofs[A0h,A0J,A0F,A1a]
def D4e(p:List A0u)(o:Own)(a0:p.length<=1000000)(g:p.all A6A=true):A0e (WC gl) 168 [.list 2 (A1f p) o] M (A2Z M (A7t p)):=by
 refine A0k hT func168 ?_;simp -dsimp -implicitDefEqProofs;refine A0s hT p.length 8 (λT M1=>∃i:Nat,i<=p.length/\A2Z M (A7t (p.take i)) (T 3) M1/\T 6=.list 2 (A1f p) o/\T 7=I p.length/\T 8=I i) ?_ ?_
 .refine⟨0,?_⟩;simp -dsimp -implicitDefEqProofs[A2Z,A4H,A0c.refl,A1n,A7t]
 .rintro T M1 ⟨i,h1,h2,h3,h4,h5⟩;generalize c:T 3=t at h2;by_cases hi:i<p.length
  ·(have f:(i:Int)<p.length:=by omega);have hw:IntKind.i64.wrap ((i:Int)+1)=(i+1:Nat):=by rw[A0H (by omega) (by omega)];omega
   (have d:(M1++[A0p.cells 159 [I p[i].k,S p[i].lab]])[M1.length]?=some (.cells 159 [I p[i].k,S p[i].lab]):=by simp);have hg:=Z0r.1 g p[i] (Z0v hi)
   have l:A4H 9 (M1++[A0p.cells 159 [I p[i].k,S p[i].lab]]) t ((A7t (p.take i)).map S):=h2.1.keep (.app none _ _) (by simp);have y:=B5A (p.take i);(have u:(p.take i).length<=p.length:=by simp;omega);simp -dsimp -implicitDefEqProofs[h3,h4,h5,hi,f,A0o,A0l,A0d,A0a d];refine A0j func214 (C8q gl _ p[i]) ?_;rintro r M2 ⟨rfl,rfl⟩;cases hb:A2c p[i]
   ·(have hn:A1b p[i]=true:=by simpa[A6A,hb]using hg);simp only[A1b,Z0f,Z0o]at hn
    obtain⟨⟨n1,n2⟩,n3⟩:=hn;have hl:=C3h n3;(have s:0<=p[i].k:=by omega);(have w:p[i].k<8:=by omega);(have j:p[i].k.toNat<8:=by omega);(have q:(A0F A1a)[p[i].k.toNat]?.getD []=[S (A1a.getD p[i].k.toNat ⟨#[]⟩)]:=by have:p[i].k.toNat<A1a.length:=j;simp[A0F,this]);have b:∀h:p[i].k.toNat<(A0F A1a).length,(A0F A1a)[p[i].k.toNat]'h=[S (A1a.getD p[i].k.toNat ⟨#[]⟩)]:=by intro h;have:p[i].k.toNat<A1a.length:=j;simp[A0F,this]
    (have a:A3L p[i]=[A1a.getD p[i].k.toNat ⟨#[]⟩,p[i].lab]:=by simp only[A3L,hb];rfl);have z:A1a.length=8:=rfl
    generalize A1a.getD p[i].k.toNat ⟨#[]⟩=kw at q b a;simp -dsimp -implicitDefEqProofs[hl,A0a d];refine A1h hT (A0w gl) (λk=>if k=3\/k=7 then 1 else if k=9 then 2 else 0) (λ_=>M1.length) (by rfl) (by kernel_rfl) ?_;simp -dsimp -implicitDefEqProofs;refine A1j func219 (λM=>(C9V gl M)) ?_;simp -dsimp -implicitDefEqProofs[A0a d,s,q,b,w,z,A0h,A0J,c];refine push (C:=WC gl) (e:=9) A4X A6S B0K l (news:=[kw,p[i].lab].map S) (m:=2) rfl rfl (by simp;omega) rfl ?_;intro v' M' q1 q2 q3 _;have hf:=A4P h2 q1 q2 q3;rw[<-a,<-B0n hi]at hf;simp -dsimp -implicitDefEqProofs[h3,h4,h5,hw];refine⟨⟨i+1,?_⟩,?_⟩
    .exact⟨by clear hw;omega,hf,by simp⟩
    .clear hw;omega
   ·(have a:A3L p[i]=[A2j]:=by simp[A3L,hb]);simp -dsimp -implicitDefEqProofs[A0h,A0J,c]
    refine push (C:=WC gl) (e:=9) A4X A6S B0K l (news:=[A2j].map S) (m:=1) rfl rfl (by simp;omega) rfl ?_;intro v' M' q1 q2 q3 _;have hf:=A4P h2 q1 q2 q3;rw[<-a,<-B0n hi]at hf;simp -dsimp -implicitDefEqProofs[h3,h4,h5,hw];refine⟨⟨i+1,?_⟩,?_⟩
    .exact⟨by clear hw;omega,hf,by simp⟩
    .clear hw;omega
  ·(have f:¬(i:Int)<p.length:=by omega);rw[Z0l (by omega)]at h2
   simp -dsimp -implicitDefEqProofs[h3,h4,h5,f,c,h2]
def D1v(p:List A0u)(o:Own)(b:p.length<=1000000)(a:p.all A6A=true):A0e (WC gl) 117 [C8A p o] M (A2Z M (A7t p)):=by refine A0k hB func117 ?_;simp -dsimp -implicitDefEqProofs;refine A0j func168 (D4e gl M p o b a) ?_;intro v M' h;simp -dsimp -implicitDefEqProofs[h]
def A1S(p:List A0u):List ByteArray:=if A7L p then A7t p else[]
def B5B{p}(h:A7L p=true):p.all A6A=true:=by
 simp only[A7L,A1U,Z0f]at h;have h2:=h.2.2;cases p with
 |nil=>rfl
 |cons s p'=>
  simp only[A6U]at h2;cases hb:A2c s
  .simp only[hb,Z0E,Z0Y,Z1k,Z0f]at h2;simp only[Z1k,Z0f,A6A,hb,h2.1,Z4B,Z2u,Z0X];exact Z0r.2 λx hx=>by have:=Z0r.1 h2.2 x hx;show(A2c x||A1b x)=true;rw[this,Z4B]
  .simp only[hb,Z0G]at h2;simp only[Z1k,Z0f,A6A,hb,Z1F,Z2u];exact Z0r.2 λx hx=>by have:=Z0r.1 h2 x hx;show(A2c x||A1b x)=true;rw[this,Z4B]
def B5p(p:List A0u):(A1S p).length<=18:=by
 unfold A1S;split
 .rename_i h;simp only[A7L,Z0f,Z0o]at h;have:=B5A p;omega
 .simp
def B3L{M M1 M'}{l}{v}(hg:Grow M M1)(h:A2Z M1 l v M'):A2Z M l v M':=⟨h.1,hg.trans h.2.1,λf hf=>Z0T hg.1 (h.2.2 f hf)⟩
def C6L(p:List A0u)(o:Own)(a:p.length<=1000000):A0e (WC gl) 60 [.list 2 (A1f p) o] M (A2Z M (A1S p)):=by
 refine A0k hB func60 ?_;have b:∀M:Mem,(M++[A0p.cells 110 [I 0,.list 2 (A1f p) o,S ⟨#[]⟩,I 0,I 0]])[M.length]?=some (.cells 110 [I 0,.list 2 (A1f p) o,S ⟨#[]⟩,I 0,I 0]):=by simp
 simp -dsimp -implicitDefEqProofs[A0Q,A1G,A2e,A0o,A0l,A0d,A0a (b _)];refine A0j func116 (C2K gl _ p o a) ?_;rintro r M' ⟨rfl,c⟩;have hg:Grow M M':=Grow.trans (.app none M _) c;have hc:=c.get (b M) (by simp);cases hb:A7L p
 .simp -dsimp -implicitDefEqProofs[A1S,hb];exact⟨.inl ⟨rfl,rfl⟩,hg,by simp[A1n]⟩
 .simp -dsimp -implicitDefEqProofs[A0a hc];refine A0j func117 (D1v gl M' p o a (B5B hb)) ?_;intro v M2 h;simp -dsimp -implicitDefEqProofs[A1S,hb];exact B3L hg h
end
def A3b:ByteArray:=⟨#[116,104,105,115]⟩
def A5F:ByteArray:=⟨#[116,104,101]⟩
def A7w:ByteArray:=⟨#[115,97,105,100]⟩
def A6B:ByteArray:=⟨#[102,111,114,109,101,114,108,121]⟩
def toW:ByteArray:=⟨#[116,111]⟩
def A2w:List ByteArray:=[⟨#[]⟩,⟨#[112,97,114,116,115]⟩,⟨#[115,101,99,116,105,111,110,115]⟩,⟨#[112,97,114,97,103,114,97,112,104,115]⟩,⟨#[116,97,98,108,101,115]⟩,⟨#[114,111,119,115]⟩,⟨#[]⟩,⟨#[110,111,116,101,115]⟩]
def A9Y:List ByteArray->ByteArray->Nat->Int
 |[],_,_=>-1
 |a::r,s,i=>if a=s then i else A9Y r s (i+1)
def A2s(l:List ByteArray)(s:ByteArray):Int:=if s=⟨#[]⟩then 0 else max (A9Y l s 0) 0
def kS:ByteArray->Int:=A2s A1a
def kP:ByteArray->Int:=A2s A2w
def A7s(s:ByteArray):ByteArray:=if s.size=0 then s else if A3q (A0T s (s.size-1))then s.extract 0 (s.size-1)else s
def A2A(s:ByteArray):Bool:=decide (s.size=0)||!A3q (A0T s (s.size-1))
def B3x{s}(h:A2A s=true):A7s s=s:=by
 unfold A2A at h;unfold A7s;by_cases c:s.size=0
 .rw[Z0d c]
 .simp only[c,Z4A,Z0X,Z1U]at h;rw[Z0e c,h];rfl
def D4P{s}(h:A2A s=false):A7s s≠s/\0<s.size/\A3q (A0T s (s.size-1))=true/\A7s s=s.extract 0 (s.size-1):=by
 unfold A2A at h;unfold A7s;by_cases c:s.size=0
 .simp[c]at h
 .simp only[c,Z4A,Z0X,Bool.not_eq_false']at h;rw[Z0e c,Z0d h];refine⟨λe=>?_,by omega,h,rfl⟩;have:=congrArg ByteArray.size e;simp at this;omega
def B5r{p:Int->Bool}{s}:∀n i,A1y p s n i<0->∀j,i<=j->j<i+n->p (A0T s j)=false
 |0,i,_,j,h1,h2=>by omega
 |n+1,i,h,j,h1,h2=>by
  unfold A1y at h;by_cases c:p (A0T s i)=true
  .rw[Z0d c]at h;omega
  .rw[Z0e c]at h;by_cases e:j=i
   .subst e;simpa using c
   .exact B5r n (i+1) h j (by omega) (by omega)
def C4S{p:Int->Bool}{s}:∀n i,0<=A1y p s n i->i<=A1y p s n i/\A1y p s n i<i+n/\∀j,i<=j->(j:Int)<A1y p s n i->p (A0T s j)=false
 |0,i,h=>by simp[A1y]at h
 |n+1,i,h=>by
  unfold A1y at h|-;by_cases c:p (A0T s i)=true
  .rw[Z0d c];exact⟨by omega,by omega,λj h1 h2=>by omega⟩
  .rw[Z0e c]at h|-;obtain⟨a,b,d⟩:=C4S n (i+1) h;refine⟨by omega,by omega,λj h1 h2=>?_⟩;by_cases e:j=i
   .subst e;simpa using c
   .exact d j (by omega) h2
def C0g{s}:A1X s<=s.size/\∀j,j<A1X s->A0U 48 57 (A0T s j)=false:=by
 unfold A1X;by_cases c:A1y (A0U 48 57) s s.size 0<0
 .simp only[c,Z0G];exact⟨Z0u _,λj h=>B5r _ _ c j (by omega) (by omega)⟩
 .simp only[c,Z0Y];obtain⟨a,b,d⟩:=C4S (p:=A0U 48 57) (s:=s) s.size 0 (by omega);exact⟨by omega,λj h=>d j (by omega) (by omega)⟩
def A8R{s}(h:A0K s=true):A2A s=true/\0<s.size:=by
 unfold A0K at h;simp only[Z0f,Z0o]at h;obtain⟨⟨⟨⟨h1,h2⟩,h3⟩,h4⟩,h5⟩:=h;obtain⟨d1,d2⟩:=C0g (s:=s);have hs:0<s.size:=by omega
 refine⟨?_,hs⟩;unfold A2A;have key:A3q (A0T s (s.size-1))=false:=by
  by_cases c:s.size-1<A1X s
  .have:=d2 _ c;simp only[A0U,Z2b,Z1n]at this;simp only[A3q,Z2b,Z1n];omega
  .have:=B5r _ _ h5 (s.size-1) (by omega) (by omega);simp only[A0U,Z2b,Z1n]at this;simp only[A3q,Z2b,Z1n];omega
 rw[key];simp
def B0J{s}(h:0<kS s):s∈A1a.drop 1:=by
 unfold kS A2s at h;by_cases c:s=⟨#[]⟩
 .rw[Z0d c]at h;omega
 .rw[Z0e c]at h;simp only[A1a,Z1T,Z1q,Z0F,Z1W,Z3l];simp only[A1a,A9Y]at h;refine Z2F λhn=>?_;simp only[Z2H]at hn;obtain⟨a1,a2,a3,a4,a5,a6,a7⟩:=hn;rw[Z0e (Z2k c),Z0e (Z2k a1),Z0e (Z2k a2),Z0e (Z2k a3),Z0e (Z2k a4),Z0e (Z2k a5),Z0e (Z2k a6),Z0e (Z2k a7)]at h;omega
def A8W{s}(h:0<kP s):s∈A2w.drop 1/\s≠⟨#[]⟩:=by
 unfold kP A2s at h;by_cases c:s=⟨#[]⟩
 .rw[Z0d c]at h;omega
 .rw[Z0e c]at h;refine⟨?_,c⟩;simp only[A2w,Z1T,Z1q,Z0F,Z1W,Z3l];simp only[A2w,A9Y]at h;refine Z2F λhn=>?_;simp only[Z2H]at hn;obtain⟨a1,a2,a3,a4,a5,a6,a7⟩:=hn;rw[Z0e (Z2k c),Z0e (Z2k a1),Z0e (Z2k a2),Z0e (Z2k a3),Z0e (Z2k a4),Z0e (Z2k a5),Z0e (Z2k a6),Z0e (Z2k a7)]at h;omega
def A8r:∀s∈A1a.drop 1,A2A s=true/\kP s=0/\1<=kS s/\kS s<=7/\s≠A3b/\s≠A5F/\s≠A6B/\s≠A2j:=by decide+kernel
def B4S:∀s∈A2w.drop 1,s≠⟨#[]⟩->A2A s=true/\kS s=0/\1<=kP s/\kP s<=7/\kP s≠6/\s≠A3b/\s≠A5F/\s≠A6B/\s≠A2j:=by decide+kernel
def A2X:A2A A3b=true/\A2A A5F=true/\A2A A7w=true/\A2A A6B=true/\A2A toW=true/\A2A A2j=true/\A3b≠A2j/\A5F≠A2j/\A6B≠A2j/\A5F≠A3b/\A6B≠A3b/\A6B≠A5F:=by decide+kernel
def C8c:¬0<kS A3b/\¬0<kS A5F/\¬0<kS A6B/\¬0<kS A2j/\¬0<kP A3b/\¬0<kP A5F/\¬0<kP A6B/\¬0<kP A2j:=by decide+kernel
def A3N:A0u:=⟨0,⟨#[]⟩⟩
def prs:Nat->List ByteArray->List A0u
 |n+1,a::b::r=>if 0<kS a/\A0K b=true then⟨kS a,b⟩::prs n r else[]
 |_,_=>[]
def A2C:List ByteArray->List A0u×List ByteArray
 |a::b::r=>if 0<kS a then(⟨kS a,b⟩::(A2C r).1,(A2C r).2)else([],a::b::r)
 |r=>([],r)
def bkN(w:List ByteArray):Nat:=match w with
 |[]=>0
 |a::_=>if a=A2j then 1 else 0
def bkS(w:List ByteArray):List A0u:=if bkN w=1 then[A3N]else[]
def A2Q(w:List ByteArray):List A0u:=bkS w++prs (9-bkN w) (w.drop (bkN w))
def A0Y(w:List ByteArray):Nat:=bkN w+2*(prs (9-bkN w) (w.drop (bkN w))).length
def A2x(w:List ByteArray):Option (List A0u×Nat):=match w with
 |[]=>none
 |a::r=>if 0<kS a then some (⟨kS a,⟨#[]⟩⟩::prs 8 r,1+2*(prs 8 r).length)else none
def A3T(w:List ByteArray):Option (A0u×ByteArray):=match w with
 |a::b::c::d::_=>if 0<kP a/\A0K b=true/\c=toW/\A0K d=true then some (⟨kP a,b⟩,d)else none
 |_=>none
abbrev Cq:=Int×List A0u×ByteArray
def A2J(k:Int)(w:List ByteArray):Option (Cq×Nat):=if A0Y w=bkN w then none else some ((k,A2Q w,⟨#[]⟩),A0Y w)
def A8P(w:List ByteArray):Option (Cq×Nat):=match w with
 |[]=>none
 |a::r=>
  if a=A3b then(A2x r).map λx=>((2,x.1,⟨#[]⟩),x.2+1)
  else if a=A5F then match r with
   |[]=>none
   |b::r2=>if b=A7w then(A2x r2).map λx=>((3,x.1,⟨#[]⟩),x.2+2)else none
  else if a=A6B then(A2J 4 r).map λx=>(x.1,x.2+1)
  else match A3T ((a::r).drop (A0Y (a::r)))with
   |some (s,d)=>if(A2Q (a::r)).length<=8 then some ((1,A2Q (a::r)++[s],d),A0Y (a::r)+4)else A2J 0 (a::r)
   |none=>A2J 0 (a::r)
def A5x(p:List A0u):Bool:=match p with
 |[]=>false
 |s::p'=>decide (s.lab=⟨#[]⟩)&&decide (1<=s.k)&&decide (s.k<=7)&&p'.all A1b
def B4I(p:List A0u):Int:=match p.getLast? with
 |none=>0
 |some s=>s.k
def A2D(k:Int)(p:List A0u)(to:ByteArray):Bool:=decide (p.length<=9)&&(if k=0\/k=4 then decide (to=⟨#[]⟩)&&A1U p else if k=1 then A0K to&&A1U p&&decide (B4I p≠6)else if k=2\/k=3 then decide (to=⟨#[]⟩)&&A5x p else false)
def A1t(w:List ByteArray):Int×List A0u×List ByteArray:=match w with
 |a::b::c::r=>if a=A3b/\0<kS b then(2,[⟨kS b,⟨#[]⟩⟩],c::r)else if a=A5F/\b=A7w/\0<kS c then(3,[⟨kS c,⟨#[]⟩⟩],r)else if a=A6B then(4,[],b::c::r)else(0,[],a::b::c::r)
 |[a,b]=>if a=A3b/\0<kS b then(2,[⟨kS b,⟨#[]⟩⟩],[])else if a=A6B then(4,[],[b])else(0,[],[a,b])
 |[a]=>if a=A6B then(4,[],[])else(0,[],[a])
 |[]=>(0,[],[])
def A3s(k:Int)(w:List ByteArray):List A0u×List ByteArray:=if k=2\/k=3 then([],w)else(bkS w,w.drop (bkN w))
def A2m(k:Int)(p:List A0u)(r:List ByteArray):Cq×List ByteArray:=match r with
 |[a,b,c,d]=>if k=0/\0<kP a/\c=toW then((1,p++[⟨kP a,b⟩],d),[])else((k,p,⟨#[]⟩),r)
 |_=>((k,p,⟨#[]⟩),r)
def A7X(x:Cq×List ByteArray):Option Cq:=if x.2=[]/\A2D x.1.1 x.1.2.1 x.1.2.2=true then some x.1 else none
def A1F(k:Int)(p:List A0u)(w:List ByteArray):Option Cq:=A7X (A2m k (p++(A3s k w).1++(A2C (A3s k w).2).1) (A2C (A3s k w).2).2)
def A1x(w:List ByteArray):Option Cq:=A1F (A1t w).1 (A1t w).2.1 (A1t w).2.2
def A3J:∀n w,(prs n w).all A1b=true/\(prs n w).length<=n/\2*(prs n w).length<=w.length
 |0,w=>by cases w<;>simp[prs]
 |n+1,[]=>by simp[prs]
 |n+1,[a]=>by simp[prs]
 |n+1,a::b::r=>by
  unfold prs;split
  .rename_i h;obtain⟨h1,h2,h3⟩:=A3J n r;obtain⟨f1,f2,f3,f4,-⟩:=A8r a (B0J h.1);refine⟨?_,by simp;omega,by simp;omega⟩;rw[Z1k,h1,Z2p];simp[A1b,f3,f4,h.2]
  .simp
def B3X:∀n w,A2C (w.take (2*(prs n w).length))=(prs n w,[])
 |0,w=>by cases w<;>simp[prs,A2C]
 |n+1,[]=>by simp[prs,A2C]
 |n+1,[a]=>by simp[prs,A2C]
 |n+1,a::b::r=>by
  unfold prs;split
  .rename_i h;have:=B3X n r;rw[Z0B,show 2*((prs n r).length+1)=2*(prs n r).length+2 from by omega,Z0D,Z0D];unfold A2C;rw[Z0d h.1,this]
  .simp[A2C]
def C3e:∀w,w.length=2*(A2C w).1.length+(A2C w).2.length
 |[]=>by simp[A2C]
 |[a]=>by simp[A2C]
 |a::b::r=>by
  unfold A2C;split
  .have:=C3e r;simp;omega
  .simp
def C0o{a b:ByteArray}{r:List ByteArray}{i:Nat}(h:2<=i):(a::b::r).take i=a::b::r.take (i-2):=by obtain⟨j,rfl⟩:∃j,i=j+2:=⟨i-2,by omega⟩;simp
def B9h:∀n w i,i<=w.length->(A2C (w.take i)).2=[]->(A2C (w.take i)).1.all A1b=true->(A2C (w.take i)).1.length<=n->i<=2*(prs n w).length
 |n,w,0,_,_,_,_=>by omega
 |n,[],i+1,h,_,_,_=>by simp at h
 |n,w,1,h,hr,_,_=>by
  cases w with
  |nil=>simp at h
  |cons a r=>simp[A2C]at hr
 |n,[a],i+2,h,_,_,_=>by simp at h
 |n,a::b::r,i+2,h,hr,ha,hl=>by
  rw[C0o (by omega)]at hr ha hl;simp only[Z2O]at hr ha hl;unfold A2C at hr ha hl;by_cases c:0<kS a
  .rw[Z0d c]at hr ha hl;simp only[Z1k,Z0f,Z0B]at ha hl hr;cases n with
   |zero=>omega
   |succ n=>
    (have hb:A0K b=true:=by have:=ha.1;simp only[A1b,Z0f]at this;exact this.2);unfold prs
    rw[Z0d ⟨c,hb⟩];have:=B9h n r i (by simp at h;omega) hr ha.2 (by omega);simp;omega
  .rw[Z0e c]at hr;simp at hr
def B7B:∀n w i (a b c d:ByteArray),i<=w.length->(A2C (w.take i)).2=[a,b,c,d]->0<kP a->(A2C (w.take i)).1.all A1b=true->(A2C (w.take i)).1.length<=n->
 (A2C (w.take i)).1=prs (n+1) w/\i=2*(prs (n+1) w).length+4/\∃r,w.drop (2*(prs (n+1) w).length)=a::b::c::d::r
 |n,w,0,a,b,c,d,_,hr,_,_,_=>by simp[A2C]at hr
 |n,[],i+1,a,b,c,d,h,_,_,_,_=>by simp at h
 |n,w,1,a,b,c,d,h,hr,_,_,_=>by
  cases w with
  |nil=>simp at h
  |cons a r=>simp[A2C]at hr
 |n,[x],i+2,a,b,c,d,h,_,_,_,_=>by simp at h
 |n,x::y::r,i+2,a,b,c,d,h,hr,hp,ha,hl=>by
  rw[C0o (by omega)]at hr ha hl|-;simp only[Z2O]at hr ha hl|-;unfold A2C at hr ha hl|-;by_cases e:0<kS x
  .rw[Z0d e]at hr ha hl|-;simp only[Z1k,Z0f,Z0B]at ha hl hr;cases n with
   |zero=>omega
   |succ n=>
    (have hb:A0K y=true:=by have:=ha.1;simp only[A1b,Z0f]at this;exact this.2);obtain⟨h1,h2,t,h3⟩:=B7B n r i a b c d (by simp at h;omega) hr hp ha.2 (by omega)
    (have he:prs (n+1+1) (x::y::r)=⟨kS x,y⟩::prs (n+1) r:=by rw[prs];rw[Z0d ⟨e,hb⟩]);rw[he]
    refine⟨by rw[h1],by simp;omega,t,?_⟩;rw[Z0B,show 2*((prs (n+1) r).length+1)=2*(prs (n+1) r).length+2 from by omega,Z1T,Z1T,h3]
  .rw[Z0e e]at hr ha hl|-;simp only[Z1g]at hr;obtain⟨rfl,rfl,hr⟩:=hr;(have he:prs (n+1) (x::y::r)=[]:=by rw[prs];rw[Z0e λhh=>e hh.1]);rw[he];have f:=congrArg List.length hr;simp at f h;refine⟨rfl,by simp;omega,r.drop 2,?_⟩;(have:i=2:=by omega);subst this;have h4:r=r.take 2++r.drop 2:=(Z1o 2 r).symm;simp only[Z1t,Nat.mul_zero,Z1q]
   conv=>lhs;rw[h4,hr]
   rfl
def C7w:∀n w (a b c d:ByteArray) r,w.drop (2*(prs n w).length)=a::b::c::d::r->0<kP a->A2C (w.take (2*(prs n w).length+4))=(prs n w,[a,b,c,d]):=by
 have base:∀(w:List ByteArray) (a b c d:ByteArray) r,w=a::b::c::d::r->0<kP a->A2C (w.take 4)=([],[a,b,c,d]):=by rintro w a b c d r rfl hp;have:=(B4S a (A8W hp).1 (A8W hp).2).2.1;simp only[Z0D,Z2v];unfold A2C;rw[Z0e (by omega)]
 intro n;induction n with
 |zero=>
  intro w a b c d r h hp;have e:prs 0 w=[]:=by cases w<;>simp[prs]
  rw[e]at h|-;exact base w a b c d r h hp
 |succ n ih=>
  intro w a b c d r h hp
  match w,h with
  |[],h=>simp[prs]at h
  |[x],h=>simp[prs]at h
  |x::y::w',h=>
   by_cases e:0<kS x/\A0K y=true
   ·(have he:prs (n+1) (x::y::w')=⟨kS x,y⟩::prs n w':=by rw[prs];rw[Z0d e]);rw[he,Z0B,show 2*((prs n w').length+1)=2*(prs n w').length+2 from by omega]at h|-
    rw[Z1T,Z1T]at h;rw[show 2*(prs n w').length+2+4=(2*(prs n w').length+4)+2 from by omega,Z0D,Z0D];unfold A2C;rw[Z0d e.1,ih w' a b c d r h hp]
   ·(have he:prs (n+1) (x::y::w')=[]:=by rw[prs];rw[Z0e e]);rw[he]at h|-
    exact base _ a b c d r h hp
def B1S:∀w,∀s∈(A2C w).1,0<s.k
 |[]=>by simp[A2C]
 |[a]=>by simp[A2C]
 |a::b::r=>by
  unfold A2C;split
  .rename_i h;intro s hs;simp only[Z0F]at hs;rcases hs with rfl|hs
   .exact h
   .exact B1S r s hs
  .simp
def B5W(w:List ByteArray):bkN w<=1:=by
 unfold bkN;split
 .omega
 .split<;>omega
def B0s(w:List ByteArray):(bkS w).length=bkN w:=by
 have:=B5W w;unfold bkS;split
 .simp;omega
 .simp;omega
def C3Z{w}{ps}(h:∀s∈ps,0<s.k):A1U (bkS w++ps)=(!ps.isEmpty&&ps.all A1b):=by
 have e:A6U (bkS w++ps)=ps:=by
  unfold bkS;split
  .rfl
  .cases ps with
   |nil=>rfl
   |cons s ps=>have:=h s (by simp);(have hb:A2c s=false:=by unfold A2c;rw[Z0k (by omega)];rfl);simp[A6U,hb]
 unfold A1U;rw[e];cases ps<;>simp
def B2r{k}(hk:k=0\/k=4){w}{ps}(h:∀s∈ps,0<s.k):A7X ((k,bkS w++ps,⟨#[]⟩),[])=if ps≠[]/\ps.all A1b=true/\bkN w+ps.length<=9 then some (k,bkS w++ps,⟨#[]⟩)else none:=by
 unfold A7X A2D
 simp only[Z0d hk,C3Z h,Z0z,B0s,Z4m,Z0s,Z0f,Z0o,Z2u]
 by_cases c:ps=[]
 .subst c;simp
 .have:ps.isEmpty=false:=by cases ps<;>simp_all
  simp only[this,Z1j,Z2u,c,not_false_iff,ne_eq];by_cases c2:ps.all A1b=true<;>by_cases c3:bkN w+ps.length<=9<;>simp[c2,c3]
def B5b{w}{ps}(h:∀s∈ps,0<s.k){a b d}(ha:0<kP a):A7X ((1,bkS w++ps++[⟨kP a,b⟩],d),[])=if ps.all A1b=true/\bkN w+ps.length<=8/\A0K b=true/\A0K d=true then some (1,bkS w++ps++[⟨kP a,b⟩],d)else none:=by
 obtain⟨-,-,f1,f2,f3,-⟩:=B4S a (A8W ha).1 (A8W ha).2
 have c:A1U (bkS w++(ps++[⟨kP a,b⟩]))=(!(ps++[(⟨kP a,b⟩:A0u)]).isEmpty&&(ps++[(⟨kP a,b⟩:A0u)]).all A1b):=C3Z λs hs=>by
  simp only[Z1b,Z0P]at hs;rcases hs with hs|rfl
  .exact h s hs
  .exact ha
 have e1:(ps++[(⟨kP a,b⟩:A0u)]).isEmpty=false:=by cases ps<;>rfl
 have e2:A1b ⟨kP a,b⟩=A0K b:=by simp[A1b,f1,f2]
 have e3:B4I (bkS w++ps++[(⟨kP a,b⟩:A0u)])=kP a:=by simp[B4I]
 unfold A7X A2D
 rw[e3]
 simp only[show¬((1:Int)=0\/(1:Int)=4)from by omega,Z0Y,Z0G,Z0O,c,e1,Z3H,Z1k,Z3j,Z2p,e2,Z0z,B0s,Z0B,Z1t,Z1j,Z0s,Z0p f3,Z0f,Z0o,Z2u,f3,ne_eq,not_false_iff,Z2e]
 by_cases c4:bkN w+ps.length<=8
 .have c5:bkN w+(ps.length+(0+1))<=9:=by omega
  by_cases c1:ps.all A1b=true<;>by_cases c2:A0K b=true<;>by_cases c3:A0K d=true<;>simp only[c1,c2,c3,c4,c5,Z3M,Z2e,Z2u,Z4g,and_false,Z0G,Z0Y,Z0E]
 .have c5:¬bkN w+(ps.length+(0+1))<=9:=by omega
  simp only[c4,c5,Z4g,and_false,Z0Y]
def C7P{w}{i}(h:1<=i):bkN (w.take i)=bkN w:=by obtain⟨j,rfl⟩:∃j,i=j+1:=⟨i-1,by omega⟩;cases w<;>simp[bkN]
def C1Q{k}(hk:k=0\/k=4)(w:List ByteArray){i}(h:1<=i):A1F k [] (w.take i)=A7X (A2m k (bkS w++(A2C ((w.drop (bkN w)).take (i-bkN w))).1) (A2C ((w.drop (bkN w)).take (i-bkN w))).2):=by
 have h2:¬(k=2\/k=3):=by omega
 unfold A1F A3s
 simp only[Z0e h2]
 have e:bkS (w.take i)=bkS w:=by unfold bkS;rw[C7P h]
 rw[C7P h,e,Z2h,Z2W]
def B1x{k}{p}{r}(h:¬∃a b c d,r=[a,b,c,d]/\k=0/\0<kP a/\c=toW):A2m k p r=((k,p,⟨#[]⟩),r):=by
 unfold A2m;split
 .rename_i a b c d;rw[Z0e λhh=>h ⟨a,b,c,d,rfl,hh⟩]
 .rfl
def C0N{k}(hk:k=0\/k=4)(w:List ByteArray){i}(h:1<=i)(hw:i<=w.length){x}(hx:A1F k [] (w.take i)=some x):(i<=A0Y w/\bkN w<A0Y w)\/(k=0/\∃s d,A3T (w.drop (A0Y w))=some (s,d)/\(A2Q w).length<=8/\i=A0Y w+4):=by
 have hb:=B5W w
 rw[C1Q hk w h]at hx
 have f:=B1S ((w.drop (bkN w)).take (i-bkN w))
 by_cases c:∃a b c d,(A2C ((w.drop (bkN w)).take (i-bkN w))).2=[a,b,c,d]/\k=0/\0<kP a/\c=toW
 .obtain⟨a,b,c,d,hr,rfl,hp,rfl⟩:=c;right;rw[hr]at hx;simp only[A2m,hp,Z3M,Z0G]at hx;rw[B5b f hp]at hx;split at hx
  .rename_i hc;obtain⟨c1,c2,c3,c4⟩:=hc;obtain⟨e1,e2,r,e3⟩:=B7B (8-bkN w) (w.drop (bkN w)) (i-bkN w) a b toW d (by simp;omega) hr hp c1 (by omega);rw[show 8-bkN w+1=9-bkN w from by omega]at e1 e2 e3;(have e4:w.drop (A0Y w)=a::b::toW::d::r:=by rw[<-e3,Z1X];rfl);refine⟨rfl,⟨kP a,b⟩,d,?_,?_,?_⟩
   .rw[e4];simp[A3T,hp,c3,c4]
   .unfold A2Q;rw[Z0z,B0s,<-e1];omega
   .unfold A0Y;omega
  .exact absurd hx (by simp)
 .left;rw[B1x c]at hx;by_cases cr:(A2C ((w.drop (bkN w)).take (i-bkN w))).2=[]
  .rw[cr,B2r hk f]at hx;split at hx
   .rename_i hc;obtain⟨c1,c2,c3⟩:=hc;have:=B9h (9-bkN w) (w.drop (bkN w)) (i-bkN w) (by simp;omega) cr c2 (by omega);have e:=C3e ((w.drop (bkN w)).take (i-bkN w));rw[cr]at e;have:0<(A2C ((w.drop (bkN w)).take (i-bkN w))).1.length:=Z2i.2 c1;(have g:((w.drop (bkN w)).take (i-bkN w)).length=i-bkN w:=by simp;omega);unfold A0Y;simp only[Z1t]at e;omega
   .exact absurd hx (by simp)
  .simp only[A7X,cr,Z4g,Z0Y]at hx;exact absurd hx (by simp)
def B9d(w:List ByteArray):A0Y w<=w.length/\A0Y w<=18:=by
 obtain⟨h1,h2,h3⟩:=A3J (9-bkN w) (w.drop (bkN w));have:=B5W w;have hb:bkN w<=w.length:=by cases w<;>simp[bkN];split<;>omega
 simp at h3;unfold A0Y;omega
def B7D{k}(hk:k=0\/k=4)(w:List ByteArray)(h:bkN w<A0Y w):A1F k [] (w.take (A0Y w))=some (k,A2Q w,⟨#[]⟩):=by
 obtain⟨h1,h2,h3⟩:=A3J (9-bkN w) (w.drop (bkN w));have hb:=B5W w;have hn:0<(prs (9-bkN w) (w.drop (bkN w))).length:=by unfold A0Y at h;omega
 rw[C1Q hk w (by omega),show A0Y w-bkN w=2*(prs (9-bkN w) (w.drop (bkN w))).length from by unfold A0Y;omega,B3X];rw[B1x (by rintro⟨a,b,c,d,e,-⟩;simp at e)];have f:=B1S ((w.drop (bkN w)).take (2*(prs (9-bkN w) (w.drop (bkN w))).length));rw[B3X]at f;rw[B2r hk f,Z0d ⟨Z2i.1 hn,h1,by show bkN w+(prs (9-bkN w) (w.drop (bkN w))).length<=9;omega⟩];rfl
def C6c(w:List ByteArray){s}{d}(h:A3T (w.drop (A0Y w))=some (s,d))(hl:(A2Q w).length<=8):A1F 0 [] (w.take (A0Y w+4))=some (1,A2Q w++[s],d)/\A0Y w+4<=w.length:=by
 obtain⟨h1,h2,h3⟩:=A3J (9-bkN w) (w.drop (bkN w))
 have hb:=B5W w
 unfold A3T at h
 split at h
 .rename_i a b c d' r hd;split at h
  .rename_i hc;obtain⟨c1,c2,rfl,c4⟩:=hc;simp only[Z0a,Z0b]at h;obtain⟨rfl,rfl⟩:=h;have f:=congrArg List.length hd;simp at f;refine⟨?_,by omega⟩;(have i:(w.drop (bkN w)).drop (2*(prs (9-bkN w) (w.drop (bkN w))).length)=a::b::toW::d'::r:=by rw[Z1X];exact hd);have hr:=C7w _ _ a b toW d' r i c1;rw[C1Q (.inl rfl) w (by omega),show A0Y w+4-bkN w=2*(prs (9-bkN w) (w.drop (bkN w))).length+4 from by unfold A0Y;omega];have e:=B1S ((w.drop (bkN w)).take (2*(prs (9-bkN w) (w.drop (bkN w))).length+4));rw[hr]at e|-;simp only[A2m,c1,Z3M,Z0G];(have g:bkN w+(prs (9-bkN w) (w.drop (bkN w))).length<=8:=by unfold A2Q at hl;rw[Z0z,B0s]at hl;exact hl);rw[B5b e c1,Z0d ⟨h1,g,c2,c4⟩];rfl
  .exact absurd h (by simp)
 .exact absurd h (by simp)
def C5O{k}(hk:k=2\/k=3){b}(hb:0<kS b)(ps:List A0u)(r:List ByteArray):A7X ((k,⟨kS b,⟨#[]⟩⟩::ps,⟨#[]⟩),r)=if r=[]/\ps.all A1b=true/\ps.length<=8 then some (k,⟨kS b,⟨#[]⟩⟩::ps,⟨#[]⟩)else none:=by
 obtain⟨-,-,f1,f2,-⟩:=A8r b (B0J hb)
 have h1:¬(k=0\/k=4):=by omega
 have h2:¬k=1:=by omega
 unfold A7X A2D A5x
 simp only[Z0e h1,Z0e h2,Z0d hk,f1,f2,Z4m,Z0s,Z2p,Z0f,Z0o,Z0B]
 by_cases c1:r=[]<;>by_cases c2:ps.all A1b=true<;>by_cases c3:ps.length<=8<;>simp[c1,c2,c3]
def C0m{k}(hk:k=2\/k=3){b}(hb:0<kS b)(v:List ByteArray):A1F k [⟨kS b,⟨#[]⟩⟩] v=if(A2C v).2=[]/\(A2C v).1.all A1b=true/\(A2C v).1.length<=8 then some (k,⟨kS b,⟨#[]⟩⟩::(A2C v).1,⟨#[]⟩)else none:=by
 unfold A1F A3s
 simp only[Z0d hk,Z1f,List.singleton_append]
 rw[B1x (by rintro⟨a,b,c,d,-,e,-⟩;omega),C5O hk hb]
def C1d{k}(hk:k=2\/k=3){b}(hb:0<kS b)(r:List ByteArray){i}(hi:i<=r.length){x}(hx:A1F k [⟨kS b,⟨#[]⟩⟩] (r.take i)=some x):i<=2*(prs 8 r).length:=by
 rw[C0m hk hb]at hx;split at hx
 .rename_i h;exact B9h 8 r i hi h.1 h.2.1 h.2.2
 .exact absurd hx (by simp)
def C7Z{k}(hk:k=2\/k=3){b}(hb:0<kS b)(r:List ByteArray):A1F k [⟨kS b,⟨#[]⟩⟩] (r.take (2*(prs 8 r).length))=some (k,⟨kS b,⟨#[]⟩⟩::prs 8 r,⟨#[]⟩):=by obtain⟨h1,h2,h3⟩:=A3J 8 r;rw[C0m hk hb,B3X];rw[Z0d ⟨rfl,h1,h2⟩]
def C0J{a}{x}(h1:¬0<kS a)(h2:¬0<kP a)(h3:a≠A2j):A1F 0 [] (a::x)=none:=by
 have hb:bkN (a::x)=0:=by simp[bkN,h3]
 have hq:A2C (a::x)=([],a::x):=by
  cases x with
  |nil=>rfl
  |cons b r=>unfold A2C;rw[Z0e h1]
 unfold A1F A3s;simp only[show¬((0:Int)=2\/(0:Int)=3)from by omega,Z0Y,hb,Z1q,hq];rw[B1x]
 .simp[A7X]
 .rintro⟨a',b,c,d,e,-,e2,-⟩;simp only[Z1g]at e;rw[<-e.1]at e2;exact h2 e2
def B4D{k}(hk:k=0\/k=4):A1F k [] []=none:=by
 have h2:¬(k=2\/k=3):=by omega
 have:=@B2r k hk [] [] (by simp);simp only[bkS,bkN]at this;unfold A1F A3s;simp only[Z0e h2,bkN,Z4w,A2C,bkS];simpa[A2m]using this
def D0a{b}{x}(hb:0<kS b):A1t (A3b::b::x)=(2,[⟨kS b,⟨#[]⟩⟩],x):=by cases x<;>simp[A1t,hb]
def C5W{b}{x}(hb:¬0<kS b):A1t (A3b::b::x)=(0,[],A3b::b::x):=by have h1:A3b≠A5F:=λe=>A2X.2.2.2.2.2.2.2.2.2.1 e.symm;have h2:A3b≠A6B:=λe=>A2X.2.2.2.2.2.2.2.2.2.2.1 e.symm;cases x<;>simp[A1t,hb,h1,h2]
def D0z{c}{x}(hc:0<kS c):A1t (A5F::A7w::c::x)=(3,[⟨kS c,⟨#[]⟩⟩],x):=by have h1:A5F≠A3b:=A2X.2.2.2.2.2.2.2.2.2.1;simp[A1t,hc,h1]
def D0q{x}(h:¬∃c y,x=A7w::c::y/\0<kS c):A1t (A5F::x)=(0,[],A5F::x):=by
 have h1:A5F≠A3b:=A2X.2.2.2.2.2.2.2.2.2.1;have h2:A5F≠A6B:=λe=>A2X.2.2.2.2.2.2.2.2.2.2.2 e.symm
 match x,h with
 |[],h=>simp[A1t,h2]
 |[b],h=>simp[A1t,h1,h2]
 |b::c::y,h=>have:¬(b=A7w/\0<kS c):=λhh=>h ⟨c,y,by rw[hh.1],hh.2⟩;simp[A1t,h1,h2];intro e1;exact Int.not_lt.1 λh=>this ⟨e1,h⟩
def D2B{x}:A1t (A6B::x)=(4,[],x):=by
 have h1:A6B≠A3b:=A2X.2.2.2.2.2.2.2.2.2.2.1;have h2:A6B≠A5F:=A2X.2.2.2.2.2.2.2.2.2.2.2
 match x with
 |[]=>simp[A1t]
 |[b]=>simp[A1t,h1]
 |b::c::y=>simp[A1t,h1,h2]
def C9k{a}{x}(h1:a≠A3b)(h2:a≠A5F)(h3:a≠A6B):A1t (a::x)=(0,[],a::x):=by
 match x with
 |[]=>simp[A1t,h3]
 |[b]=>simp[A1t,h1,h3]
 |b::c::y=>simp[A1t,h1,h2,h3]
def D3M(w:List ByteArray)(g:Option (Cq×Nat))(f:List ByteArray->Option Cq):Prop:=match g with
 |some (c,n)=>f (w.take n)=some c/\0<n/\n<=w.length/\n<=23/\∀i,n<i->i<=w.length->f (w.take i)=none
 |none=>∀i,i<=w.length->f (w.take i)=none
def A7R{α:Type}{o:Option α}(h:∀x,o≠some x):o=none:=by
 cases o with
 |none=>rfl
 |some x=>exact absurd rfl (h x)
def B3j(w:List ByteArray):∀i,i<=w.length->(∀s d,A3T (w.drop (A0Y w))=some (s,d)->(A2Q w).length<=8->i≠A0Y w+4)->(bkN w=A0Y w\/A0Y w<i)->A1F 0 [] (w.take i)=none:=by
 intro i hi hr hp;refine A7R λx hx=>?_;cases i with
 |zero=>rw[Z2v,B4D (.inl rfl)]at hx;exact absurd hx (by simp)
 |succ i=>
  rcases C0N (.inl rfl) w (by omega) hi hx with⟨h1,h2⟩|⟨-,s,d,h1,h2,h3⟩
  .omega
  .exact hr s d h1 h2 h3
def C3w(w:List ByteArray):∀i,i<=w.length->(bkN w=A0Y w\/A0Y w<i)->A1F 4 [] (w.take i)=none:=by
 intro i hi hp;refine A7R λx hx=>?_;cases i with
 |zero=>rw[Z2v,B4D (.inr rfl)]at hx;exact absurd hx (by simp)
 |succ i=>
  rcases C0N (.inr rfl) w (by omega) hi hx with⟨h1,h2⟩|⟨h0,-⟩
  .omega
  .omega
def B4C(w:List ByteArray):bkN w<=A0Y w:=by unfold A0Y;omega
def B9A(a:ByteArray)(r:List ByteArray):A8P (a::r)=(
 (if a=A3b then(A2x r).map λx=>((2,x.1,⟨#[]⟩),x.2+1)
 else if a=A5F then match r with
  |[]=>none
  |b::r2=>if b=A7w then(A2x r2).map λx=>((3,x.1,⟨#[]⟩),x.2+2)else none
 else if a=A6B then(A2J 4 r).map λx=>(x.1,x.2+1)
 else match A3T ((a::r).drop (A0Y (a::r)))with
  |some (s,d)=>if(A2Q (a::r)).length<=8 then some ((1,A2Q (a::r)++[s],d),A0Y (a::r)+4)else A2J 0 (a::r)
  |none=>A2J 0 (a::r)):Option (Cq×Nat)):=rfl
def B4h(w:List ByteArray):D3M w (A8P w) A1x:=by
 obtain⟨t1,t2,t3,t4,t5,t6,t7,t8⟩:=C8c;obtain⟨-,-,-,-,-,-,b1,b2,b3,-⟩:=A2X;cases w with
 |nil=>intro i hi;rw[List.take_nil];exact B4D (.inl rfl)
 |cons a r=>
  have z:A1x []=none:=B4D (.inl rfl);rw[B9A];by_cases c1:a=A3b
  .subst c1;rw[Z0d rfl];have f:∀x,A1F 0 [] (A3b::x)=none:=λx=>C0J t1 t5 b1;cases r with
   |nil=>
    intro i hi
    match i,hi with
    |0,_=>exact z
    |1,_=>exact f []
    |i+2,hi=>simp at hi
   |cons b r=>
    by_cases c2:0<kS b
    .simp only[A2x,Z0d c2,Z0M];(have hx:∀i,A1x ((A3b::b::r).take (i+2))=A1F 2 [⟨kS b,⟨#[]⟩⟩] (r.take i):=λi=>by rw[Z0D,Z0D];unfold A1x;rw[D0a c2]);obtain⟨h1,h2,h3⟩:=A3J 8 r;refine⟨?_,by omega,by simp;omega,by omega,λi h4 h5=>?_⟩
     .rw[show 1+2*(prs 8 r).length+1=2*(prs 8 r).length+2 from by omega,hx];exact C7Z (.inl rfl) c2 r
     .obtain⟨j,rfl⟩:∃j,i=j+2:=⟨i-2,by omega⟩;rw[hx];refine A7R λx he=>?_;have:=C1d (.inl rfl) c2 r (by simp at h5;omega) he;omega
    .simp only[A2x,Z0e c2,Option.map_none];intro i hi
     match i,hi with
     |0,_=>exact z
     |1,_=>exact f []
     |i+2,hi=>rw[Z0D,Z0D];unfold A1x;rw[C5W c2];exact f _
  .rw[Z0e c1];by_cases c2:a=A5F
   .subst c2;rw[Z0d rfl];have f:∀x,A1F 0 [] (A5F::x)=none:=λx=>C0J t2 t6 b2;(have no:∀x,(¬∃c y,x=A7w::c::y/\0<kS c)->A1x (A5F::x)=none:=λx h=>by unfold A1x;rw[D0q h];exact f x);cases r with
    |nil=>
     intro i hi
     match i,hi with
     |0,_=>exact z
     |i+1,_=>rw[Z0D];exact no _ (by rintro⟨c,y,e,-⟩;simp at e)
    |cons b r=>
     by_cases c3:b=A7w
     .subst c3;simp only[Z0G];cases r with
      |nil=>
       intro i hi
       match i,hi with
       |0,_=>exact z
       |i+1,_=>rw[Z0D];refine no _ ?_;rintro⟨c,y,e,-⟩;have:=congrArg List.length e;simp at this;omega
      |cons c r=>
       by_cases c4:0<kS c
       .simp only[A2x,Z0d c4,Z0M];(have hx:∀i,A1x ((A5F::A7w::c::r).take (i+3))=A1F 3 [⟨kS c,⟨#[]⟩⟩] (r.take i):=λi=>by rw[Z0D,Z0D,Z0D];unfold A1x;rw[D0z c4]);obtain⟨h1,h2,h3⟩:=A3J 8 r;refine⟨?_,by omega,by simp;omega,by omega,λi h4 h5=>?_⟩
        .rw[show 1+2*(prs 8 r).length+2=2*(prs 8 r).length+3 from by omega,hx];exact C7Z (.inr rfl) c4 r
        .obtain⟨j,rfl⟩:∃j,i=j+3:=⟨i-3,by omega⟩;rw[hx];refine A7R λx he=>?_;have:=C1d (.inr rfl) c4 r (by simp at h5;omega) he;omega
       .simp only[A2x,Z0e c4,Option.map_none];intro i hi
        match i,hi with
        |0,_=>exact z
        |i+1,_=>
         rw[Z0D];refine no _ ?_;rintro⟨c',y,e,e2⟩
         match i,e with
         |0,e=>simp at e
         |1,e=>simp at e
         |i+2,e=>rw[Z0D,Z0D]at e;simp only[Z1g]at e;rw[e.2.1]at c4;exact c4 e2
     .simp only[Z0e c3];intro i hi
      match i,hi with
      |0,_=>exact z
      |1,_=>exact no [] (by rintro⟨c,y,e,-⟩;simp at e)
      |i+2,_=>rw[Z0D,Z0D];refine no _ ?_;rintro⟨c,y,e,-⟩;simp only[Z1g]at e;exact c3 e.1
   .rw[Z0e c2];by_cases c3:a=A6B
    .subst c3;rw[Z0d rfl];(have hx:∀i,A1x ((A6B::r).take (i+1))=A1F 4 [] (r.take i):=λi=>by rw[Z0D];unfold A1x;rw[D2B]);obtain⟨h1,h2⟩:=B9d r;have hb:=B4C r;unfold A2J;by_cases c4:A0Y r=bkN r
     .rw[Z0d c4];intro i hi;cases i with
      |zero=>exact z
      |succ i=>rw[hx];exact C3w r i (by simpa using hi) (.inl c4.symm)
     .rw[Z0e c4];refine⟨?_,by simp,by simp;omega,by simp;omega,λi h4 h5=>?_⟩
      .rw[hx];exact B7D (.inr rfl) r (by omega)
      .simp at h4;obtain⟨j,rfl⟩:∃j,i=j+1:=⟨i-1,by omega⟩;rw[hx];exact C3w r j (by simpa using h5) (.inr (by omega))
    .rw[Z0e c3];(have hx:∀i,1<=i->A1x ((a::r).take i)=A1F 0 [] ((a::r).take i):=λi h=>by obtain⟨j,rfl⟩:∃j,i=j+1:=⟨i-1,by omega⟩;rw[Z0D];unfold A1x;rw[C9k c1 c2 c3]);have k:∀i,A1F 0 [] ((a::r).take i)=none->A1x ((a::r).take i)=none:=λi h=>by
      cases i with
      |zero=>exact z
      |succ i=>rw[hx _ (by omega)];exact h
     generalize a::r=w at*;obtain⟨h1,h2⟩:=B9d w;have hb:=B4C w;have g:(∀s d,A3T (w.drop (A0Y w))=some (s,d)->¬(A2Q w).length<=8)->D3M w (A2J 0 w) A1x:=by
      intro hr;unfold A2J;by_cases c4:A0Y w=bkN w
      .rw[Z0d c4];intro i hi;exact k i (B3j w i hi (λs d e e2=>absurd e2 (hr s d e)) (.inl c4.symm))
      .rw[Z0e c4];refine⟨?_,by omega,h1,by omega,λi h4 h5=>?_⟩
       .rw[hx _ (by omega)];exact B7D (.inl rfl) w (by omega)
       .exact k i (B3j w i h5 (λs d e e2=>absurd e2 (hr s d e)) (.inr h4))
     split
     .rename_i s d e;by_cases c5:(A2Q w).length<=8
      .rw[Z0d c5];obtain⟨g1,g2⟩:=C6c w e c5;refine⟨?_,by omega,g2,by omega,λi h4 h5=>?_⟩
       .rw[hx _ (by omega)];exact g1
       .exact k i (B3j w i h5 (λs d e e2=>by omega) (.inr (by omega)))
      .rw[Z0e c5];exact g λs' d' e'=>c5
     .rename_i e;exact g λs' d' e'=>absurd e' (by rw[e];simp)
def A5B:List ByteArray->List ByteArray
 |[]=>[]
 |s::r=>A7s s::(if A2A s then A5B r else[])
def A3r(w:List ByteArray):List ByteArray:=w.set (w.length-1) (A7s (w.getD (w.length-1) ⟨#[]⟩))
def B3m(w:List ByteArray):Option Cq:=match A1x w with
 |some c=>some c
 |none=>A1x (A3r w)
def A6N(L:List ByteArray):Nat->Option (Cq×Nat)
 |0=>none
 |n+1=>if 23<n+1 then A6N L n else match B3m (L.take (n+1))with
  |some c=>some (c,n+1)
  |none=>A6N L n
def B7Y:∀w,(A2C w).1.all A1b=true->∀s∈w,s∈(A2C w).2\/A2A s=true
 |[],_,s,hs=>by simp at hs
 |[a],_,s,hs=>.inl (by simpa[A2C]using hs)
 |a::b::r,h,s,hs=>by
  unfold A2C at h|-;by_cases c:0<kS a
  .rw[Z0d c]at h|-;simp only[Z1k,Z0f]at h;simp only[Z0F]at hs;rcases hs with rfl|rfl|hs
   .exact .inr (A8r _ (B0J c)).1
   .refine .inr (A8R ?_).1;have:=h.1;simp only[A1b,Z0f]at this;exact this.2
   .exact B7Y r h.2 s hs
  .rw[Z0e c];exact .inl hs
def D1E{x}{c}(h:A7X x=some c):x.2=[]/\A2D x.1.1 x.1.2.1 x.1.2.2=true:=by
 unfold A7X at h;split at h
 .rename_i hh;exact hh
 .exact absurd h (by simp)
def B2u{p}(h:A1U p=true):∀s∈p,A2c s=false->A1b s=true:=by
 simp only[A1U,Z0f]at h;intro s hs hb;cases p with
 |nil=>simp at hs
 |cons x p=>
  have h2:=h.2;unfold A6U at h2;by_cases c:A2c x=true
  .simp only[c,Z0G]at h2;simp only[Z0F]at hs;rcases hs with rfl|hs
   .rw[hb]at c;exact absurd c (by simp)
   .exact Z0r.1 h2 s hs
  .simp only[c,Z0Y]at h2;exact Z0r.1 h2 s hs
def D7E{k}{p}{to}(h:A2D k p to=true):∀s∈p,0<s.k->s.lab≠⟨#[]⟩->A1b s=true:=by
 intro s hs hk hl;simp only[A2D,Z0f]at h;have h2:=h.2;have hb:A2c s=false:=by unfold A2c;rw[Z0k (by omega)];rfl
 split at h2
 .simp only[Z0f]at h2;exact B2u h2.2 s hs hb
 .split at h2
  .simp only[Z0f]at h2;exact B2u h2.1.2 s hs hb
  .split at h2
   .simp only[Z0f]at h2;cases p with
    |nil=>simp at hs
    |cons x p=>
     simp only[A5x,Z0f,Z0o]at h2;simp only[Z0F]at hs;rcases hs with rfl|hs
     .exact absurd h2.2.1.1.1 hl
     .exact Z0r.1 h2.2.2 s hs
   .exact absurd h2 (by simp)
def C5F{k}{p q}{to}(h:A2D k (p++q) to=true)(hq:∀s∈q,0<s.k)(hp:k=2\/k=3->p≠[]):q.all A1b=true:=by
 refine Z0r.2 λs hs=>?_;have hb:A2c s=false:=by have:=hq s hs;unfold A2c;rw[Z0k (by omega)];rfl
 have a:s∈p++q:=by simp[hs]
 simp only[A2D,Z0f]at h;have h2:=h.2;split at h2
 .simp only[Z0f]at h2;exact B2u h2.2 s a hb
 .split at h2
  .simp only[Z0f]at h2;exact B2u h2.1.2 s a hb
  .split at h2
   .rename_i hk;simp only[Z0f]at h2;cases p with
    |nil=>exact absurd rfl (hp hk)
    |cons x p=>simp only[Z1R,A5x,Z0f,Z0o]at h2;exact Z0r.1 h2.2.2 s (by simp[hs])
   .exact absurd h2 (by simp)
def C6w{k}{p}{w}{c}(hp:k=2\/k=3->p≠[])(h:A1F k p w=some c):∀s∈w,A2A s=true:=by
 intro s hs;unfold A1F at h;obtain⟨h1,h2⟩:=D1E h;have f:s∈(A3s k w).2\/A2A s=true:=by
  unfold A3s;split
  .exact .inl hs
  .cases w with
   |nil=>simp at hs
   |cons a w=>
    simp only[bkN];split
    .rename_i e;simp only[Z0F]at hs;rcases hs with rfl|hs
     .right;rw[e];exact A2X.2.2.2.2.2.1
     .exact .inl (by simpa using hs)
    .exact .inl (by simpa using hs)
 rcases f with f|f
 .have l:=B1S (A3s k w).2;have i:=B7Y (A3s k w).2;have m:k=2\/k=3->p++(A3s k w).1≠[]:=by intro hk e;exact hp hk (List.append_eq_nil_iff.1 e).1
  generalize(A3s k w).2=v at*;generalize p++(A3s k w).1=p' at*;by_cases c:∃a b c d,(A2C v).2=[a,b,c,d]/\k=0/\0<kP a/\c=toW
  .obtain⟨a,b,c,d,hr,rfl,j,rfl⟩:=c;rw[hr]at h1 h2 i;simp only[A2m,j,Z3M,Z0G]at h1 h2;rw[Z0O]at h2;have g:=C5F h2 (λs hs=>by
    simp only[Z1b,Z0P]at hs;rcases hs with hs|rfl
    .exact l s hs
    .exact j) (by omega)
   simp only[Z3H,Z1k,Z3j,Z2p,Z0f]at g;rcases i g.1 s f with hm|hm
   .simp only[Z0F,Z1W,Z3l]at hm;rcases hm with rfl|rfl|rfl|rfl
    .exact(B4S _ (A8W j).1 (A8W j).2).1
    .have:=g.2;simp only[A1b,Z0f]at this;exact(A8R this.2).1
    .exact A2X.2.2.2.2.1
    .simp only[A2D,Z0f]at h2;have h3:=h2.2;simp only[show¬((1:Int)=0\/(1:Int)=4)from by omega,Z0Y,Z0G,Z0f]at h3;exact(A8R h3.1.1).1
   .exact hm
  .rw[B1x c]at h1 h2;simp only at h1 h2;rw[h1]at i;rcases i (C5F h2 l m) s f with hm|hm
   .simp at hm
   .exact hm
 .exact f
def B9K{w}{c}(h:A1x w=some c):∀s∈w,A2A s=true:=by
 obtain⟨w1,w2,w3,w4,w5,w6,-⟩:=A2X;unfold A1x at h;have key:((A1t w).1=2\/(A1t w).1=3->(A1t w).2.1≠[])/\∀s∈w,s∈(A1t w).2.2\/A2A s=true:=by
  unfold A1t;split
  .split
   .rename_i hh;refine⟨λ_=>by simp,λs hs=>?_⟩;simp only[Z0F]at hs|-;rcases hs with rfl|rfl|hs
    .right;rw[hh.1];exact w1
    .exact .inr (A8r _ (B0J hh.2)).1
    .exact .inl hs
   .split
    .rename_i hh;refine⟨λ_=>by simp,λs hs=>?_⟩;simp only[Z0F]at hs|-;rcases hs with rfl|rfl|rfl|hs
     .right;rw[hh.1];exact w2
     .right;rw[hh.2.1];exact w3
     .exact .inr (A8r _ (B0J hh.2.2)).1
     .exact .inl hs
    .split
     .rename_i hh;refine⟨λe=>by simp at e,λs hs=>?_⟩;rw[Z0F]at hs;rcases hs with rfl|hs
      .right;rw[hh];exact w4
      .exact .inl hs
     .exact⟨λe=>by simp at e,λs hs=>.inl hs⟩
  .split
   .rename_i hh;refine⟨λ_=>by simp,λs hs=>?_⟩;simp only[Z0F,Z1W,Z3l]at hs|-;rcases hs with rfl|rfl
    .right;rw[hh.1];exact w1
    .right;exact(A8r _ (B0J hh.2)).1
   .split
    .rename_i hh;refine⟨λe=>by simp at e,λs hs=>?_⟩;rw[Z0F]at hs;rcases hs with rfl|hs
     .right;rw[hh];exact w4
     .exact .inl hs
    .exact⟨λe=>by simp at e,λs hs=>.inl hs⟩
  .split
   .rename_i hh;refine⟨λe=>by simp at e,λs hs=>?_⟩;rw[Z0P]at hs;right;rw[hs,hh];exact w4
   .exact⟨λe=>by simp at e,λs hs=>.inl hs⟩
  .exact⟨λe=>by simp at e,λs hs=>.inl hs⟩
 intro s hs;rcases key.2 s hs with hm|hm
 .exact C6w key.1 h s hm
 .exact hm
def A9t:∀L,(A5B L).length<=L.length
 |[]=>by simp[A5B]
 |s::r=>by have:=A9t r;unfold A5B;split<;>simp;omega
def C0a{s}{x}(h:x≠[]):A3r (s::x)=s::A3r x:=by
 cases x with
 |nil=>exact absurd rfl h
 |cons a x=>simp[A3r]
def C1x:∀L n,1<=n->n<=(A5B L).length->(A5B L).take n=A3r (L.take n)
 |[],n,h1,h2=>by simp[A5B]at h2;omega
 |s::r,1,_,_=>by simp[A5B,A3r]
 |s::r,n+2,_,h2=>by
  unfold A5B at h2|-;by_cases c:A2A s=true
  .rw[Z0d c]at h2|-;simp only[Z0B]at h2;rw[Z0D,Z0D,C0a,B3x c,C1x r (n+1) (by omega) (by omega)];have:=A9t r;intro e;have:=congrArg List.length e;simp at this;rw[this]at h2;simp[A5B]at h2
  .rw[Z0e c]at h2;simp at h2
def C0S:∀L n,(A5B L).length<n->n<=L.length->∃s∈L.take (n-1),A2A s=false
 |[],n,h1,h2=>by simp at h2;omega
 |s::r,n,h1,h2=>by
  unfold A5B at h1;by_cases c:A2A s=true
  .rw[Z0d c]at h1;simp only[Z0B]at h1 h2;obtain⟨m,rfl⟩:∃m,n=m+2:=⟨n-2,by omega⟩;obtain⟨x,hx,hc⟩:=C0S r (m+1) (by omega) (by omega);refine⟨x,?_,hc⟩;simp only[Z2O]at hx;rw[show m+2-1=m+1 from by omega,Z0D];exact Z2l _ hx
  .rw[Z0e c]at h1;simp only[Z0B,Z1t]at h1;obtain⟨m,rfl⟩:∃m,n=m+2:=⟨n-2,by omega⟩;exact⟨s,by rw[show m+2-1=m+1 from by omega,Z0D];simp,by simpa using c⟩
def C3y(L:List ByteArray)(n:Nat)(h:n+1<=L.length):L.take (n+1)=L.take n++[L[n]'(by omega)]:=by rw[Z0A (by omega)]
def B2S(x:List ByteArray)(s:ByteArray):A3r (x++[s])=x++[A7s s]:=by simp[A3r,Z1d]
def C0O(L:List ByteArray)(n:Nat)(h:n+1<=L.length):B3m (L.take (n+1))=if n+1<=(A5B L).length then A1x ((A5B L).take (n+1))else none:=by
 have no:∀w,(∃s∈w,A2A s=false)->A1x w=none:=λw ⟨s,hs,hc⟩=>A7R λc e=>by rw[B9K e s hs]at hc;exact absurd hc (by simp)
 by_cases c:n+1<=(A5B L).length
 .rw[Z0d c,C1x L (n+1) (by omega) c];unfold B3m;rw[C3y L n h,B2S];by_cases hc:A2A (L[n]'(by omega))=true
  .rw[B3x hc];split
   .rename_i e;exact e.symm
   .rfl
  .rw[no (L.take n++[L[n]'(by omega)]) ⟨L[n]'(by omega),List.mem_append_right _ (Z0P.2 rfl),by simpa using hc⟩]
 .rw[Z0e c];obtain⟨s,hs,hc⟩:=C0S L (n+1) (by omega) h;simp only[Z2O]at hs;unfold B3m;rw[C3y L n h,B2S,no _ ⟨s,Z3B _ hs,hc⟩];exact no _ ⟨s,Z3B _ hs,hc⟩
def B3J(L:List ByteArray){c}{m}(hg:D3M (A5B L) (some (c,m)) A1x):∀n,m<=n->n<=L.length->A6N L n=some (c,m)
 |0,h,_=>by have:=hg.2.1;omega
 |n+1,h,hl=>by
  obtain⟨g1,g2,g3,g4,g5⟩:=hg;unfold A6N;by_cases c1:23<n+1
  .rw[Z0d c1];exact B3J L ⟨g1,g2,g3,g4,g5⟩ n (by omega) (by omega)
  .rw[Z0e c1,C0O L n hl];by_cases e:n+1=m
   .subst e;rw[Z0d g3,g1]
   .have:(if n+1<=(A5B L).length then A1x ((A5B L).take (n+1))else none)=none:=by
     split
     .rename_i hh;exact g5 _ (by omega) hh
     .rfl
    rw[this];exact B3J L ⟨g1,g2,g3,g4,g5⟩ n (by omega) (by omega)
def B9x(L:List ByteArray)(hg:D3M (A5B L) none A1x):∀n,n<=L.length->A6N L n=none
 |0,_=>rfl
 |n+1,hl=>by
  unfold A6N;have:(if n+1<=(A5B L).length then A1x ((A5B L).take (n+1))else none)=none:=by
   split
   .rename_i hh;exact hg _ hh
   .rfl
  rw[C0O L n hl,this];simp[B9x L hg n (by omega)]
def D1p(L:List ByteArray):A6N L L.length=A8P (A5B L):=by
 have h:=B4h (A5B L);have hl:=A9t L;cases hc:A8P (A5B L)with
 |none=>rw[hc]at h;exact B9x L h _ (Z0u _)
 |some x=>obtain⟨c,m⟩:=x;rw[hc]at h;exact B3J L h _ (by have:=h.2.2.1;omega) (Z0u _)
def A1W(i:Nat)(w:List ByteArray):Option (Cq×Nat):=match i with
 |0=>A2J 0 w
 |1=>match A3T (w.drop (A0Y w))with
  |some (s,d)=>if(A2Q w).length<=8 then some ((1,A2Q w++[s],d),A0Y w+4)else none
  |none=>none
 |2=>match w with
  |a::r=>if a=A3b then(A2x r).map λx=>((2,x.1,⟨#[]⟩),x.2+1)else none
  |[]=>none
 |3=>match w with
  |a::b::r=>if a=A5F/\b=A7w then(A2x r).map λx=>((3,x.1,⟨#[]⟩),x.2+2)else none
  |_=>none
 |_=>match w with
  |a::r=>if a=A6B then(A2J 4 r).map λx=>(x.1,x.2+1)else none
  |[]=>none
def B3d(o:Option (Cq×Nat)):Nat:=match o with
 |some (_,n)=>n
 |none=>0
def A5Y(a b:Option (Cq×Nat)):Option (Cq×Nat):=match b with
 |some (c,n)=>if B3d a<n then some (c,n)else a
 |none=>a
def A4E(w:List ByteArray):Nat->Option (Cq×Nat)
 |0=>none
 |i+1=>A5Y (A4E w i) (A1W i w)
def B3S{k}{a}{r}(h1:¬0<kS a)(h2:a≠A2j):A2J k (a::r)=none:=by
 have hb:bkN (a::r)=0:=by simp[bkN,h2]
 have hp:∀n,prs n (a::r)=[]:=λn=>by
  cases n with
  |zero=>simp[prs]
  |succ n=>
   cases r with
   |nil=>simp[prs]
   |cons b r=>rw[prs,Z0e λh=>h1 h.1]
 unfold A2J A0Y;rw[hb,Z1q,hp];simp
def B3R{a}{r}(h0:¬0<kS a)(h1:¬0<kP a)(h2:a≠A2j):A3T ((a::r).drop (A0Y (a::r)))=none:=by
 have hb:bkN (a::r)=0:=by simp[bkN,h2]
 have hp:∀n,prs n (a::r)=[]:=λn=>by
  cases n with
  |zero=>simp[prs]
  |succ n=>
   cases r with
   |nil=>simp[prs]
   |cons b r=>rw[prs,Z0e λh=>h0 h.1]
 unfold A0Y;rw[hb,Z1q,hp];simp only[Z1t,Nat.mul_zero,Z0V,Z1q];unfold A3T;split
 .rename_i e;simp only[Z1g]at e;rw[Z0e];rw[<-e.1]
  exactλh=>h1 h.1
 .rfl
def C6n(w:List ByteArray):A4E w 5=A8P w:=by
 obtain⟨t1,t2,t3,t4,t5,t6,t7,t8⟩:=C8c;obtain⟨-,-,-,-,-,-,b1,b2,b3,n1,n2,n3⟩:=A2X;have pos:∀x:Option (Cq×Nat),(∀c n,x=some (c,n)->0<n)->A5Y none x=x:=by
  intro x h;cases x with
  |none=>rfl
  |some y=>obtain⟨c,n⟩:=y;have:=h c n rfl;simp[A5Y,B3d,this]
 have keep:∀a,A5Y a none=a:=λa=>rfl;cases w with
 |nil=>simp only[A4E,A1W,A2J,A0Y,bkN,A3T,A8P,A5Y,Z4w,prs];simp[prs,A5Y,B3d]
 |cons a r=>
  rw[B9A];simp only[A4E];by_cases c1:a=A3b
  .subst c1;rw[Z0d rfl];have f0:A1W 0 (A3b::r)=none:=B3S t1 b1;(have f1:A1W 1 (A3b::r)=none:=by simp only[A1W,B3R t1 t5 b1]);(have f2:A1W 2 (A3b::r)=(A2x r).map λx=>((2,x.1,⟨#[]⟩),x.2+1):=by simp only[A1W,Z0G]);(have f3:A1W 3 (A3b::r)=none:=by cases r<;>simp[A1W,n1.symm]);(have f4:A1W 4 (A3b::r)=none:=by simp[A1W,n2.symm]);rw[f0,f1,f2,f3,f4,keep,keep,keep,keep,pos];intro c n e;cases hb:A2x r with
   |none=>rw[hb]at e;exact absurd e (by simp)
   |some y=>rw[hb]at e;simp at e;omega
  .rw[Z0e c1];(have f2:A1W 2 (a::r)=none:=by simp[A1W,c1]);by_cases c2:a=A5F
   .subst c2;rw[Z0d rfl];have f0:A1W 0 (A5F::r)=none:=B3S t2 b2;(have f1:A1W 1 (A5F::r)=none:=by simp only[A1W,B3R t2 t6 b2]);(have f4:A1W 4 (A5F::r)=none:=by simp[A1W,n3.symm]);rw[f0,f1,f2,f4,keep,keep,keep,keep];cases r with
    |nil=>rfl
    |cons b r=>
     by_cases c3:b=A7w
     .simp only[A1W,c3,Z3M,Z0G];rw[pos];intro c n e;cases hb:A2x r with
      |none=>rw[hb]at e;exact absurd e (by simp)
      |some y=>rw[hb]at e;simp at e;omega
     .simp only[A1W,c3,and_false,Z0Y];rfl
   .rw[Z0e c2];(have f3:A1W 3 (a::r)=none:=by cases r<;>simp[A1W,c2]);by_cases c3:a=A6B
    .subst c3;rw[Z0d rfl];have f0:A1W 0 (A6B::r)=none:=B3S t3 b3;(have f1:A1W 1 (A6B::r)=none:=by simp only[A1W,B3R t3 t7 b3]);(have f4:A1W 4 (A6B::r)=(A2J 4 r).map λx=>(x.1,x.2+1):=by simp[A1W]);rw[f0,f1,f2,f3,f4,keep,keep,keep,keep,pos];intro c n e;cases hb:A2J 4 r with
     |none=>rw[hb]at e;exact absurd e (by simp)
     |some y=>rw[hb]at e;simp at e;omega
    .rw[Z0e c3];(have f4:A1W 4 (a::r)=none:=by simp[A1W,c3]);rw[f2,f3,f4,keep,keep,keep];have f:A5Y none (A2J 0 (a::r))=A2J 0 (a::r):=by
      refine pos _ λc n e=>?_;have:=B4C (a::r);unfold A2J at e;split at e
      .exact absurd e (by simp)
      .simp only[Z0a,Z0b]at e;omega
     have f0:A1W 0 (a::r)=A2J 0 (a::r):=rfl;rw[f0,f];simp only[A1W];cases e:A3T ((a::r).drop (A0Y (a::r)))with
     |none=>rfl
     |some y=>
      obtain⟨s,d⟩:=y;simp only;by_cases c5:(A2Q (a::r)).length<=8
      .rw[Z0d c5];have:B3d (A2J 0 (a::r))<A0Y (a::r)+4:=by
        unfold A2J;split
        .simp[B3d]
        .simp[B3d]
       simp only[A5Y,this,Z0G,Z0d c5]
      .rw[Z0e c5,Z0e c5];rfl
def D4O{k}{p}{to}:A7X ((k,p,to),[])=if A2D k p to=true then some (k,p,to)else none:=by simp[A7X]
def B3C{k}{p}{to}{b:Prop}[Decidable b](h:A7X ((k,p,to),[])=if b then some (k,p,to)else none):A2D k p to=decide b:=by rw[D4O]at h;by_cases c:A2D k p to=true<;>by_cases e:b<;>simp_all
def C8b(n:Nat)(w:List ByteArray):∀s∈prs n w,0<s.k:=λs hs=>by have:=Z0r.1 (A3J n w).1 s hs;simp only[A1b,Z0f,Z0o]at this;omega
def C9z{k}(hk:k=0\/k=4)(w:List ByteArray):A2D k (A2Q w) ⟨#[]⟩=decide (A0Y w≠bkN w):=by
 have hb:=B5W w;obtain⟨h1,h2,h3⟩:=A3J (9-bkN w) (w.drop (bkN w));refine B3C ?_;rw[show A2Q w=bkS w++prs (9-bkN w) (w.drop (bkN w))from rfl,B2r hk (C8b _ _)];have e:(prs (9-bkN w) (w.drop (bkN w))≠[]/\(prs (9-bkN w) (w.drop (bkN w))).all A1b=true/\bkN w+(prs (9-bkN w) (w.drop (bkN w))).length<=9)<->A0Y w≠bkN w:=by
  unfold A0Y;constructor
  .rintro⟨a,-,-⟩;have:=Z2i.2 a;omega
  .intro a;exact⟨λe=>a (by rw[e];simp),h1,by omega⟩
 by_cases c:A0Y w≠bkN w
 .rw[Z0d (e.2 c),Z0d c]
 .rw[Z0e λh=>c (e.1 h),Z0e c]
def C8D{w}{s}{d}(h:A3T (w.drop (A0Y w))=some (s,d)):A2D 1 (A2Q w++[s]) d=decide ((A2Q w).length<=8):=by
 obtain⟨h1,h2,h3⟩:=A3J (9-bkN w) (w.drop (bkN w));unfold A3T at h;split at h
 .rename_i a b c d' r hd;split at h
  .rename_i hc;obtain⟨c1,c2,c3,c4⟩:=hc;simp only[Z0a,Z0b]at h;obtain⟨rfl,rfl⟩:=h;refine B3C ?_;have:=@B5b w _ (C8b (9-bkN w) (w.drop (bkN w))) a b d' c1;rw[show A2Q w=bkS w++prs (9-bkN w) (w.drop (bkN w))from rfl,this];(have e:((prs (9-bkN w) (w.drop (bkN w))).all A1b=true/\bkN w+(prs (9-bkN w) (w.drop (bkN w))).length<=8/\A0K b=true/\A0K d'=true)<->(bkS w++prs (9-bkN w) (w.drop (bkN w))).length<=8:=by rw[Z0z,B0s];exact⟨λh=>h.2.1,λh=>⟨h1,h,c2,c4⟩⟩);by_cases c:(bkS w++prs (9-bkN w) (w.drop (bkN w))).length<=8
   .rw[Z0d (e.2 c),Z0d c]
   .rw[Z0e λh=>c (e.1 h),Z0e c]
  .exact absurd h (by simp)
 .exact absurd h (by simp)
def C4Y:A0K ⟨#[]⟩=false:=by decide+kernel
def C1G{p}:A2D 1 p ⟨#[]⟩=false:=by simp[A2D,C4Y]
def C2P{k}{to}:A2D k [] to=false:=by have h1:A1U []=false:=rfl;have h2:A5x []=false:=rfl;simp[A2D,h1,h2]
def B4b{k}(hk:k=2\/k=3){r}{p}{n}(h:A2x r=some (p,n)):A2D k p ⟨#[]⟩=true:=by
 cases r with
 |nil=>simp[A2x]at h
 |cons a r=>
  unfold A2x at h;simp only at h;split at h
  .rename_i hc;simp only[Z0a,Z0b]at h;obtain⟨rfl,rfl⟩:=h;obtain⟨h1,h2,h3⟩:=A3J 8 r;have:=@B3C k (⟨kS a,⟨#[]⟩⟩::prs 8 r) ⟨#[]⟩ True _ (by rw[C5O hk hc,Z0d ⟨rfl,h1,h2⟩];simp);simpa using this
  .exact absurd h (by simp)
def A9K{w}{c}{n}(h:A8P w=some (c,n)):A2D c.1 c.2.1 c.2.2=true/\0<n/\n<=w.length/\n<=23:=by
 have hb:=B4h w;rw[h]at hb;obtain⟨h1,h2,h3,h4,-⟩:=hb;refine⟨?_,h2,h3,h4⟩;unfold A1x A1F at h1;unfold A7X at h1;split at h1
 .rename_i hh;simp only[Z0a]at h1;rw[<-h1];exact hh.2
 .exact absurd h1 (by simp)
def A1c(l:List ByteArray)(at_:Nat)(en:Bool):List ByteArray:=if en=true then[]else A5B (l.drop at_)
def C5I{l}{at_}{en}(h:en=true\/l.length<=at_):A1c l at_ en=[]:=by
 unfold A1c;rcases h with h|h
 .rw[Z0d h]
 .split
  .rfl
  .rw[Z0n h];rfl
def C8y{l}{at_}(h:at_<l.length):A1c l at_ false=A7s (l[at_])::A1c l (at_+1) (!A2A l[at_]):=by unfold A1c;simp only[Z0E,Z0Y];rw[Z0h h,A5B];cases c:A2A l[at_]<;>simp
def A6T(l:List ByteArray):Nat->Nat->List A0P
 |0,_=>[]
 |f+1,i=>if l.length<=i then[]else match A8P (A5B (l.drop i))with
  |some (c,n)=>⟨c.1,c.2.1,c.2.2,i,i+n⟩::A6T l f (i+n)
  |none=>A6T l f (i+1)
def B2c(l:List ByteArray):∀f g i,l.length<=f+i->l.length<=g+i->A6T l f i=A6T l g i
 |0,0,i,_,_=>rfl
 |0,g+1,i,h,_=>by rw[A6T,A6T,Z0d (by omega)]
 |f+1,0,i,_,h=>by rw[A6T,A6T,Z0d (by omega)]
 |f+1,g+1,i,h1,h2=>by
  rw[A6T,A6T];split
  .rfl
  .split
   .rename_i c n e;have:=(A9K e).2.1;rw[B2c l f g (i+n) (by omega) (by omega)]
   .rw[B2c l f g (i+1) (by omega) (by omega)]
def A2z(l:List ByteArray)(i:Nat):List A0P:=A6T l (l.length-i) i
def C3T{l}{i}(h:l.length<=i):A2z l i=[]:=by unfold A2z;rw[show l.length-i=0 from by omega];rfl
def C0k{l}{i n}{c}(h:i<l.length)(hc:A8P (A5B (l.drop i))=some (c,n)):A2z l i=⟨c.1,c.2.1,c.2.2,i,i+n⟩::A2z l (i+n):=by unfold A2z;obtain⟨f,hf⟩:∃f,l.length-i=f+1:=⟨l.length-i-1,by omega⟩;have:=(A9K hc).2.1;rw[hf,A6T,Z0e (by omega),hc];simp only;rw[B2c l f (l.length-(i+n)) (i+n) (by omega) (by omega)]
def C1r{l}{i}(h:i<l.length)(hc:A8P (A5B (l.drop i))=none):A2z l i=A2z l (i+1):=by unfold A2z;obtain⟨f,hf⟩:∃f,l.length-i=f+1:=⟨l.length-i-1,by omega⟩;rw[hf,A6T,Z0e (by omega),hc];simp only;rw[B2c l f (l.length-(i+1)) (i+1) (by omega) (by omega)]
def B4i(l:List ByteArray):∀f i,∀c∈A6T l f i,A2D c.k c.path c.to=true/\(i:Int)<=c.frm/\c.frm<c.at_/\c.at_<=l.length
 |0,i,c,hc=>by simp[A6T]at hc
 |f+1,i,c,hc=>by
  rw[A6T]at hc;split at hc
  .simp at hc
  .split at hc
   .rename_i x n e;obtain⟨h1,h2,h3,h4⟩:=A9K e;have ht:=A9t (l.drop i);simp at ht;simp only[Z0F]at hc;rcases hc with rfl|hc
    .exact⟨h1,Int.le_refl _,by simp;omega,by simp;omega⟩
    .obtain⟨a,b,d,e⟩:=B4i l f (i+n) c hc;exact⟨a,by omega,d,e⟩
   .obtain⟨a,b,d,e⟩:=B4i l f (i+1) c hc;exact⟨a,by omega,d,e⟩
def A7z(l:List ByteArray):∀f i,(A6T l f i).length<=l.length-i
 |0,i=>by simp[A6T]
 |f+1,i=>by
  rw[A6T];split
  .simp
  .split
   .rename_i x n e;have:=(A9K e).2.1;have:=A7z l f (i+n);simp;omega
   .have:=A7z l f (i+1);omega
def A2H(s:ByteArray):Bool:=decide (1<=s.size)&&decide (s.size<=24)&&decide (A1y (A0U 33 126) s s.size 0<0)
def A3l(ws:List A0G):Bool:=decide (ws.length<=256)&&ws.all λw=>A2H w.text
def B2U(s:ByteArray):List (List AV):=s.data.toList.map λb=>[.val (.int .u8 b.toNat)]
@[simp] def D8g(s:ByteArray):(B2U s).length=s.size:=by simp only[B2U,Z0L,Z1E];rfl
@[simp] def D7n{s}{i}(h:i<(B2U s).length):(B2U s)[i]=[.val (.int .u8 (A0T s i))]:=by
 have h':i<s.size:=by simpa using h
 rw[B9l s i h'];simp only[B2U,Z2w,Array.getElem_toList];rfl
def B3i(p:Int->Bool)(s:ByteArray){i}(h:i<s.size):A1y p s (s.size-i) i=if p (A0T s i)then(i:Int)else A1y p s (s.size-(i+1)) (i+1):=by
 have:s.size-i=(s.size-(i+1))+1:=by omega
 rw[this];rfl
def A6g{α:Type}(p:α->Bool):List α->Nat->Int
 |[],_=>-1
 |x::l,i=>if p x then(i:Int)else A6g p l (i+1)
def B4u{α:Type}(p:α->Bool):∀(l:List α) (i:Nat),decide (0<=A6g p l i)=l.any p
 |[],i=>by simp[A6g]
 |x::l,i=>by
  rw[A6g,Z1V];cases h:p x
  .rw[Z0e (by simp),Z0X];exact B4u p l (i+1)
  .rw[Z0d rfl,Z1F];exact Z0p (Int.natCast_nonneg i)
abbrev A4p(s:ByteArray):List AV:=[S s]
def A1z.at1{α:Type}{e}{enc:α->List AV}{M}{v}{l}{P}{t:TypeId}(h:A1z e 1 enc M v l){f:α->AV}(hf:∀x,enc x=[f x])(ha:A2v P t=some false)(hs:A1e P t=some 1){i}(hi:i<l.length):∃p,A5O (some (some 1)) v (I i)=some p/\A2u P t M p=some (f l[i]):=by
 have he:∀x,(enc x).length=1:=λx=>by rw[hf];rfl
 rcases h with⟨rfl,rfl⟩|⟨f',g,a,rfl,hm,hl⟩
 .simp at hi
 .refine⟨.vptr f' g (i*1),by simp[hi],?_⟩;simp only[A2u,A3g,hm,hl,Z2j,A0t,ha,hs];rw[Z0l (by rw[A5T he];exact Z0u _),A8d he,Z0h hi,Z1v,hf];rfl
section
variable (gl:Nat->AV) (M:Mem)
def D6u(c:Int):A0e (WC gl) 379 [.val (.int .u8 c)] M (λv M'=>v=B (A0U 33 126 c)/\M'=M):=by
 refine A0k hB func379 ?_;by_cases h1:c<33
 .simp -dsimp -implicitDefEqProofs[A0U,h1]
 .simp -dsimp -implicitDefEqProofs[A0U,h1]
def D3F(s:ByteArray)(hs:s.size<=maxLen):A0e (WC gl) 397 [.list 1 (B2U s) .no,.func (.func 379) [] []] M (λv M'=>v=I (A1y (A0U 33 126) s s.size 0)/\M'=M):=by
 refine A0k hB func397 ?_;have b:s.size<=9223372036854775807:=hs;simp -dsimp -implicitDefEqProofs;refine A0s hB s.size 8 (λT M1=>∃i:Nat,i<=s.size/\M1=M/\T 0=.list 1 (B2U s) .no/\T 1=.func (.func 379) [] []/\T 7=I s.size/\T 8=I i/\A1y (A0U 33 126) s s.size 0=A1y (A0U 33 126) s (s.size-i) i) ?_ ?_
 .exact⟨0,by omega,rfl,by simp,by simp,by simp,by simp,by simp⟩
 .rintro T M1 ⟨i,i1,rfl,t0,t1,t7,t8,ho⟩;by_cases hi:i<s.size
  ·(have a:(i:Int)<s.size:=by omega);have w1:IntKind.i64.wrap ((i:Int)+1)=(i+1:Nat):=by rw[A0H (by omega) (by omega)];omega
   rw[B3i _ _ hi]at ho;simp -dsimp -implicitDefEqProofs[t0,t1,t7,t8,hi,a];refine A0i func379 (D6u gl _ _) ?_;cases hp:A0U 33 126 (A0T s i)
   .rw[hp,Z0e (by simp)]at ho;simp -dsimp -implicitDefEqProofs[t0,t1,t7,t8,w1];exact⟨⟨i+1,by clear w1;omega,rfl,ho⟩,by clear w1;omega⟩
   .rw[hp,Z0d rfl]at ho;simp -dsimp -implicitDefEqProofs[t0,t1,t7,t8,ho]
  ·(have a:¬(i:Int)<s.size:=by omega);rw[show s.size-i=0 by omega]at ho
   simp -dsimp -implicitDefEqProofs[t0,t1,t7,t8,a,ho,A1y]
def D2k(s:ByteArray)(hs:s.size<=maxLen):A0e (WC gl) 380 [.list 1 (B2U s) .no,.func (.func 379) [] []] M (λv M'=>v=B (decide (0<=A1y (A0U 33 126) s s.size 0))/\M'=M):=by refine A0k hB func380 ?_;simp -dsimp -implicitDefEqProofs;refine A0i func397 (D3F gl M s hs) ?_;simp -dsimp -implicitDefEqProofs
def D2T{h}{d}{x}{t:TypeId}{p}{af}{g}{ρ:Operand->AV}{M}{s}(hx:ρ x=S s)(hs:s.size<2^62):A0A (WC gl) h ⟨d,.convert 9 114 x,t,p,af,g⟩ ρ M=some (.list 1 (B2U s) .no,M):=by
 have a:s.size<4611686018427387904:=by simpa using hs
 simp[A0A,A0n,A0W,A0R,A0E,A2V,hx,A6X,B0N,B2U,a]
def D4V(s:ByteArray)(hs:s.size<=maxLen):A0e (WC gl) 339 [S s] M (λv M'=>v=B (A2H s)/\M'=M):=by
 refine A0k hB func339 ?_;by_cases h0:s.size=0
 .have he:s=⟨#[]⟩:=A4G.2 h0;have hw:A2H ⟨#[]⟩=false:=by decide
  simp -dsimp -implicitDefEqProofs[he,hw]
 .have he:¬s=⟨#[]⟩:=λh=>h0 (A4G.1 h);have h1:decide (1<=s.size)=true:=Z0p (by omega);by_cases h2:s.size<=24
  ·(have b:(s.size:Int)<=24:=by omega);have hw:A2H s=decide (A1y (A0U 33 126) s s.size 0<0):=by simp[A2H,h1,h2]
   simp -dsimp -implicitDefEqProofs[he,b,hw,A6X];rw[D2T gl (s:=s) (by rfl) (by omega)];simp -dsimp -implicitDefEqProofs;refine A0i func380 (D2k gl M s hs) ?_;by_cases h3:0<=A1y (A0U 33 126) s s.size 0
   ·(have a:¬A1y (A0U 33 126) s s.size 0<0:=by omega);rw[Z0k a]at hw
    simp -dsimp -implicitDefEqProofs[h3,a,hw]
   ·(have a:A1y (A0U 33 126) s s.size 0<0:=by omega);rw[Z0p a]at hw
    simp -dsimp -implicitDefEqProofs[h3,a,hw]
  ·(have b:¬(s.size:Int)<=24:=by omega);have hw:A2H s=false:=by simp[A2H,h2]
   simp -dsimp -implicitDefEqProofs[he,b,hw]
def D5W(s:ByteArray)(hs:s.size<=maxLen):A0e (WC gl) 338 [S s] M (λv M'=>v=B (!A2H s)/\M'=M):=by refine A0k hB func338 ?_;simp -dsimp -implicitDefEqProofs;refine A0i func339 (D4V gl M s hs) ?_;simp -dsimp -implicitDefEqProofs
def D3J(l:List ByteArray)(hl:l.length<=1000)(hs:∀s∈l,s.size<=maxLen)(v:AV)(hv:A1z 9 1 A4p M v l):A0e (WC gl) 378 [v,.func (.func 338) [] []] M (λr M'=>r=I (A6g (λs=>!A2H s) l 0)/\M'=M):=by
 refine A0k hB func378 ?_;have b:A1H prog 37 v=some l.length:=hv.len (e':=9) (by simp);simp -dsimp -implicitDefEqProofs[b];refine A0s hB l.length 8 (λT M1=>∃i:Nat,i<=l.length/\M1=M/\T 0=v/\T 1=.func (.func 338) [] []/\T 7=I l.length/\T 8=I i/\A6g (λs=>!A2H s) l 0=A6g (λs=>!A2H s) (l.drop i) i) ?_ ?_
 .exact⟨0,by omega,rfl,by simp,by simp,by simp,by simp,by simp⟩
 .rintro T M1 ⟨i,i1,rfl,t0,t1,t7,t8,ho⟩;by_cases hi:i<l.length
  ·(have a:(i:Int)<l.length:=by omega);have w1:=A1i (i:=i) (by omega)
   obtain⟨p,p1,p2⟩:=hv.at1 (P:=prog) (t:=9) (f:=S) (λ_=>rfl) (by simp) (by simp) hi;have hd:l.drop i=l[i]::l.drop (i+1):=Z0h hi;rw[hd,A6g]at ho;simp -dsimp -implicitDefEqProofs[t0,t1,t7,t8,hi,a,p1,p2];refine A0i func338 (D5W gl _ l[i] (hs _ (Z0v hi))) ?_;cases hp:A2H l[i]
   .rw[hp,Z0d (by rfl)]at ho;simp -dsimp -implicitDefEqProofs[t0,t1,t7,t8,ho]
   .rw[hp,Z0e (by simp)]at ho;simp -dsimp -implicitDefEqProofs[t0,t1,t7,t8,w1];exact⟨⟨i+1,by clear w1;omega,rfl,ho⟩,by clear w1;omega⟩
  ·(have a:¬(i:Int)<l.length:=by omega);rw[show l.drop i=[]from Z0n (by omega)]at ho
   simp -dsimp -implicitDefEqProofs[t0,t1,t7,t8,a,ho,A6g]
def D1X(l:List ByteArray)(hl:l.length<=1000)(hs:∀s∈l,s.size<=maxLen)(v:AV)(hv:A1z 9 1 A4p M v l):A0e (WC gl) 337 [v,.func (.func 338) [] []] M (λr M'=>r=B (l.any λs=>!A2H s)/\M'=M):=by refine A0k hB func337 ?_;simp -dsimp -implicitDefEqProofs;refine A0i func378 (D3J gl M l hl hs v hv) ?_;rw[<-B4u _ l 0];simp -dsimp -implicitDefEqProofs
def B9T(l:List ByteArray)(hl:l.length<=1000)(hs:∀s∈l,s.size<=maxLen)(v:AV)(hv:A1z 9 1 A4p M v l):A0e (WC gl) 262 [v] M (λr M'=>r=B (decide (l.length<=256)&&l.all A2H)/\M'=M):=by
 refine A0k hB func262 ?_;have a:A1H prog 37 v=some l.length:=hv.len (e':=9) (by simp);by_cases h1:l.length<=256
 .have b:(l.length:Int)<=256:=by omega
  simp -dsimp -implicitDefEqProofs[a,b,h1];refine A0i func337 (D1X gl M l hl hs v hv) ?_;have:(l.any λs=>!A2H s)=!l.all A2H:=by rw[List.not_all_eq_any_not]
  rw[this];simp -dsimp -implicitDefEqProofs[h1]
 .have b:¬(l.length:Int)<=256:=by omega
  simp -dsimp -implicitDefEqProofs[a,b,h1]
end
def A1o(l:List A0G):List ByteArray:=l.map A0G.text
def A3D:List (List Int):=[[1,2],[2],[3,4,7],[3,4,7],[5],[6],[],[]]
def A1w(p k:Int):Bool:=decide (0<=p)&&decide (p<8)&&(A3D.getD p.toNat []).contains k
def C0n(l:List A0G):(A1o l).all A2H=l.all λw=>A2H w.text:=by simp[A1o,List.all_map];rfl
def hQ(l:List Nat):A2I:=⟨λ_=>true,λ_=>false,λd=>l.contains d⟩
@[simp] def E2W{l}:(hQ l).imm=λ_=>true:=rfl
@[simp] def E2p{l}:(hQ l).own=λ_=>false:=rfl
@[simp] def E2u{l}:(hQ l).vec=λd=>l.contains d:=rfl
section
variable (gl:Nat->AV) (M:Mem)
def C1m{own vec}{K:AV->Mem->Prop}{tg}{v}{M}{l}{s}{o}(hv:A1z 9 1 A4p M v l)(hl:l.length<=1000000000)(a:vec=true) (hk:∀v' M',A1z 9 1 A4p M' v' (l++[s])->A0c (obj v) M M'->(obj v'=obj v\/A1n M.length v')->K v' M'):A7o (WC gl) own vec 37 37 v (.list 1 [[S s]] o) M K tg:=by
 refine A3E (C:=WC gl) (enc:=A4p) (e:=9) (sz:=1) (news:=[s]) A4X A6S B0K (λ_=>rfl) hv (by simp[A0B]) (by simp;omega) a ?_
 intro v' M' h1 h2 h3 _
 exact hk v' M' h1 h2 h3
def A4T{M M1 M2:Mem}{v v':AV}{X:List A0p}(h1:Grow M M1)(hl:A1n M.length v)(h2:A0c (obj v) (M1++X) M2)(h3:obj v'=obj v\/A1n (M1++X).length v'):Grow M M2/\A1n M.length v':=by
 refine⟨⟨?_,λi hi _=>?_⟩,λf hf=>?_⟩
 .have:=h1.1;have:=h2.1;simp at this;omega
 .rw[h2.2 i (by have:=h1.1;simp;omega) (λe=>by have:=hl _ e;omega),Z0j (by have:=h1.1;omega)];exact h1.2 i hi (by simp)
 .rcases h3 with e|e
  .exact hl f (by rw[<-e];exact hf)
  .have:=e f hf;have:=h1.1;simp at*;omega
def D2N(ws:List A0G)(o:Own)(hl:ws.length<=100000000)(hs:∀w∈ws,w.text.size<=maxLen):A0e (WC gl) 208 [.list 4 (A0g ws) o] M (λv M'=>v=B (A3l ws)/\M'=M):=by
 have key:A0e (WC gl) 208 [.list 4 (A0g ws) o] M (λv M'=>(∃x,v=.val x/\x=.bool (A3l ws))/\Grow M M'):=by
  refine A0k (hQ [16]) func208 ?_;simp -dsimp -implicitDefEqProofs;refine A0s (hQ [16]) ws.length 8 (λT M1=>∃i:Nat,i<=ws.length/\T 0=.list 4 (A0g ws) o/\T 6=.list 4 (A0g ws) o/\T 7=I ws.length/\T 8=I i/\A1z 9 1 A4p M1 (T 3) (A1o (ws.take i))/\Grow M M1/\A1n M.length (T 3)) ?_ ?_
  .exact⟨0,by omega,by simp,by simp,by simp,by simp,by simpa[A1o]using A1z.nil,A0c.refl _ _,by simp[A1n]⟩
  .rintro T M1 ⟨i,i1,t0,t6,t7,t8,hv,hg,hL⟩;by_cases hi:i<ws.length
   ·(have a:(i:Int)<ws.length:=by omega);have w1:IntKind.i64.wrap ((i:Int)+1)=(i+1:Nat):=by rw[A0H (by omega) (by omega)];omega
    generalize c:T 3=ov at*;(have e:(M1++[A0p.cells 152 [S ws[i].text,I ws[i].act,I ws[i].item,I ws[i].at_]])[M1.length]?=some (A0p.cells 152 [S ws[i].text,I ws[i].act,I ws[i].item,I ws[i].at_]):=by simp);have d:A1z 9 1 A4p (M1++[A0p.cells 152 [S ws[i].text,I ws[i].act,I ws[i].item,I ws[i].at_]]) ov (A1o (ws.take i)):=hv.keep (A0c.app none M1 _) (by simp);(have ht:A1o (ws.take (i+1))=A1o (ws.take i)++[ws[i].text]:=by rw[A1o,A1o,Z2f,Z0m hi,Z0Q];rfl);simp -dsimp -implicitDefEqProofs[t0,t6,t7,t8,hi,a,c,A0o,A0l,A0d,A0G.row,A0a e,A0h,A0J];refine C1m gl d (by simp[A1o];omega) rfl ?_;intro v' M' h1 h2 h3;obtain⟨k1,k2⟩:=A4T hg hL h2 h3;simp -dsimp -implicitDefEqProofs[t0,t6,t7,t8,w1];exact⟨⟨i+1,by clear w1;omega,rfl,by rw[ht];exact h1,k1,k2⟩,by clear w1;omega⟩
   ·(have a:¬(i:Int)<ws.length:=by omega);rw[Z0l (by omega)]at hv
    by_cases h3:ws.length<=256
    ·(have b:(ws.length:Int)<=256:=by omega);simp -dsimp -implicitDefEqProofs[t0,t6,t7,t8,a,b]
     refine A0j func262 (B9T gl M1 (A1o ws) (by simp[A1o];omega) (by simpa[A1o]using hs) (T 3) hv) ?_;rintro _ _ ⟨rfl,rfl⟩;rw[C0n];simp -dsimp -implicitDefEqProofs[A3l,A1o,hg]
    ·(have b:¬(ws.length:Int)<=256:=by omega);simp -dsimp -implicitDefEqProofs[t0,t6,t7,t8,a,b,A3l,hg,h3]
 have:=A6L (Q:=λx=>x=.bool (A3l ws)) key;exact this.mono (by rintro v M' ⟨⟨x,rfl,rfl⟩,rfl⟩;exact⟨rfl,rfl⟩)
end
section
variable (gl:Nat->AV) (M:Mem)
def B9w(p:Int->Bool)(s:ByteArray){i}(h:i<s.size):A1y p s (s.size-i) i=if p (A0T s i)then(i:Int)else A1y p s (s.size-(i+1)) (i+1):=by
 have:s.size-i=(s.size-(i+1))+1:=by omega
 rw[this];rfl
def B8l{s:ByteArray}{i:Nat}(h:A1y (A0U 48 57) s s.size 0=(i:Int)):A1X s=i:=by simp only[A1X,h];split<;>omega
def C2Y{s}(h:A1y (A0U 48 57) s s.size 0=-1):A1X s=s.size:=by simp only[A1X,h];rfl
def C9f(s:ByteArray)(hs:s.size<=maxLen):A0e (WC gl) 155 [S s] M (λv M'=>v=I (A1X s)/\M'=M):=by
 refine A0k hB func155 ?_;simp -dsimp -implicitDefEqProofs;refine A0s hB s.size 3 (λT M1=>∃i:Nat,i<=s.size/\M1=M/\T 0=S s/\T 3=I i/\A1y (A0U 48 57) s s.size 0=A1y (A0U 48 57) s (s.size-i) i) ?_ ?_
 .refine⟨0,?_⟩;simp -dsimp -implicitDefEqProofs
 .rintro T M1 ⟨i,h1,rfl,h3,h4,h5⟩;by_cases hi:i<s.size
  ·(have b:(i:Int)<s.size:=by omega);have hw:IntKind.i64.wrap ((i:Int)+1)=(i+1:Nat):=by rw[A0H (by omega) (by simp only[maxLen]at hs;omega)];omega
   rw[B9w _ _ hi]at h5;by_cases c1:A0T s i>=48
   .by_cases c2:A0T s i<=57
    ·(have ho:A0U 48 57 (A0T s i)=false:=by simp[A0U];omega);rw[ho]at h5
     have a:(48:Int)<=A0T s i:=c1;simp -dsimp -implicitDefEqProofs[h3,h4,hi,b,c1,a,c2,hw];refine⟨⟨i+1,by clear hw;omega,by simp,by simpa using h5⟩,by clear hw;omega⟩
    ·(have ho:A0U 48 57 (A0T s i)=true:=by simp[A0U];omega);rw[ho]at h5
     have a:(48:Int)<=A0T s i:=c1;have hd:=B8l (by simpa using h5);simp -dsimp -implicitDefEqProofs[h3,h4,hi,b,c1,a,c2,hd]
   ·(have ho:A0U 48 57 (A0T s i)=true:=by simp[A0U];omega);rw[ho]at h5
    have a:¬(48:Int)<=A0T s i:=c1;have hd:=B8l (by simpa using h5);simp -dsimp -implicitDefEqProofs[h3,h4,hi,b,c1,a,hd]
  ·(have b:¬(i:Int)<s.size:=by omega);rw[show s.size-i=0 by omega]at h5
   have hd:=C2Y (by rw[h5];rfl);(have c:(i:Int)=s.size:=by omega);simp -dsimp -implicitDefEqProofs[h3,h4,b,hd,c]
def A7E(s:ByteArray)(hs:s.size<=maxLen):A0e (WC gl) 105 [S s] M (λv M'=>v=B (A0K s)/\M'=M):=by
 refine A0k hB func105 ?_;simp -dsimp -implicitDefEqProofs;refine A0j func155 (C9f gl M s hs) ?_;rintro r M' ⟨rfl,rfl⟩;have f:=B8f s;generalize hd:A1X s=d at*;by_cases c1:1<=d;case neg=>
  have:(d:Int)<1:=by omega
  simp -dsimp -implicitDefEqProofs[this,A0K,hd,c1]
 have i1:¬(d:Int)<1:=by omega
 by_cases c2:d<=4;case neg=>
  have:(4:Int)<d:=by omega
  simp -dsimp -implicitDefEqProofs[this,A0K,hd,c1,i1,c2]
 have i2:¬(4:Int)<d:=by omega
 have b:0<s.size:=by omega
 by_cases c3:A0T s 0=48
 .simp -dsimp -implicitDefEqProofs[A0K,hd,c1,i1,c2,i2,c3,b]
 have hw:IntKind.i64.wrap ((s.size:Int)-d)=(s.size-d:Nat):=by rw[A0H (by omega) (by simp only[maxLen]at hs;omega)];omega
 by_cases c4:s.size-d<=3;case neg=>
  have:(3:Int)<(s.size-d:Nat):=by omega
  have g:¬s.size<=3+d:=by omega
  simp -dsimp -implicitDefEqProofs[A0K,hd,c1,i1,c2,i2,c3,b,hw,this,g]
 have i4:¬(3:Int)<(s.size-d:Nat):=by omega
 simp -dsimp -implicitDefEqProofs[A0K,hd,c1,i1,c2,i2,c3,b,hw,i4];have e:A0K s=decide (A1y (A0U 65 90) s (s.size-d) d<0):=by simp[A0K,hd,c1,c2,c3];omega
 rw[e];clear e;refine A0s hB s.size 4 (λT M1=>∃i:Nat,i<=s.size/\M1=M'/\T 0=S s/\T 4=I i/\decide (A1y (A0U 65 90) s (s.size-d) d<0)=decide (A1y (A0U 65 90) s (s.size-i) i<0)) ?_ ?_
 .refine⟨d,?_⟩;simp -dsimp -implicitDefEqProofs[f]
 .rintro T M1 ⟨i,h1,rfl,h3,h4,h5⟩;rw[h5];by_cases hi:i<s.size
  ·(have a:(i:Int)<s.size:=by omega);have hw:IntKind.i64.wrap ((i:Int)+1)=(i+1:Nat):=by rw[A0H (by omega) (by simp only[maxLen]at hs;omega)];omega
   rw[B9w _ _ hi]at h5|-;by_cases c1:A0T s i<65
   ·(have ho:A0U 65 90 (A0T s i)=true:=by simp[A0U];omega);rw[ho]at h5|-
    simp -dsimp -implicitDefEqProofs[h3,h4,hi,a,c1]
   .by_cases c2:A0T s i>90
    ·(have ho:A0U 65 90 (A0T s i)=true:=by simp[A0U];omega);rw[ho]at h5|-
     have c:90<A0T s i:=c2;simp -dsimp -implicitDefEqProofs[h3,h4,hi,a,c1,c2,c]
    ·(have ho:A0U 65 90 (A0T s i)=false:=by simp[A0U];omega);rw[ho]at h5|-
     have c:¬90<A0T s i:=c2;simp -dsimp -implicitDefEqProofs[h3,h4,hi,a,c1,c2,c,hw];refine⟨⟨i+1,by clear hw;omega,by simp,Iff.rfl⟩,by clear hw;omega⟩
  ·(have a:¬(i:Int)<s.size:=by omega);rw[show s.size-i=0 by omega]at h5|-
   simp -dsimp -implicitDefEqProofs[h3,h4,a,A1y]
end
end Go.Abs
