/- The texts CyE, CyF, CyG, CyH, CsP, CsQ, CsR, CsT, CsU, CsV, CsW, CvC, CvD, CyI. -/
import Derived.Test.YtmpdkagfplajjaaGreatDoorEG25
import Derived.Laws.RangeAny
import Derived.Laws.RangeString
set_option linter.all false
set_option maxRecDepth 100000
namespace Go.Abs
open Go.Proofs TryTypes Tryz
def A2a(p:Int->Bool)(s:ByteArray):Nat->Nat->Int
 |0,_=>-1
 |n+1,i=>if p (A1I s i)then i else A2a p s n (i+1)
def A1A(lo hi:Int)(c:Int):Bool:=decide (c<lo)||decide (c>hi)
def B8V(s:ByteArray)(i:Nat)(h:i<s.size):A1I s i=((s[i]'h).toNat:Int):=by have h':i<s.data.size:=h;simp only[A1I,Z3G,Z0P h',Z1B];rfl
def C7T{lo hi}(a:0<lo)(b:hi<128)(s:ByteArray)(pos:Nat)(hp:pos<s.size):A1A lo hi ((Utf8.decode s pos).1:Int)=A1A lo hi (A1I s pos)/\(A1A lo hi (A1I s pos)=false->(Utf8.decode s pos).2=1):=by
 rw[B8V s pos hp]
 by_cases ha:(s[pos]'hp).toNat<128
 .rw[decode_ascii s pos hp ha];exact⟨rfl,λ_=>rfl⟩
 .have:=decode_high s pos hp (by omega);have e1:A1A lo hi ((Utf8.decode s pos).1:Int)=true:=by(have:((Utf8.decode s pos).1:Int)>hi:=by omega);simp[A1A,this]
  have e2:A1A lo hi ((s[pos]'hp).toNat:Int)=true:=by(have:((s[pos]'hp).toNat:Int)>hi:=by omega);simp[A1A,this]
  rw[e1,e2];exact⟨rfl,λe=>by simp at e⟩
section
variable (gl:Nat->AV) (M:Mem)
def D9I(c:Int):A0e (WC gl) 211 [.val (.int .i32 c)] M (λv M'=>v=B (A1A 48 57 c)/\M'=M):=by
 refine A0m hB func211 ?_;by_cases h1:c<48
 .simp -dsimp -implicitDefEqProofs[A1A,h1]
 .simp -dsimp -implicitDefEqProofs[A1A,h1]
def D9k(c:Int):A0e (WC gl) 162 [.val (.int .i32 c)] M (λv M'=>v=B (A1A 65 90 c)/\M'=M):=by
 refine A0m hB func162 ?_;by_cases h1:c<65
 .simp -dsimp -implicitDefEqProofs[A1A,h1]
 .simp -dsimp -implicitDefEqProofs[A1A,h1]
def C2p(g:FuncId)(lo hi:Int)(f:0<lo)(e:hi<128)(s:ByteArray)(hg:∀M c,A3V (WC gl) g [.val (.int .i32 c)] M (λv M'=>v=B (A1A lo hi c)/\M'=M)):
 A0e (WC gl) 264 [S s,.func (.func g) [] [],B true] M (λv M'=>v=I (A2a (A1A lo hi) s s.size 0)/\Grow M M'):=by
 refine A0m hB func264 ?_
 simp -dsimp -implicitDefEqProofs[A6e]
 refine A7V hB (λT M1=>∃pos,pos<=s.size/\M1=M++[.siter s pos]/\T 1=.func (.func g) [] []/\T 2=B true/\T 10=.ptr M.length 0/\A2a (A1A lo hi) s s.size 0=A2a (A1A lo hi) s (s.size-pos) pos) (λT M1=>match M1[M.length]? with|some (.siter _ pos)=>s.size-pos|_=>0) (by kernel_rfl) ?_ ?_
 .refine⟨0,?_⟩;simp -dsimp -implicitDefEqProofs
 .rintro T M1 ⟨pos,h1,rfl,h2,h3,h4,h5⟩;by_cases hp:pos<s.size
  ·(have hn:A5m (.ptr M.length 0) (M++[.siter s pos])=some (.tuple [.val (.bool true),.val (goInt pos),.val (.int .i32 (Utf8.decode s pos).1)],M++[.siter s (pos+(Utf8.decode s pos).2)]):=by simp[A5m,hp]);have b:A2a (A1A lo hi) s (s.size-pos) pos=if A1A lo hi (A1I s pos)then(pos:Int)else A2a (A1A lo hi) s (s.size-(pos+1)) (pos+1):=by(have:s.size-pos=(s.size-(pos+1))+1:=by omega);rw[this];rfl
   obtain⟨a,d⟩:=C7T f e s pos hp;have h:((Utf8.decode s pos).1:Int)=((Utf8.decode s pos).1:Nat):=rfl;simp -dsimp -implicitDefEqProofs[h2,h3,h4,hn];refine A4o (hg _ _) ?_;rintro r M' ⟨rfl,rfl⟩;cases hb:A1A lo hi ((Utf8.decode s pos).1:Int)
   .rw[a]at hb;have hd:=d hb;simp -dsimp -implicitDefEqProofs[h2,h3,h4,hd];refine⟨⟨pos+1,by omega,rfl,by rw[h5,b,hb];rfl⟩,?_⟩;omega
   .rw[a]at hb;simp -dsimp -implicitDefEqProofs[h2,h3,h4];refine⟨?_,.app _ _ _⟩;rw[h5,b,hb];rfl
  ·(have hn:A5m (.ptr M.length 0) (M++[.siter s pos])=some (.tuple [.val (.bool false)],M++[.siter s pos]):=by simp[A5m,hp]);simp -dsimp -implicitDefEqProofs[h2,h3,h4,hn]
   refine⟨?_,.app _ _ _⟩;rw[h5,show s.size-pos=0 by omega];rfl
def B4K(g:FuncId)(lo hi:Int)(a:0<lo)(b:hi<128)(s:ByteArray)(hg:∀M c,A3V (WC gl) g [.val (.int .i32 c)] M (λv M'=>v=B (A1A lo hi c)/\M'=M)):
 A0e (WC gl) 210 [S s,.func (.func g) [] []] M (λv M'=>v=I (A2a (A1A lo hi) s s.size 0)/\Grow M M'):=by
 refine A0m hB func210 ?_
 simp -dsimp -implicitDefEqProofs
 refine A0r func264 (C2p gl M g lo hi a b s hg) ?_
 rintro r M' ⟨rfl,d⟩
 simp -dsimp -implicitDefEqProofs[d]
def B6D(g:FuncId)(lo hi:Int)(a:0<lo)(b:hi<128)(s:ByteArray)(hg:∀M c,A3V (WC gl) g [.val (.int .i32 c)] M (λv M'=>v=B (A1A lo hi c)/\M'=M)):
 A0e (WC gl) 163 [S s,.func (.func g) [] []] M (λv M'=>v=B (decide (0<=A2a (A1A lo hi) s s.size 0))/\Grow M M'):=by
 refine A0m hB func163 ?_
 simp -dsimp -implicitDefEqProofs
 refine A0r func210 (B4K gl M g lo hi a b s hg) ?_
 rintro r M' ⟨rfl,d⟩
 simp -dsimp -implicitDefEqProofs[d]
def B1i(p:Int->Bool)(s:ByteArray):∀n i,A2a p s n i=-1\/((i:Int)<=A2a p s n i/\A2a p s n i<i+n)
 |0,i=>.inl rfl
 |n+1,i=>by
  simp only[A2a];split
  .right;omega
  .rcases B1i p s n (i+1)with h|h
   .exact .inl h
   .right;push_cast at h;omega
def A2A(s:ByteArray):Nat:=let k:=A2a (A1A 48 57) s s.size 0;if k<0 then s.size else k.toNat
def D1v(s:ByteArray):A0e (WC gl) 161 [S s] M (λv M'=>v=.tuple [S (s.extract 0 (A2A s)),S (s.extract (A2A s) s.size)]/\Grow M M'):=by
 refine A0m hB func161 ?_;simp -dsimp -implicitDefEqProofs;refine A0r func210 (B4K gl M 211 48 57 (by decide) (by decide) s λM c=>A1T func211 rfl rfl (D9I gl M c)) ?_;rintro r M' ⟨rfl,a⟩;have hr:=B1i (A1A 48 57) s s.size 0;generalize hk:A2a (A1A 48 57) s s.size 0=k at hr;by_cases h0:k<0
 .have hd:A2A s=s.size:=by simp[A2A,hk,h0]
  simp -dsimp -implicitDefEqProofs[h0,a,hd];rfl
 .have hd:A2A s=k.toNat:=by simp[A2A,hk,h0]
  have h1:0<=k:=by omega
  have h2:k<=s.size:=by omega
  simp -dsimp -implicitDefEqProofs[h0];refine A1v hB (A0I gl) (λ_=>0) (λ_=>0) (by rfl) (by kernel_rfl) ?_;simp -dsimp -implicitDefEqProofs[a,hd,h1,h2]
def C6Y(s:ByteArray):A2A s<=s.size:=by have hr:=B1i (A1A 48 57) s s.size 0;simp only[A2A];split<;>omega
def A8q(p:Int->Bool)(s:ByteArray)(d:Nat):∀n i,d+i+n<=s.size->(A2a p (s.extract d s.size) n i<0<->A2a p s n (d+i)<0)
 |0,i,h=>by simp[A2a]
 |n+1,i,h=>by
  simp only[A2a];rw[A7X (by omega) (by omega)];split
  .constructor<;>intro h<;>omega
  .exact A8q p s d n (i+1) (by omega)
def A0X(s:ByteArray):Bool:=decide (1<=A2A s)&&decide (A2A s<=4)&&!decide (A1I s 0=48)&&decide (s.size-A2A s<=3)&&decide (A2a (A1A 65 90) s (s.size-A2A s) (A2A s)<0)
def A9n(s:ByteArray):A0e (WC gl) 112 [S s] M (λv M'=>v=B (A0X s)/\Grow M M'):=by
 refine A0m hB func112 ?_;simp -dsimp -implicitDefEqProofs;refine A0r func161 (D1v gl M s) ?_;rintro r M' ⟨rfl,b⟩;have l:=C6Y s;have a:(s.extract 0 (A2A s)).size=A2A s:=by simp;omega
 have f:(s.extract (A2A s) s.size).size=s.size-A2A s:=by simp
 have e:1<=A2A s->A1I (s.extract 0 (A2A s)) 0=A1I s 0:=λh=>by rw[A7X (by omega) l]
 generalize hd:A2A s=d at*;by_cases c1:1<=d;case neg=>
  have:¬(1:Int)<=d:=by omega
  simp -dsimp -implicitDefEqProofs[a,this,A0X,hd,c1,b]
 have i1:(1:Int)<=d:=by omega
 have e:=e c1;by_cases c2:d<=4;case neg=>
  have:¬(d:Int)<=4:=by omega
  simp -dsimp -implicitDefEqProofs[a,this,A0X,hd,c1,i1,c2,b]
 have i2:(d:Int)<=4:=by omega
 have g:0<d:=c1;by_cases c3:A1I s 0=48
 .simp -dsimp -implicitDefEqProofs[a,A0X,hd,c1,i1,c2,i2,c3,e,g,b]
 by_cases c4:s.size-d<=3;case neg=>
  have:¬((s.size-d:Nat):Int)<=3:=by omega
  have k:¬s.size<=3+d:=by omega
  simp -dsimp -implicitDefEqProofs[a,f,A0X,hd,c1,i1,c2,i2,c3,e,g,this,c4,k,b]
 have i4:((s.size-d:Nat):Int)<=3:=by omega
 simp -dsimp -implicitDefEqProofs[a,f,A0X,hd,c1,i1,c2,i2,c3,e,g,i4,c4,b];refine A0r func163 (B6D gl M' 162 65 90 (by decide) (by decide) _ λM c=>A1T func162 rfl rfl (D9k gl M c)) ?_;rintro r M2 ⟨rfl,i⟩;have j:Grow M M2:=A0c.trans b i;have hx:=A8q (A1A 65 90) s d (s.size-d) 0 (by omega);rw[f];by_cases c5:0<=A2a (A1A 65 90) (s.extract d s.size) (s.size-d) 0
 .have:¬A2a (A1A 65 90) s (s.size-d) d<0:=λh=>by have:=hx.2 (by simpa using h);omega
  simp -dsimp -implicitDefEqProofs[c5,A0X,hd,c1,c2,c3,c4,this,j]
 .have:A2a (A1A 65 90) s (s.size-d) d<0:=by have:=hx.1 (by omega);simpa using this
  simp -dsimp -implicitDefEqProofs[c5,A0X,hd,c1,c2,c3,c4,this,j]
end
abbrev A0G.v(s:A0G):AV:=.agg s.row
def A1L(p:List A0G):List (List AV):=p.map A0G.row
@[simp] def E0c(p:List A0G):(A1L p).length=p.length:=by simp[A1L]
@[simp] def E7H{k j}{a b}:A1B prog .eql 159 (.agg [I k,S a]) (.agg [I j,S b])=some (B (decide (k=j)&&decide (a=b))):=by
 have h1:prog.eqGuardType prog.depth 159=false:=by kernel_rfl
 have h2:prog.stoodInHeld 159=false:=by kernel_rfl
 simp[A1B,A3I,A5h,A4J,A3q,h1,B2q,h2,A3H];by_cases c1:k=j
 .by_cases c2:a=b
  .simp[c1,c2]
  .have:¬a.data=b.data:=λe=>c2 (by cases a;cases b;simpa using e);(have e:(a.data==b.data)=false:=by simpa using this);rw[e];simp[c1,c2]
 .have e:(k==j)=false:=by simpa using c1
  rw[e];simp[c1]
def B9P{x}:A0D prog 159 [(0,I x)]=some (.agg [I x,S ⟨#[]⟩]):=by simp[A0D,A1k,A1E,A0d]
section
variable (gl:Nat->AV) (M:Mem)
def A5L(s:A0G):Bool:=decide (s.k=0)&&decide (s.lab=⟨#[]⟩)
def C9o(s:A0G):A0e (WC gl) 214 [s.v] M (λv M'=>v=B (A5L s)/\M'=M):=by refine A0m hB func214 ?_;simp -dsimp -implicitDefEqProofs[A0G.row,A5L,B9P]
def A1N(s:A0G):Bool:=decide (1<=s.k)&&decide (s.k<=7)&&A0X s.lab
def C4v(s:A0G):A0e (WC gl) 217 [s.v] M (λv M'=>v=B (A1N s)/\Grow M M'):=by
 refine A0m hB func217 ?_;by_cases c1:1<=s.k;case neg=>simp -dsimp -implicitDefEqProofs[A0G.row,A1N,c1,Grow,A0c.refl]
 by_cases c2:s.k<=7;case neg=>simp -dsimp -implicitDefEqProofs[A0G.row,A1N,c1,c2,Grow,A0c.refl]
 simp -dsimp -implicitDefEqProofs[A0G.row,A1N,c1,c2];refine A0r func112 (A9n gl M s.lab) ?_;rintro r M' ⟨rfl,a⟩;simp -dsimp -implicitDefEqProofs[A1N,c1,c2,a]
def D0i(s:A0G):A0e (WC gl) 216 [s.v] M (λv M'=>v=B (!A1N s)/\Grow M M'):=by refine A0m hB func216 ?_;simp -dsimp -implicitDefEqProofs[A0G.row];refine A0r func217 (C4v gl M s) ?_;rintro r M' ⟨rfl,a⟩;simp -dsimp -implicitDefEqProofs[a]
end
def Grow.refl(M:Mem):Grow M M:=A0c.refl _ _
def Grow.trans{A B C}(h1:Grow A B)(h2:Grow B C):Grow A C:=A0c.trans h1 h2
@[simp] def E0S{p}{i}(h:i<(A1L p).length):(A1L p)[i]=[I (p[i]'(by simpa using h)).k,S (p[i]'(by simpa using h)).lab]:=by simp[A1L,A0G.row]
def B2u{p:List A0G}{f:A0G->Bool}{i:Nat}(h:i<p.length)(ha:(p.take i).all f=true)(hf:f (p[i])=true):(p.take (i+1)).all f=true:=by rw[Z0D h,List.all_append,ha];simp[hf]
section
variable (gl:Nat->AV) (M:Mem)
def C2u(p:List A0G)(o:Own)(c:p.length<=1000000):A0e (WC gl) 270 [.list 2 (A1L p) o,.func (.func 216) [] []] M (λv M'=>(∃r,v=I r/\decide (0<=r)=p.any (λs=>!A1N s))/\Grow M M'):=by
 refine A0m hB func270 ?_;simp -dsimp -implicitDefEqProofs;refine A0F hB p.length 8 (λT M1=>∃i:Nat,i<=p.length/\Grow M M1/\T 0=.list 2 (A1L p) o/\T 1=.func (.func 216) [] []/\T 7=I p.length/\T 8=I i/\(p.take i).all A1N=true) ?_ ?_
 .refine⟨0,?_⟩;simp -dsimp -implicitDefEqProofs[Grow.refl]
 .rintro T M1 ⟨i,h1,h2,h3,h4,h5,h6,h7⟩;by_cases hi:i<p.length
  ·(have a:(i:Int)<p.length:=by omega);have hw:IntKind.i64.wrap ((i:Int)+1)=(i+1:Nat):=by rw[A0Z (by omega) (by omega)];omega
   simp -dsimp -implicitDefEqProofs[h3,h4,h5,h6,hi,a];refine A0r func216 (D0i gl M1 p[i]) ?_;rintro r M' ⟨rfl,b⟩;have hg:=h2.trans b;cases hb:A1N p[i]
   .simp -dsimp -implicitDefEqProofs[h3,h4,h5,h6];refine⟨?_,hg⟩;exact⟨p[i],Z0y hi,hb⟩
   .simp -dsimp -implicitDefEqProofs[h3,h4,h5,h6,hw,hg];refine⟨⟨i+1,?_⟩,?_⟩
    .have:=B2u hi h7 hb;simp only[Z0p]at this|-;exact⟨by clear hw;omega,by simp,this⟩
    .clear hw;omega
  ·(have a:¬(i:Int)<p.length:=by omega);rw[Z0j (by omega),Z0p]at h7
   simp -dsimp -implicitDefEqProofs[h3,h4,h5,h6,a];exact⟨h7,h2⟩
def B0F(p:List A0G)(o:Own)(a:p.length<=1000000):A0e (WC gl) 215 [.list 2 (A1L p) o,.func (.func 216) [] []] M (λv M'=>v=B (p.any (λs=>!A1N s))/\Grow M M'):=by refine A0m hB func215 ?_;simp -dsimp -implicitDefEqProofs;refine A0r func270 (C2u gl M p o a) ?_;rintro r M' ⟨⟨r,rfl,hr⟩,b⟩;simp -dsimp -implicitDefEqProofs[b,hr]
def B4H(p:List A0G):List A0G:=match p with
 |[]=>[]
 |s::p'=>if A5L s then p' else s::p'
def A4u(p:List A0G):Bool:=decide (0<(B4H p).length)&&(B4H p).all A1N
def C3c{p:List A0G}:(!p.any (λs=>!A1N s))=p.all A1N:=by
 induction p with
 |nil=>rfl
 |cons a p ih=>simp only[Z2Z,Z1C,Bool.not_or,Bool.not_not,ih]
def B4j(p:List A0G)(o:Own)(a:p.length<=1000000):A0e (WC gl) 166 [.list 2 (A1L p) o] M (λv M'=>v=B (A4u p)/\Grow M M'):=by
 refine A0m hB func166 ?_;cases p with
 |nil=>simp -dsimp -implicitDefEqProofs[A1L,A4u,B4H,Grow.refl]
 |cons s p'=>
  simp only[Z0v]at a;simp -dsimp -implicitDefEqProofs[A1L,A0G.row];refine A0r func214 (C9o gl M s) ?_;rintro r M' ⟨rfl,rfl⟩;cases hb:A5L s
  .simp -dsimp -implicitDefEqProofs;refine A0r func215 (B0F gl M' (s::p') o (by simpa using a)) ?_;rintro r M2 ⟨rfl,b⟩;(have e:(s::p').all A1N=A4u (s::p'):=by simp[A4u,B4H,hb]);rw[<-e,<-C3c];simp -dsimp -implicitDefEqProofs[b]
  ·(have i1:(1:Int)<=p'.length+1:=by omega);by_cases c:0<p'.length
   ·(have e:p'.all A1N=A4u (s::p'):=by simp[A4u,B4H,hb,c]);rw[<-e,<-C3c]
    simp -dsimp -implicitDefEqProofs[i1,c];refine A0r func215 (B0F gl M' p' _ (by omega)) ?_;rintro r M2 ⟨rfl,b⟩;simp -dsimp -implicitDefEqProofs[b]
   ·(have e:A4u (s::p')=false:=by simp[A4u,B4H,hb,c]);simp -dsimp -implicitDefEqProofs[i1,c,e,Grow.refl]
end
abbrev D7q(p:List A0G)(o:Own):AV:=.agg [I 0,.list 2 (A1L p) o,S ⟨#[]⟩,I 0,I 0]
def B1b(p:List A0G):Bool:=decide (p.length<=9)&&A4u p
def A1x:List ByteArray:=[⟨#[]⟩,⟨#[112,97,114,116]⟩,⟨#[115,101,99,116,105,111,110]⟩,⟨#[112,97,114,97,103,114,97,112,104]⟩,⟨#[116,97,98,108,101]⟩,⟨#[114,111,119]⟩,⟨#[99,101,108,108]⟩,⟨#[110,111,116,101]⟩]
def A3l:ByteArray:=⟨#[98,111,111,107]⟩
def A5j(s:A0G):List ByteArray:=if A5L s then[A3l]else[A1x.getD s.k.toNat ⟨#[]⟩,s.lab]
def A8v(p:List A0G):List ByteArray:=p.flatMap A5j
def hT:A2r:=⟨λ_=>true,λ_=>false,λd=>d==27||d==39||d==21⟩
@[simp] def E5q:hT.own=λ_=>false:=rfl
@[simp] def E5y:hT.vec=λd=>d==27||d==39||d==21:=rfl
def A7H(s:A0G):Bool:=A5L s||A1N s
def D3u{s}(h:A0X s=true):¬s=⟨#[]⟩:=by rintro rfl;revert h;decide+kernel
def B0i{M M1 M' X}{l news}{out v'}(h:A4l M l out M1)(h1:A5q 9 M' v' (l.map S++news.map S))(h2:A0c (obj out) (M1++X) M')(h3:obj v'=obj out\/A1m (M1++X).length v'):A4l M (l++news) v' M':=by
 refine⟨by simpa using h1,⟨?_,λi hi _=>?_⟩,?_⟩
 .have a:=h.2.1.1;have b:=h2.1;simp at b;omega
 .have hl:=h.2.1.1;rw[h2.2 i (by simp;omega) λe=>by have:=h.2.2 i e;omega,Z0h (by omega)];exact h.2.1.2 i hi (by simp)
 .intro f hf;rcases h3 with e|e
  .exact h.2.2 f (by rw[<-e];exact hf)
  .have a:=h.2.1.1;have b:=e f hf;simp at b;omega
def B7i{p:List A0G}{i:Nat}(h:i<p.length):A8v (p.take (i+1))=A8v (p.take i)++A5j p[i]:=by rw[Z0D h,A8v,A8v,Z1s];simp
def C0c(s:A0G):(A5j s).length<=2:=by unfold A5j;split<;>simp
def C0y(p:List A0G):(A8v p).length<=2*p.length:=by
 induction p with
 |nil=>simp[A8v]
 |cons a p ih=>have:=C0c a;simp only[A8v,Z1a,Z0q,Z0v]at*;omega
section
variable (gl:Nat->AV) (M:Mem)
def C2J(p:List A0G)(o:Own)(a:p.length<=1000000):A0e (WC gl) 116 [D7q p o] M (λv M'=>v=B (B1b p)/\Grow M M'):=by
 refine A0m hB func116 ?_;by_cases c:p.length<=9
 .have i1:¬(p.length:Int)>9:=by omega
  have i2:¬(9:Int)<p.length:=by omega
  simp -dsimp -implicitDefEqProofs[i1,i2];refine A0r func166 (B4j gl M p o a) ?_;rintro r M2 ⟨rfl,b⟩;simp -dsimp -implicitDefEqProofs[B1b,c,b]
 .have i2:(9:Int)<p.length:=by omega
  simp -dsimp -implicitDefEqProofs[i2,B1b,c,Grow.refl]
def D0U:A0e (WC gl) 219 [] M (λv M'=>v=.list 1 (A1c A1x) .full/\M'=M):=by refine A0m hB func219 ?_;simp -dsimp -implicitDefEqProofs[A0q,A1f,A1c,A1x]
def D6o(p:List A0G)(o:Own)(a0:p.length<=1000000)(c:p.all A7H=true):A0e (WC gl) 168 [.list 2 (A1L p) o] M (A4l M (A8v p)):=by
 refine A0m hT func168 ?_;simp -dsimp -implicitDefEqProofs;refine A0F hT p.length 8 (λT M1=>∃i:Nat,i<=p.length/\A4l M (A8v (p.take i)) (T 3) M1/\T 6=.list 2 (A1L p) o/\T 7=I p.length/\T 8=I i) ?_ ?_
 .refine⟨0,?_⟩;simp -dsimp -implicitDefEqProofs[A4l,A5q,A0c.refl,A1m,A8v]
 .rintro T M1 ⟨i,h1,h2,h3,h4,h5⟩;generalize g:T 3=t at h2;by_cases hi:i<p.length
  ·(have d:(i:Int)<p.length:=by omega);have hw:IntKind.i64.wrap ((i:Int)+1)=(i+1:Nat):=by rw[A0Z (by omega) (by omega)];omega
   (have f:(M1++[A0j.cells 159 [I p[i].k,S p[i].lab]])[M1.length]?=some (.cells 159 [I p[i].k,S p[i].lab]):=by simp);have hg:=Z0p.1 c p[i] (Z0y hi)
   have q:A5q 9 (M1++[A0j.cells 159 [I p[i].k,S p[i].lab]]) t ((A8v (p.take i)).map S):=h2.1.keep (.app none _ _) (by simp);have z:=C0y (p.take i);(have u:(p.take i).length<=p.length:=by simp;omega);simp -dsimp -implicitDefEqProofs[h3,h4,h5,hi,d,A0k,A0l,A0d,A0b f];refine A0r func214 (C9o gl _ p[i]) ?_;rintro r M2 ⟨rfl,rfl⟩;cases hb:A5L p[i]
   ·(have hn:A1N p[i]=true:=by simpa[A7H,hb]using hg);simp only[A1N,Z0g,Z0m]at hn
    obtain⟨⟨n1,n2⟩,n3⟩:=hn;have hl:=D3u n3;(have y:0<=p[i].k:=by omega);(have s:p[i].k<8:=by omega);(have j:p[i].k.toNat<8:=by omega);(have l:(A1c A1x)[p[i].k.toNat]?.getD []=[S (A1x.getD p[i].k.toNat ⟨#[]⟩)]:=by have:p[i].k.toNat<A1x.length:=j;simp[A1c,this]);have b:∀h:p[i].k.toNat<(A1c A1x).length,(A1c A1x)[p[i].k.toNat]'h=[S (A1x.getD p[i].k.toNat ⟨#[]⟩)]:=by intro h;have:p[i].k.toNat<A1x.length:=j;simp[A1c,this]
    (have a:A5j p[i]=[A1x.getD p[i].k.toNat ⟨#[]⟩,p[i].lab]:=by simp only[A5j,hb];rfl);have w:A1x.length=8:=rfl
    generalize A1x.getD p[i].k.toNat ⟨#[]⟩=kw at l b a;simp -dsimp -implicitDefEqProofs[hl,A0b f];refine A1v hT (A0I gl) (λk=>if k=3\/k=7 then 1 else if k=9 then 2 else 0) (λ_=>M1.length) (by rfl) (by kernel_rfl) ?_;simp -dsimp -implicitDefEqProofs;refine A2F func219 (λM=>(D0U gl M)) ?_;simp -dsimp -implicitDefEqProofs[A0b f,y,l,b,s,w,A0q,A1f,g];refine push (C:=WC gl) (e:=9) A8j B0S B8l q (news:=[kw,p[i].lab].map S) (m:=2) rfl rfl (by simp;omega) rfl ?_;intro v' M' q1 q2 q3 _;have hf:=B0i h2 q1 q2 q3;rw[<-a,<-B7i hi]at hf;simp -dsimp -implicitDefEqProofs[h3,h4,h5,hw];refine⟨⟨i+1,?_⟩,?_⟩
    .exact⟨by clear hw;omega,hf,by simp⟩
    .clear hw;omega
   ·(have a:A5j p[i]=[A3l]:=by simp[A5j,hb]);simp -dsimp -implicitDefEqProofs[A0q,A1f,g]
    refine push (C:=WC gl) (e:=9) A8j B0S B8l q (news:=[A3l].map S) (m:=1) rfl rfl (by simp;omega) rfl ?_;intro v' M' q1 q2 q3 _;have hf:=B0i h2 q1 q2 q3;rw[<-a,<-B7i hi]at hf;simp -dsimp -implicitDefEqProofs[h3,h4,h5,hw];refine⟨⟨i+1,?_⟩,?_⟩
    .exact⟨by clear hw;omega,hf,by simp⟩
    .clear hw;omega
  ·(have d:¬(i:Int)<p.length:=by omega);rw[Z0j (by omega)]at h2
   simp -dsimp -implicitDefEqProofs[h3,h4,h5,d,g,h2]
def D2K(p:List A0G)(o:Own)(b:p.length<=1000000)(a:p.all A7H=true):A0e (WC gl) 117 [D7q p o] M (A4l M (A8v p)):=by refine A0m hB func117 ?_;simp -dsimp -implicitDefEqProofs;refine A0r func168 (D6o gl M p o b a) ?_;intro v M' h;simp -dsimp -implicitDefEqProofs[h]
def A4c(p:List A0G):List ByteArray:=if B1b p then A8v p else[]
def C0Z{p}(h:B1b p=true):p.all A7H=true:=by
 simp only[B1b,A4u,Z0g]at h;have h2:=h.2.2;cases p with
 |nil=>rfl
 |cons s p'=>
  simp only[B4H]at h2;cases hb:A5L s
  .simp only[hb,Z0I,Z1j,Z1C,Z0g]at h2;simp only[Z1C,Z0g,A7H,hb,h2.1,Z4s,Z2n,Z1K];exact Z0p.2 λx hx=>by have:=Z0p.1 h2.2 x hx;show(A5L x||A1N x)=true;rw[this,Z4s]
  .simp only[hb,Z0F]at h2;simp only[Z1C,Z0g,A7H,hb,Z2O,Z2n];exact Z0p.2 λx hx=>by have:=Z0p.1 h2 x hx;show(A5L x||A1N x)=true;rw[this,Z4s]
def C1N(p:List A0G):(A4c p).length<=18:=by
 unfold A4c;split
 .rename_i h;simp only[B1b,Z0g,Z0m]at h;have:=C0y p;omega
 .simp
def B8z{M M1 M'}{l}{v}(hg:Grow M M1)(h:A4l M1 l v M'):A4l M l v M':=⟨h.1,hg.trans h.2.1,λf hf=>Z0Q hg.1 (h.2.2 f hf)⟩
def C8O(p:List A0G)(o:Own)(a:p.length<=1000000):A0e (WC gl) 60 [.list 2 (A1L p) o] M (A4l M (A4c p)):=by
 refine A0m hB func60 ?_;have c:∀M:Mem,(M++[A0j.cells 110 [I 0,.list 2 (A1L p) o,S ⟨#[]⟩,I 0,I 0]])[M.length]?=some (.cells 110 [I 0,.list 2 (A1L p) o,S ⟨#[]⟩,I 0,I 0]):=by simp
 simp -dsimp -implicitDefEqProofs[A0D,A1k,A1E,A0k,A0l,A0d,A0b (c _)];refine A0r func116 (C2J gl _ p o a) ?_;rintro r M' ⟨rfl,b⟩;have hg:Grow M M':=Grow.trans (.app none M _) b;have hc:=b.get (c M) (by simp);cases hb:B1b p
 .simp -dsimp -implicitDefEqProofs[A4c,hb];exact⟨.inl ⟨rfl,rfl⟩,hg,by simp[A1m]⟩
 .simp -dsimp -implicitDefEqProofs[A0b hc];refine A0r func117 (D2K gl M' p o a (C0Z hb)) ?_;intro v M2 h;simp -dsimp -implicitDefEqProofs[A4c,hb];exact B8z hg h
end
def A3y:ByteArray:=⟨#[116,104,105,115]⟩
def A6c:ByteArray:=⟨#[116,104,101]⟩
def A9h:ByteArray:=⟨#[115,97,105,100]⟩
def A6J:ByteArray:=⟨#[102,111,114,109,101,114,108,121]⟩
def toW:ByteArray:=⟨#[116,111]⟩
def A3w:List ByteArray:=[⟨#[]⟩,⟨#[112,97,114,116,115]⟩,⟨#[115,101,99,116,105,111,110,115]⟩,⟨#[112,97,114,97,103,114,97,112,104,115]⟩,⟨#[116,97,98,108,101,115]⟩,⟨#[114,111,119,115]⟩,⟨#[]⟩,⟨#[110,111,116,101,115]⟩]
def C3p:List ByteArray->ByteArray->Nat->Int
 |[],_,_=>-1
 |a::r,s,i=>if a=s then i else C3p r s (i+1)
def A2y(l:List ByteArray)(s:ByteArray):Int:=if s=⟨#[]⟩then 0 else max (C3p l s 0) 0
def kS:ByteArray->Int:=A2y A1x
def kP:ByteArray->Int:=A2y A3w
def B7f(s:ByteArray):ByteArray:=if s.size=0 then s else if A5l (A1I s (s.size-1))then s.extract 0 (s.size-1)else s
def A4i(s:ByteArray):Bool:=decide (s.size=0)||!A5l (A1I s (s.size-1))
def C8K{s}(h:A4i s=true):B7f s=s:=by
 unfold A4i at h;unfold B7f;by_cases c:s.size=0
 .rw[Z0d c]
 .simp only[c,Z4r,Z1K,Z1U]at h;rw[Z0e c,h];rfl
def D5P{s}(h:A4i s=false):B7f s≠s/\0<s.size/\A5l (A1I s (s.size-1))=true/\B7f s=s.extract 0 (s.size-1):=by
 unfold A4i at h;unfold B7f;by_cases c:s.size=0
 .simp[c]at h
 .simp only[c,Z4r,Z1K,Bool.not_eq_false']at h;rw[Z0e c,Z0d h];refine⟨λe=>?_,by omega,h,rfl⟩;have:=congrArg ByteArray.size e;simp at this;omega
def B5x{p:Int->Bool}{s}:∀n i,A2a p s n i<0->∀j,i<=j->j<i+n->p (A1I s j)=false
 |0,i,_,j,h1,h2=>by omega
 |n+1,i,h,j,h1,h2=>by
  unfold A2a at h;by_cases c:p (A1I s i)=true
  .rw[Z0d c]at h;omega
  .rw[Z0e c]at h;by_cases e:j=i
   .subst e;simpa using c
   .exact B5x n (i+1) h j (by omega) (by omega)
def C5y{p:Int->Bool}{s}:∀n i,0<=A2a p s n i->i<=A2a p s n i/\A2a p s n i<i+n/\∀j,i<=j->(j:Int)<A2a p s n i->p (A1I s j)=false
 |0,i,h=>by simp[A2a]at h
 |n+1,i,h=>by
  unfold A2a at h|-;by_cases c:p (A1I s i)=true
  .rw[Z0d c];exact⟨by omega,by omega,λj h1 h2=>by omega⟩
  .rw[Z0e c]at h|-;obtain⟨a,b,d⟩:=C5y n (i+1) h;refine⟨by omega,by omega,λj h1 h2=>?_⟩;by_cases e:j=i
   .subst e;simpa using c
   .exact d j (by omega) h2
def C0m{s}:A2A s<=s.size/\∀j,j<A2A s->A1A 48 57 (A1I s j)=false:=by
 unfold A2A;by_cases c:A2a (A1A 48 57) s s.size 0<0
 .simp only[c,Z0F];exact⟨Z0n _,λj h=>B5x _ _ c j (by omega) (by omega)⟩
 .simp only[c,Z1j];obtain⟨a,b,d⟩:=C5y (p:=A1A 48 57) (s:=s) s.size 0 (by omega);exact⟨by omega,λj h=>d j (by omega) (by omega)⟩
def C5u{s}(h:A0X s=true):A4i s=true/\0<s.size:=by
 unfold A0X at h;simp only[Z0g,Z0m]at h;obtain⟨⟨⟨⟨h1,h2⟩,h3⟩,h4⟩,h5⟩:=h;obtain⟨d1,d2⟩:=C0m (s:=s);have hs:0<s.size:=by omega
 refine⟨?_,hs⟩;unfold A4i;have key:A5l (A1I s (s.size-1))=false:=by
  by_cases c:s.size-1<A2A s
  .have:=d2 _ c;simp only[A1A,Z2e,Z2i]at this;simp only[A5l,Z2e,Z2i];omega
  .have:=B5x _ _ h5 (s.size-1) (by omega) (by omega);simp only[A1A,Z2e,Z2i]at this;simp only[A5l,Z2e,Z2i];omega
 rw[key];simp
def C2l{s}(h:0<kS s):s∈A1x.drop 1:=by
 unfold kS A2y at h;by_cases c:s=⟨#[]⟩
 .rw[Z0d c]at h;omega
 .rw[Z0e c]at h;simp only[A1x,Z1X,Z1m,Z0u,Z2p,Z3F];simp only[A1x,C3p]at h;refine Z2I λhn=>?_;simp only[Z2L]at hn;obtain⟨a1,a2,a3,a4,a5,a6,a7⟩:=hn;rw[Z0e (Z2A c),Z0e (Z2A a1),Z0e (Z2A a2),Z0e (Z2A a3),Z0e (Z2A a4),Z0e (Z2A a5),Z0e (Z2A a6),Z0e (Z2A a7)]at h;omega
def B2a{s}(h:0<kP s):s∈A3w.drop 1/\s≠⟨#[]⟩:=by
 unfold kP A2y at h;by_cases c:s=⟨#[]⟩
 .rw[Z0d c]at h;omega
 .rw[Z0e c]at h;refine⟨?_,c⟩;simp only[A3w,Z1X,Z1m,Z0u,Z2p,Z3F];simp only[A3w,C3p]at h;refine Z2I λhn=>?_;simp only[Z2L]at hn;obtain⟨a1,a2,a3,a4,a5,a6,a7⟩:=hn;rw[Z0e (Z2A c),Z0e (Z2A a1),Z0e (Z2A a2),Z0e (Z2A a3),Z0e (Z2A a4),Z0e (Z2A a5),Z0e (Z2A a6),Z0e (Z2A a7)]at h;omega
def B9L:∀s∈A1x.drop 1,A4i s=true/\kP s=0/\1<=kS s/\kS s<=7/\s≠A3y/\s≠A6c/\s≠A6J/\s≠A3l:=by decide+kernel
def B9p:∀s∈A3w.drop 1,s≠⟨#[]⟩->A4i s=true/\kS s=0/\1<=kP s/\kP s<=7/\kP s≠6/\s≠A3y/\s≠A6c/\s≠A6J/\s≠A3l:=by decide+kernel
def A3G:A4i A3y=true/\A4i A6c=true/\A4i A9h=true/\A4i A6J=true/\A4i toW=true/\A4i A3l=true/\A3y≠A3l/\A6c≠A3l/\A6J≠A3l/\A6c≠A3y/\A6J≠A3y/\A6J≠A6c:=by decide+kernel
def C9l:¬0<kS A3y/\¬0<kS A6c/\¬0<kS A6J/\¬0<kS A3l/\¬0<kP A3y/\¬0<kP A6c/\¬0<kP A6J/\¬0<kP A3l:=by decide+kernel
def A3o:A0G:=⟨0,⟨#[]⟩⟩
def prs:Nat->List ByteArray->List A0G
 |n+1,a::b::r=>if 0<kS a/\A0X b=true then⟨kS a,b⟩::prs n r else[]
 |_,_=>[]
def A3K:List ByteArray->List A0G×List ByteArray
 |a::b::r=>if 0<kS a then(⟨kS a,b⟩::(A3K r).1,(A3K r).2)else([],a::b::r)
 |r=>([],r)
def bkN(w:List ByteArray):Nat:=match w with
 |[]=>0
 |a::_=>if a=A3l then 1 else 0
def bkS(w:List ByteArray):List A0G:=if bkN w=1 then[A3o]else[]
def A2E(w:List ByteArray):List A0G:=bkS w++prs (9-bkN w) (w.drop (bkN w))
def A0Y(w:List ByteArray):Nat:=bkN w+2*(prs (9-bkN w) (w.drop (bkN w))).length
def A2t(w:List ByteArray):Option (List A0G×Nat):=match w with
 |[]=>none
 |a::r=>if 0<kS a then some (⟨kS a,⟨#[]⟩⟩::prs 8 r,1+2*(prs 8 r).length)else none
def A3M(w:List ByteArray):Option (A0G×ByteArray):=match w with
 |a::b::c::d::_=>if 0<kP a/\A0X b=true/\c=toW/\A0X d=true then some (⟨kP a,b⟩,d)else none
 |_=>none
abbrev Cq:=Int×List A0G×ByteArray
def A2M(k:Int)(w:List ByteArray):Option (Cq×Nat):=if A0Y w=bkN w then none else some ((k,A2E w,⟨#[]⟩),A0Y w)
def B1m(w:List ByteArray):Option (Cq×Nat):=match w with
 |[]=>none
 |a::r=>
  if a=A3y then(A2t r).map λx=>((2,x.1,⟨#[]⟩),x.2+1)
  else if a=A6c then match r with
   |[]=>none
   |b::r2=>if b=A9h then(A2t r2).map λx=>((3,x.1,⟨#[]⟩),x.2+2)else none
  else if a=A6J then(A2M 4 r).map λx=>(x.1,x.2+1)
  else match A3M ((a::r).drop (A0Y (a::r)))with
   |some (s,d)=>if(A2E (a::r)).length<=8 then some ((1,A2E (a::r)++[s],d),A0Y (a::r)+4)else A2M 0 (a::r)
   |none=>A2M 0 (a::r)
def B0L(p:List A0G):Bool:=match p with
 |[]=>false
 |s::p'=>decide (s.lab=⟨#[]⟩)&&decide (1<=s.k)&&decide (s.k<=7)&&p'.all A1N
def C1B(p:List A0G):Int:=match p.getLast? with
 |none=>0
 |some s=>s.k
def A4g(k:Int)(p:List A0G)(to:ByteArray):Bool:=decide (p.length<=9)&&(if k=0\/k=4 then decide (to=⟨#[]⟩)&&A4u p else if k=1 then A0X to&&A4u p&&decide (C1B p≠6)else if k=2\/k=3 then decide (to=⟨#[]⟩)&&B0L p else false)
def A2v(w:List ByteArray):Int×List A0G×List ByteArray:=match w with
 |a::b::c::r=>if a=A3y/\0<kS b then(2,[⟨kS b,⟨#[]⟩⟩],c::r)else if a=A6c/\b=A9h/\0<kS c then(3,[⟨kS c,⟨#[]⟩⟩],r)else if a=A6J then(4,[],b::c::r)else(0,[],a::b::c::r)
 |[a,b]=>if a=A3y/\0<kS b then(2,[⟨kS b,⟨#[]⟩⟩],[])else if a=A6J then(4,[],[b])else(0,[],[a,b])
 |[a]=>if a=A6J then(4,[],[])else(0,[],[a])
 |[]=>(0,[],[])
def A7O(k:Int)(w:List ByteArray):List A0G×List ByteArray:=if k=2\/k=3 then([],w)else(bkS w,w.drop (bkN w))
def A6M(k:Int)(p:List A0G)(r:List ByteArray):Cq×List ByteArray:=match r with
 |[a,b,c,d]=>if k=0/\0<kP a/\c=toW then((1,p++[⟨kP a,b⟩],d),[])else((k,p,⟨#[]⟩),r)
 |_=>((k,p,⟨#[]⟩),r)
def B3P(x:Cq×List ByteArray):Option Cq:=if x.2=[]/\A4g x.1.1 x.1.2.1 x.1.2.2=true then some x.1 else none
def A2d(k:Int)(p:List A0G)(w:List ByteArray):Option Cq:=B3P (A6M k (p++(A7O k w).1++(A3K (A7O k w).2).1) (A3K (A7O k w).2).2)
def A4p(w:List ByteArray):Option Cq:=A2d (A2v w).1 (A2v w).2.1 (A2v w).2.2
def A3F:∀n w,(prs n w).all A1N=true/\(prs n w).length<=n/\2*(prs n w).length<=w.length
 |0,w=>by cases w<;>simp[prs]
 |n+1,[]=>by simp[prs]
 |n+1,[a]=>by simp[prs]
 |n+1,a::b::r=>by
  unfold prs;split
  .rename_i h;obtain⟨h1,h2,h3⟩:=A3F n r;obtain⟨f1,f2,f3,f4,-⟩:=B9L a (C2l h.1);refine⟨?_,by simp;omega,by simp;omega⟩;rw[Z1C,h1,Z3J];simp[A1N,f3,f4,h.2]
  .simp
def B3X:∀n w,A3K (w.take (2*(prs n w).length))=(prs n w,[])
 |0,w=>by cases w<;>simp[prs,A3K]
 |n+1,[]=>by simp[prs,A3K]
 |n+1,[a]=>by simp[prs,A3K]
 |n+1,a::b::r=>by
  unfold prs;split
  .rename_i h;have:=B3X n r;rw[Z0v,show 2*((prs n r).length+1)=2*(prs n r).length+2 from by omega,Z0A,Z0A];unfold A3K;rw[Z0d h.1,this]
  .simp[A3K]
def C5j:∀w,w.length=2*(A3K w).1.length+(A3K w).2.length
 |[]=>by simp[A3K]
 |[a]=>by simp[A3K]
 |a::b::r=>by
  unfold A3K;split
  .have:=C5j r;simp;omega
  .simp
def C1M{a b:ByteArray}{r:List ByteArray}{i:Nat}(h:2<=i):(a::b::r).take i=a::b::r.take (i-2):=by obtain⟨j,rfl⟩:∃j,i=j+2:=⟨i-2,by omega⟩;simp
def B8p:∀n w i,i<=w.length->(A3K (w.take i)).2=[]->(A3K (w.take i)).1.all A1N=true->(A3K (w.take i)).1.length<=n->i<=2*(prs n w).length
 |n,w,0,_,_,_,_=>by omega
 |n,[],i+1,h,_,_,_=>by simp at h
 |n,w,1,h,hr,_,_=>by
  cases w with
  |nil=>simp at h
  |cons a r=>simp[A3K]at hr
 |n,[a],i+2,h,_,_,_=>by simp at h
 |n,a::b::r,i+2,h,hr,ha,hl=>by
  rw[C1M (by omega)]at hr ha hl;simp only[Nat.add_sub_cancel]at hr ha hl;unfold A3K at hr ha hl;by_cases c:0<kS a
  .rw[Z0d c]at hr ha hl;simp only[Z1C,Z0g,Z0v]at ha hl hr;cases n with
   |zero=>omega
   |succ n=>
    (have hb:A0X b=true:=by have:=ha.1;simp only[A1N,Z0g]at this;exact this.2);unfold prs
    rw[Z0d ⟨c,hb⟩];have:=B8p n r i (by simp at h;omega) hr ha.2 (by omega);simp;omega
  .rw[Z0e c]at hr;simp at hr
def B7N:∀n w i (a b c d:ByteArray),i<=w.length->(A3K (w.take i)).2=[a,b,c,d]->0<kP a->(A3K (w.take i)).1.all A1N=true->(A3K (w.take i)).1.length<=n->
 (A3K (w.take i)).1=prs (n+1) w/\i=2*(prs (n+1) w).length+4/\∃r,w.drop (2*(prs (n+1) w).length)=a::b::c::d::r
 |n,w,0,a,b,c,d,_,hr,_,_,_=>by simp[A3K]at hr
 |n,[],i+1,a,b,c,d,h,_,_,_,_=>by simp at h
 |n,w,1,a,b,c,d,h,hr,_,_,_=>by
  cases w with
  |nil=>simp at h
  |cons a r=>simp[A3K]at hr
 |n,[x],i+2,a,b,c,d,h,_,_,_,_=>by simp at h
 |n,x::y::r,i+2,a,b,c,d,h,hr,hp,ha,hl=>by
  rw[C1M (by omega)]at hr ha hl|-;simp only[Nat.add_sub_cancel]at hr ha hl|-;unfold A3K at hr ha hl|-;by_cases e:0<kS x
  .rw[Z0d e]at hr ha hl|-;simp only[Z1C,Z0g,Z0v]at ha hl hr;cases n with
   |zero=>omega
   |succ n=>
    (have hb:A0X y=true:=by have:=ha.1;simp only[A1N,Z0g]at this;exact this.2);obtain⟨h1,h2,t,h3⟩:=B7N n r i a b c d (by simp at h;omega) hr hp ha.2 (by omega)
    (have he:prs (n+1+1) (x::y::r)=⟨kS x,y⟩::prs (n+1) r:=by rw[prs];rw[Z0d ⟨e,hb⟩]);rw[he]
    refine⟨by rw[h1],by simp;omega,t,?_⟩;rw[Z0v,show 2*((prs (n+1) r).length+1)=2*(prs (n+1) r).length+2 from by omega,Z1X,Z1X,h3]
  .rw[Z0e e]at hr ha hl|-;simp only[Z1d]at hr;obtain⟨rfl,rfl,hr⟩:=hr;(have he:prs (n+1) (x::y::r)=[]:=by rw[prs];rw[Z0e λhh=>e hh.1]);rw[he];have f:=congrArg List.length hr;simp at f h;refine⟨rfl,by simp;omega,r.drop 2,?_⟩;(have:i=2:=by omega);subst this;have h4:r=r.take 2++r.drop 2:=(Z0X 2 r).symm;simp only[Z1z,Nat.mul_zero,Z1m]
   conv=>lhs;rw[h4,hr]
   rfl
def C7Y:∀n w (a b c d:ByteArray) r,w.drop (2*(prs n w).length)=a::b::c::d::r->0<kP a->A3K (w.take (2*(prs n w).length+4))=(prs n w,[a,b,c,d]):=by
 have base:∀(w:List ByteArray) (a b c d:ByteArray) r,w=a::b::c::d::r->0<kP a->A3K (w.take 4)=([],[a,b,c,d]):=by rintro w a b c d r rfl hp;have:=(B9p a (B2a hp).1 (B2a hp).2).2.1;simp only[Z0A,Z2r];unfold A3K;rw[Z0e (by omega)]
 intro n;induction n with
 |zero=>
  intro w a b c d r h hp;have e:prs 0 w=[]:=by cases w<;>simp[prs]
  rw[e]at h|-;exact base w a b c d r h hp
 |succ n ih=>
  intro w a b c d r h hp
  match w,h with
  |[],h=>simp[prs]at h
  |[x],h=>simp[prs]at h
  |x::y::w',h=>
   by_cases e:0<kS x/\A0X y=true
   ·(have he:prs (n+1) (x::y::w')=⟨kS x,y⟩::prs n w':=by rw[prs];rw[Z0d e]);rw[he,Z0v,show 2*((prs n w').length+1)=2*(prs n w').length+2 from by omega]at h|-
    rw[Z1X,Z1X]at h;rw[show 2*(prs n w').length+2+4=(2*(prs n w').length+4)+2 from by omega,Z0A,Z0A];unfold A3K;rw[Z0d e.1,ih w' a b c d r h hp]
   ·(have he:prs (n+1) (x::y::w')=[]:=by rw[prs];rw[Z0e e]);rw[he]at h|-
    exact base _ a b c d r h hp
def B4m:∀w,∀s∈(A3K w).1,0<s.k
 |[]=>by simp[A3K]
 |[a]=>by simp[A3K]
 |a::b::r=>by
  unfold A3K;split
  .rename_i h;intro s hs;simp only[Z0u]at hs;rcases hs with rfl|hs
   .exact h
   .exact B4m r s hs
  .simp
def B5M(w:List ByteArray):bkN w<=1:=by
 unfold bkN;split
 .omega
 .split<;>omega
def B0A(w:List ByteArray):(bkS w).length=bkN w:=by
 have:=B5M w;unfold bkS;split
 .simp;omega
 .simp;omega
def C3Y{w}{ps}(h:∀s∈ps,0<s.k):A4u (bkS w++ps)=(!ps.isEmpty&&ps.all A1N):=by
 have e:B4H (bkS w++ps)=ps:=by
  unfold bkS;split
  .rfl
  .cases ps with
   |nil=>rfl
   |cons s ps=>have:=h s (by simp);(have hb:A5L s=false:=by unfold A5L;rw[Z0z (by omega)];rfl);simp[B4H,hb]
 unfold A4u;rw[e];cases ps<;>simp
def B2k{k}(hk:k=0\/k=4){w}{ps}(h:∀s∈ps,0<s.k):B3P ((k,bkS w++ps,⟨#[]⟩),[])=if ps≠[]/\ps.all A1N=true/\bkN w+ps.length<=9 then some (k,bkS w++ps,⟨#[]⟩)else none:=by
 unfold B3P A4g
 simp only[Z0d hk,C3Y h,Z0q,B0A,decide_true,Z0J,Z0g,Z0m,Z2n]
 by_cases c:ps=[]
 .subst c;simp
 .have:ps.isEmpty=false:=by cases ps<;>simp_all
  simp only[this,Z2f,Z2n,c,not_false_iff,ne_eq];by_cases c2:ps.all A1N=true<;>by_cases c3:bkN w+ps.length<=9<;>simp[c2,c3]
def B5z{w}{ps}(h:∀s∈ps,0<s.k){a b d}(ha:0<kP a):B3P ((1,bkS w++ps++[⟨kP a,b⟩],d),[])=if ps.all A1N=true/\bkN w+ps.length<=8/\A0X b=true/\A0X d=true then some (1,bkS w++ps++[⟨kP a,b⟩],d)else none:=by
 obtain⟨-,-,f1,f2,f3,-⟩:=B9p a (B2a ha).1 (B2a ha).2
 have c:A4u (bkS w++(ps++[⟨kP a,b⟩]))=(!(ps++[(⟨kP a,b⟩:A0G)]).isEmpty&&(ps++[(⟨kP a,b⟩:A0G)]).all A1N):=C3Y λs hs=>by
  simp only[Z0V,Z1k]at hs;rcases hs with hs|rfl
  .exact h s hs
  .exact ha
 have e1:(ps++[(⟨kP a,b⟩:A0G)]).isEmpty=false:=by cases ps<;>rfl
 have e2:A1N ⟨kP a,b⟩=A0X b:=by simp[A1N,f1,f2]
 have e3:C1B (bkS w++ps++[(⟨kP a,b⟩:A0G)])=kP a:=by simp[C1B]
 unfold B3P A4g
 rw[e3]
 simp only[show¬((1:Int)=0\/(1:Int)=4)from by omega,Z1j,Z0F,Z0W,c,e1,List.all_append,Z1C,Z3X,Z3J,e2,Z0q,B0A,Z0v,Z1z,Z2f,Z0J,Z0w f3,Z0g,Z0m,Z2n,f3,ne_eq,not_false_iff,Z1O]
 by_cases c4:bkN w+ps.length<=8
 .have c5:bkN w+(ps.length+(0+1))<=9:=by omega
  by_cases c1:ps.all A1N=true<;>by_cases c2:A0X b=true<;>by_cases c3:A0X d=true<;>simp only[c1,c2,c3,c4,c5,Z3V,Z1O,Z2n,Z3Z,and_false,Z0F,Z1j,Z0I]
 .have c5:¬bkN w+(ps.length+(0+1))<=9:=by omega
  simp only[c4,c5,Z3Z,and_false,Z1j]
def C9q{w}{i}(h:1<=i):bkN (w.take i)=bkN w:=by obtain⟨j,rfl⟩:∃j,i=j+1:=⟨i-1,by omega⟩;cases w<;>simp[bkN]
def C2W{k}(hk:k=0\/k=4)(w:List ByteArray){i}(h:1<=i):A2d k [] (w.take i)=B3P (A6M k (bkS w++(A3K ((w.drop (bkN w)).take (i-bkN w))).1) (A3K ((w.drop (bkN w)).take (i-bkN w))).2):=by
 have h2:¬(k=2\/k=3):=by omega
 unfold A2d A7O
 simp only[Z0e h2]
 have e:bkS (w.take i)=bkS w:=by unfold bkS;rw[C9q h]
 rw[C9q h,e,Z1Y,Z3i]
def B3F{k}{p}{r}(h:¬∃a b c d,r=[a,b,c,d]/\k=0/\0<kP a/\c=toW):A6M k p r=((k,p,⟨#[]⟩),r):=by
 unfold A6M;split
 .rename_i a b c d;rw[Z0e λhh=>h ⟨a,b,c,d,rfl,hh⟩]
 .rfl
def C1w{k}(hk:k=0\/k=4)(w:List ByteArray){i}(h:1<=i)(hw:i<=w.length){x}(hx:A2d k [] (w.take i)=some x):(i<=A0Y w/\bkN w<A0Y w)\/(k=0/\∃s d,A3M (w.drop (A0Y w))=some (s,d)/\(A2E w).length<=8/\i=A0Y w+4):=by
 have hb:=B5M w
 rw[C2W hk w h]at hx
 have e:=B4m ((w.drop (bkN w)).take (i-bkN w))
 by_cases c:∃a b c d,(A3K ((w.drop (bkN w)).take (i-bkN w))).2=[a,b,c,d]/\k=0/\0<kP a/\c=toW
 .obtain⟨a,b,c,d,hr,rfl,hp,rfl⟩:=c;right;rw[hr]at hx;simp only[A6M,hp,Z3V,Z0F]at hx;rw[B5z e hp]at hx;split at hx
  .rename_i hc;obtain⟨c1,c2,c3,c4⟩:=hc;obtain⟨e1,e2,r,e3⟩:=B7N (8-bkN w) (w.drop (bkN w)) (i-bkN w) a b toW d (by simp;omega) hr hp c1 (by omega);rw[show 8-bkN w+1=9-bkN w from by omega]at e1 e2 e3;(have e4:w.drop (A0Y w)=a::b::toW::d::r:=by rw[<-e3,Z1R];rfl);refine⟨rfl,⟨kP a,b⟩,d,?_,?_,?_⟩
   .rw[e4];simp[A3M,hp,c3,c4]
   .unfold A2E;rw[Z0q,B0A,<-e1];omega
   .unfold A0Y;omega
  .exact absurd hx (by simp)
 .left;rw[B3F c]at hx;by_cases cr:(A3K ((w.drop (bkN w)).take (i-bkN w))).2=[]
  .rw[cr,B2k hk e]at hx;split at hx
   .rename_i hc;obtain⟨c1,c2,c3⟩:=hc;have:=B8p (9-bkN w) (w.drop (bkN w)) (i-bkN w) (by simp;omega) cr c2 (by omega);have f:=C5j ((w.drop (bkN w)).take (i-bkN w));rw[cr]at f;have:0<(A3K ((w.drop (bkN w)).take (i-bkN w))).1.length:=Z2k.2 c1;(have g:((w.drop (bkN w)).take (i-bkN w)).length=i-bkN w:=by simp;omega);unfold A0Y;simp only[Z1z]at f;omega
   .exact absurd hx (by simp)
  .simp only[B3P,cr,Z3Z,Z1j]at hx;exact absurd hx (by simp)
def B8b(w:List ByteArray):A0Y w<=w.length/\A0Y w<=18:=by
 obtain⟨h1,h2,h3⟩:=A3F (9-bkN w) (w.drop (bkN w));have:=B5M w;have hb:bkN w<=w.length:=by cases w<;>simp[bkN];split<;>omega
 simp at h3;unfold A0Y;omega
def B8u{k}(hk:k=0\/k=4)(w:List ByteArray)(h:bkN w<A0Y w):A2d k [] (w.take (A0Y w))=some (k,A2E w,⟨#[]⟩):=by
 obtain⟨h1,h2,h3⟩:=A3F (9-bkN w) (w.drop (bkN w));have hb:=B5M w;have hn:0<(prs (9-bkN w) (w.drop (bkN w))).length:=by unfold A0Y at h;omega
 rw[C2W hk w (by omega),show A0Y w-bkN w=2*(prs (9-bkN w) (w.drop (bkN w))).length from by unfold A0Y;omega,B3X];rw[B3F (by rintro⟨a,b,c,d,e,-⟩;simp at e)];have f:=B4m ((w.drop (bkN w)).take (2*(prs (9-bkN w) (w.drop (bkN w))).length));rw[B3X]at f;rw[B2k hk f,Z0d ⟨Z2k.1 hn,h1,by show bkN w+(prs (9-bkN w) (w.drop (bkN w))).length<=9;omega⟩];rfl
def C7t(w:List ByteArray){s}{d}(h:A3M (w.drop (A0Y w))=some (s,d))(hl:(A2E w).length<=8):A2d 0 [] (w.take (A0Y w+4))=some (1,A2E w++[s],d)/\A0Y w+4<=w.length:=by
 obtain⟨h1,h2,h3⟩:=A3F (9-bkN w) (w.drop (bkN w))
 have hb:=B5M w
 unfold A3M at h
 split at h
 .rename_i a b c d' r hd;split at h
  .rename_i hc;obtain⟨c1,c2,rfl,c4⟩:=hc;simp only[Z0a,Z0c]at h;obtain⟨rfl,rfl⟩:=h;have i:=congrArg List.length hd;simp at i;refine⟨?_,by omega⟩;(have f:(w.drop (bkN w)).drop (2*(prs (9-bkN w) (w.drop (bkN w))).length)=a::b::toW::d'::r:=by rw[Z1R];exact hd);have hr:=C7Y _ _ a b toW d' r f c1;rw[C2W (.inl rfl) w (by omega),show A0Y w+4-bkN w=2*(prs (9-bkN w) (w.drop (bkN w))).length+4 from by unfold A0Y;omega];have e:=B4m ((w.drop (bkN w)).take (2*(prs (9-bkN w) (w.drop (bkN w))).length+4));rw[hr]at e|-;simp only[A6M,c1,Z3V,Z0F];(have g:bkN w+(prs (9-bkN w) (w.drop (bkN w))).length<=8:=by unfold A2E at hl;rw[Z0q,B0A]at hl;exact hl);rw[B5z e c1,Z0d ⟨h1,g,c2,c4⟩];rfl
  .exact absurd h (by simp)
 .exact absurd h (by simp)
def C5g{k}(hk:k=2\/k=3){b}(hb:0<kS b)(ps:List A0G)(r:List ByteArray):B3P ((k,⟨kS b,⟨#[]⟩⟩::ps,⟨#[]⟩),r)=if r=[]/\ps.all A1N=true/\ps.length<=8 then some (k,⟨kS b,⟨#[]⟩⟩::ps,⟨#[]⟩)else none:=by
 obtain⟨-,-,f1,f2,-⟩:=B9L b (C2l hb)
 have h1:¬(k=0\/k=4):=by omega
 have h2:¬k=1:=by omega
 unfold B3P A4g B0L
 simp only[Z0e h1,Z0e h2,Z0d hk,f1,f2,decide_true,Z0J,Z3J,Z0g,Z0m,Z0v]
 by_cases c1:r=[]<;>by_cases c2:ps.all A1N=true<;>by_cases c3:ps.length<=8<;>simp[c1,c2,c3]
def C1d{k}(hk:k=2\/k=3){b}(hb:0<kS b)(v:List ByteArray):A2d k [⟨kS b,⟨#[]⟩⟩] v=if(A3K v).2=[]/\(A3K v).1.all A1N=true/\(A3K v).1.length<=8 then some (k,⟨kS b,⟨#[]⟩⟩::(A3K v).1,⟨#[]⟩)else none:=by
 unfold A2d A7O
 simp only[Z0d hk,Z1D,List.singleton_append]
 rw[B3F (by rintro⟨a,b,c,d,-,e,-⟩;omega),C5g hk hb]
def C0x{k}(hk:k=2\/k=3){b}(hb:0<kS b)(r:List ByteArray){i}(hi:i<=r.length){x}(hx:A2d k [⟨kS b,⟨#[]⟩⟩] (r.take i)=some x):i<=2*(prs 8 r).length:=by
 rw[C1d hk hb]at hx;split at hx
 .rename_i h;exact B8p 8 r i hi h.1 h.2.1 h.2.2
 .exact absurd hx (by simp)
def C9T{k}(hk:k=2\/k=3){b}(hb:0<kS b)(r:List ByteArray):A2d k [⟨kS b,⟨#[]⟩⟩] (r.take (2*(prs 8 r).length))=some (k,⟨kS b,⟨#[]⟩⟩::prs 8 r,⟨#[]⟩):=by obtain⟨h1,h2,h3⟩:=A3F 8 r;rw[C1d hk hb,B3X];rw[Z0d ⟨rfl,h1,h2⟩]
def C1q{a}{x}(h1:¬0<kS a)(h2:¬0<kP a)(h3:a≠A3l):A2d 0 [] (a::x)=none:=by
 have hb:bkN (a::x)=0:=by simp[bkN,h3]
 have hq:A3K (a::x)=([],a::x):=by
  cases x with
  |nil=>rfl
  |cons b r=>unfold A3K;rw[Z0e h1]
 unfold A2d A7O;simp only[show¬((0:Int)=2\/(0:Int)=3)from by omega,Z1j,hb,Z1m,hq];rw[B3F]
 .simp[B3P]
 .rintro⟨a',b,c,d,e,-,e2,-⟩;simp only[Z1d]at e;rw[<-e.1]at e2;exact h2 e2
def B4g{k}(hk:k=0\/k=4):A2d k [] []=none:=by
 have h2:¬(k=2\/k=3):=by omega
 have:=@B2k k hk [] [] (by simp);simp only[bkS,bkN]at this;unfold A2d A7O;simp only[Z0e h2,bkN,Z4m,A3K,bkS];simpa[A6M]using this
def D1O{b}{x}(hb:0<kS b):A2v (A3y::b::x)=(2,[⟨kS b,⟨#[]⟩⟩],x):=by cases x<;>simp[A2v,hb]
def C7w{b}{x}(hb:¬0<kS b):A2v (A3y::b::x)=(0,[],A3y::b::x):=by have h1:A3y≠A6c:=λe=>A3G.2.2.2.2.2.2.2.2.2.1 e.symm;have h2:A3y≠A6J:=λe=>A3G.2.2.2.2.2.2.2.2.2.2.1 e.symm;cases x<;>simp[A2v,hb,h1,h2]
def D0D{c}{x}(hc:0<kS c):A2v (A6c::A9h::c::x)=(3,[⟨kS c,⟨#[]⟩⟩],x):=by have h1:A6c≠A3y:=A3G.2.2.2.2.2.2.2.2.2.1;simp[A2v,hc,h1]
def D1N{x}(h:¬∃c y,x=A9h::c::y/\0<kS c):A2v (A6c::x)=(0,[],A6c::x):=by
 have h1:A6c≠A3y:=A3G.2.2.2.2.2.2.2.2.2.1;have h2:A6c≠A6J:=λe=>A3G.2.2.2.2.2.2.2.2.2.2.2 e.symm
 match x,h with
 |[],h=>simp[A2v,h2]
 |[b],h=>simp[A2v,h1,h2]
 |b::c::y,h=>have:¬(b=A9h/\0<kS c):=λhh=>h ⟨c,y,by rw[hh.1],hh.2⟩;simp[A2v,h1,h2];intro e1;exact Int.not_lt.1 λh=>this ⟨e1,h⟩
def D4B{x}:A2v (A6J::x)=(4,[],x):=by
 have h1:A6J≠A3y:=A3G.2.2.2.2.2.2.2.2.2.2.1;have h2:A6J≠A6c:=A3G.2.2.2.2.2.2.2.2.2.2.2
 match x with
 |[]=>simp[A2v]
 |[b]=>simp[A2v,h1]
 |b::c::y=>simp[A2v,h1,h2]
def D1E{a}{x}(h1:a≠A3y)(h2:a≠A6c)(h3:a≠A6J):A2v (a::x)=(0,[],a::x):=by
 match x with
 |[]=>simp[A2v,h3]
 |[b]=>simp[A2v,h1,h3]
 |b::c::y=>simp[A2v,h1,h2,h3]
def E1n(w:List ByteArray)(g:Option (Cq×Nat))(f:List ByteArray->Option Cq):Prop:=match g with
 |some (c,n)=>f (w.take n)=some c/\0<n/\n<=w.length/\n<=23/\∀i,n<i->i<=w.length->f (w.take i)=none
 |none=>∀i,i<=w.length->f (w.take i)=none
def A8A{α:Type}{o:Option α}(h:∀x,o≠some x):o=none:=by
 cases o with
 |none=>rfl
 |some x=>exact absurd rfl (h x)
def B3k(w:List ByteArray):∀i,i<=w.length->(∀s d,A3M (w.drop (A0Y w))=some (s,d)->(A2E w).length<=8->i≠A0Y w+4)->(bkN w=A0Y w\/A0Y w<i)->A2d 0 [] (w.take i)=none:=by
 intro i hi hr hp;refine A8A λx hx=>?_;cases i with
 |zero=>rw[Z2r,B4g (.inl rfl)]at hx;exact absurd hx (by simp)
 |succ i=>
  rcases C1w (.inl rfl) w (by omega) hi hx with⟨h1,h2⟩|⟨-,s,d,h1,h2,h3⟩
  .omega
  .exact hr s d h1 h2 h3
def C6i(w:List ByteArray):∀i,i<=w.length->(bkN w=A0Y w\/A0Y w<i)->A2d 4 [] (w.take i)=none:=by
 intro i hi hp;refine A8A λx hx=>?_;cases i with
 |zero=>rw[Z2r,B4g (.inr rfl)]at hx;exact absurd hx (by simp)
 |succ i=>
  rcases C1w (.inr rfl) w (by omega) hi hx with⟨h1,h2⟩|⟨h0,-⟩
  .omega
  .omega
def B3G(w:List ByteArray):bkN w<=A0Y w:=by unfold A0Y;omega
def B7D(a:ByteArray)(r:List ByteArray):B1m (a::r)=(
 (if a=A3y then(A2t r).map λx=>((2,x.1,⟨#[]⟩),x.2+1)
 else if a=A6c then match r with
  |[]=>none
  |b::r2=>if b=A9h then(A2t r2).map λx=>((3,x.1,⟨#[]⟩),x.2+2)else none
 else if a=A6J then(A2M 4 r).map λx=>(x.1,x.2+1)
 else match A3M ((a::r).drop (A0Y (a::r)))with
  |some (s,d)=>if(A2E (a::r)).length<=8 then some ((1,A2E (a::r)++[s],d),A0Y (a::r)+4)else A2M 0 (a::r)
  |none=>A2M 0 (a::r)):Option (Cq×Nat)):=rfl
def C2V(w:List ByteArray):E1n w (B1m w) A4p:=by
 obtain⟨t1,t2,t3,t4,t5,t6,t7,t8⟩:=C9l;obtain⟨-,-,-,-,-,-,b1,b2,b3,-⟩:=A3G;cases w with
 |nil=>intro i hi;rw[List.take_nil];exact B4g (.inl rfl)
 |cons a r=>
  have z:A4p []=none:=B4g (.inl rfl);rw[B7D];by_cases c1:a=A3y
  .subst c1;rw[Z0d rfl];have f:∀x,A2d 0 [] (A3y::x)=none:=λx=>C1q t1 t5 b1;cases r with
   |nil=>
    intro i hi
    match i,hi with
    |0,_=>exact z
    |1,_=>exact f []
    |i+2,hi=>simp at hi
   |cons b r=>
    by_cases c2:0<kS b
    .simp only[A2t,Z0d c2,Z0M];(have hx:∀i,A4p ((A3y::b::r).take (i+2))=A2d 2 [⟨kS b,⟨#[]⟩⟩] (r.take i):=λi=>by rw[Z0A,Z0A];unfold A4p;rw[D1O c2]);obtain⟨h1,h2,h3⟩:=A3F 8 r;refine⟨?_,by omega,by simp;omega,by omega,λi h4 h5=>?_⟩
     .rw[show 1+2*(prs 8 r).length+1=2*(prs 8 r).length+2 from by omega,hx];exact C9T (.inl rfl) c2 r
     .obtain⟨j,rfl⟩:∃j,i=j+2:=⟨i-2,by omega⟩;rw[hx];refine A8A λx he=>?_;have:=C0x (.inl rfl) c2 r (by simp at h5;omega) he;omega
    .simp only[A2t,Z0e c2,Option.map_none];intro i hi
     match i,hi with
     |0,_=>exact z
     |1,_=>exact f []
     |i+2,hi=>rw[Z0A,Z0A];unfold A4p;rw[C7w c2];exact f _
  .rw[Z0e c1];by_cases c2:a=A6c
   .subst c2;rw[Z0d rfl];have f:∀x,A2d 0 [] (A6c::x)=none:=λx=>C1q t2 t6 b2;(have no:∀x,(¬∃c y,x=A9h::c::y/\0<kS c)->A4p (A6c::x)=none:=λx h=>by unfold A4p;rw[D1N h];exact f x);cases r with
    |nil=>
     intro i hi
     match i,hi with
     |0,_=>exact z
     |i+1,_=>rw[Z0A];exact no _ (by rintro⟨c,y,e,-⟩;simp at e)
    |cons b r=>
     by_cases c3:b=A9h
     .subst c3;simp only[Z0F];cases r with
      |nil=>
       intro i hi
       match i,hi with
       |0,_=>exact z
       |i+1,_=>rw[Z0A];refine no _ ?_;rintro⟨c,y,e,-⟩;have:=congrArg List.length e;simp at this;omega
      |cons c r=>
       by_cases c4:0<kS c
       .simp only[A2t,Z0d c4,Z0M];(have hx:∀i,A4p ((A6c::A9h::c::r).take (i+3))=A2d 3 [⟨kS c,⟨#[]⟩⟩] (r.take i):=λi=>by rw[Z0A,Z0A,Z0A];unfold A4p;rw[D0D c4]);obtain⟨h1,h2,h3⟩:=A3F 8 r;refine⟨?_,by omega,by simp;omega,by omega,λi h4 h5=>?_⟩
        .rw[show 1+2*(prs 8 r).length+2=2*(prs 8 r).length+3 from by omega,hx];exact C9T (.inr rfl) c4 r
        .obtain⟨j,rfl⟩:∃j,i=j+3:=⟨i-3,by omega⟩;rw[hx];refine A8A λx he=>?_;have:=C0x (.inr rfl) c4 r (by simp at h5;omega) he;omega
       .simp only[A2t,Z0e c4,Option.map_none];intro i hi
        match i,hi with
        |0,_=>exact z
        |i+1,_=>
         rw[Z0A];refine no _ ?_;rintro⟨c',y,e,e2⟩
         match i,e with
         |0,e=>simp at e
         |1,e=>simp at e
         |i+2,e=>rw[Z0A,Z0A]at e;simp only[Z1d]at e;rw[e.2.1]at c4;exact c4 e2
     .simp only[Z0e c3];intro i hi
      match i,hi with
      |0,_=>exact z
      |1,_=>exact no [] (by rintro⟨c,y,e,-⟩;simp at e)
      |i+2,_=>rw[Z0A,Z0A];refine no _ ?_;rintro⟨c,y,e,-⟩;simp only[Z1d]at e;exact c3 e.1
   .rw[Z0e c2];by_cases c3:a=A6J
    .subst c3;rw[Z0d rfl];(have hx:∀i,A4p ((A6J::r).take (i+1))=A2d 4 [] (r.take i):=λi=>by rw[Z0A];unfold A4p;rw[D4B]);obtain⟨h1,h2⟩:=B8b r;have hb:=B3G r;unfold A2M;by_cases c4:A0Y r=bkN r
     .rw[Z0d c4];intro i hi;cases i with
      |zero=>exact z
      |succ i=>rw[hx];exact C6i r i (by simpa using hi) (.inl c4.symm)
     .rw[Z0e c4];refine⟨?_,by simp,by simp;omega,by simp;omega,λi h4 h5=>?_⟩
      .rw[hx];exact B8u (.inr rfl) r (by omega)
      .simp at h4;obtain⟨j,rfl⟩:∃j,i=j+1:=⟨i-1,by omega⟩;rw[hx];exact C6i r j (by simpa using h5) (.inr (by omega))
    .rw[Z0e c3];(have hx:∀i,1<=i->A4p ((a::r).take i)=A2d 0 [] ((a::r).take i):=λi h=>by obtain⟨j,rfl⟩:∃j,i=j+1:=⟨i-1,by omega⟩;rw[Z0A];unfold A4p;rw[D1E c1 c2 c3]);have k:∀i,A2d 0 [] ((a::r).take i)=none->A4p ((a::r).take i)=none:=λi h=>by
      cases i with
      |zero=>exact z
      |succ i=>rw[hx _ (by omega)];exact h
     generalize a::r=w at*;obtain⟨h1,h2⟩:=B8b w;have hb:=B3G w;have g:(∀s d,A3M (w.drop (A0Y w))=some (s,d)->¬(A2E w).length<=8)->E1n w (A2M 0 w) A4p:=by
      intro hr;unfold A2M;by_cases c4:A0Y w=bkN w
      .rw[Z0d c4];intro i hi;exact k i (B3k w i hi (λs d e e2=>absurd e2 (hr s d e)) (.inl c4.symm))
      .rw[Z0e c4];refine⟨?_,by omega,h1,by omega,λi h4 h5=>?_⟩
       .rw[hx _ (by omega)];exact B8u (.inl rfl) w (by omega)
       .exact k i (B3k w i h5 (λs d e e2=>absurd e2 (hr s d e)) (.inr h4))
     split
     .rename_i s d e;by_cases c5:(A2E w).length<=8
      .rw[Z0d c5];obtain⟨g1,g2⟩:=C7t w e c5;refine⟨?_,by omega,g2,by omega,λi h4 h5=>?_⟩
       .rw[hx _ (by omega)];exact g1
       .exact k i (B3k w i h5 (λs d e e2=>by omega) (.inr (by omega)))
      .rw[Z0e c5];exact g λs' d' e'=>c5
     .rename_i e;exact g λs' d' e'=>absurd e' (by rw[e];simp)
def B4Z:List ByteArray->List ByteArray
 |[]=>[]
 |s::r=>B7f s::(if A4i s then B4Z r else[])
def B8n:∀L,(B4Z L).length<=L.length
 |[]=>by simp[B4Z]
 |s::r=>by have:=B8n r;unfold B4Z;split<;>simp;omega
def A1X(i:Nat)(w:List ByteArray):Option (Cq×Nat):=match i with
 |0=>A2M 0 w
 |1=>match A3M (w.drop (A0Y w))with
  |some (s,d)=>if(A2E w).length<=8 then some ((1,A2E w++[s],d),A0Y w+4)else none
  |none=>none
 |2=>match w with
  |a::r=>if a=A3y then(A2t r).map λx=>((2,x.1,⟨#[]⟩),x.2+1)else none
  |[]=>none
 |3=>match w with
  |a::b::r=>if a=A6c/\b=A9h then(A2t r).map λx=>((3,x.1,⟨#[]⟩),x.2+2)else none
  |_=>none
 |_=>match w with
  |a::r=>if a=A6J then(A2M 4 r).map λx=>(x.1,x.2+1)else none
  |[]=>none
def B3q(o:Option (Cq×Nat)):Nat:=match o with
 |some (_,n)=>n
 |none=>0
def A5K(a b:Option (Cq×Nat)):Option (Cq×Nat):=match b with
 |some (c,n)=>if B3q a<n then some (c,n)else a
 |none=>a
def A4y(w:List ByteArray):Nat->Option (Cq×Nat)
 |0=>none
 |i+1=>A5K (A4y w i) (A1X i w)
def B2X{k}{a}{r}(h1:¬0<kS a)(h2:a≠A3l):A2M k (a::r)=none:=by
 have hb:bkN (a::r)=0:=by simp[bkN,h2]
 have hp:∀n,prs n (a::r)=[]:=λn=>by
  cases n with
  |zero=>simp[prs]
  |succ n=>
   cases r with
   |nil=>simp[prs]
   |cons b r=>rw[prs,Z0e λh=>h1 h.1]
 unfold A2M A0Y;rw[hb,Z1m,hp];simp
def B2N{a}{r}(h0:¬0<kS a)(h1:¬0<kP a)(h2:a≠A3l):A3M ((a::r).drop (A0Y (a::r)))=none:=by
 have hb:bkN (a::r)=0:=by simp[bkN,h2]
 have hp:∀n,prs n (a::r)=[]:=λn=>by
  cases n with
  |zero=>simp[prs]
  |succ n=>
   cases r with
   |nil=>simp[prs]
   |cons b r=>rw[prs,Z0e λh=>h0 h.1]
 unfold A0Y;rw[hb,Z1m,hp];simp only[Z1z,Nat.mul_zero,Z0U,Z1m];unfold A3M;split
 .rename_i e;simp only[Z1d]at e;rw[Z0e];rw[<-e.1]
  exactλh=>h1 h.1
 .rfl
def C8L(w:List ByteArray):A4y w 5=B1m w:=by
 obtain⟨t1,t2,t3,t4,t5,t6,t7,t8⟩:=C9l;obtain⟨-,-,-,-,-,-,b1,b2,b3,n1,n2,n3⟩:=A3G;have pos:∀x:Option (Cq×Nat),(∀c n,x=some (c,n)->0<n)->A5K none x=x:=by
  intro x h;cases x with
  |none=>rfl
  |some y=>obtain⟨c,n⟩:=y;have:=h c n rfl;simp[A5K,B3q,this]
 have keep:∀a,A5K a none=a:=λa=>rfl;cases w with
 |nil=>simp only[A4y,A1X,A2M,A0Y,bkN,A3M,B1m,A5K,Z4m,prs];simp[prs,A5K,B3q]
 |cons a r=>
  rw[B7D];simp only[A4y];by_cases c1:a=A3y
  .subst c1;rw[Z0d rfl];have f0:A1X 0 (A3y::r)=none:=B2X t1 b1;(have f1:A1X 1 (A3y::r)=none:=by simp only[A1X,B2N t1 t5 b1]);(have f2:A1X 2 (A3y::r)=(A2t r).map λx=>((2,x.1,⟨#[]⟩),x.2+1):=by simp only[A1X,Z0F]);(have f3:A1X 3 (A3y::r)=none:=by cases r<;>simp[A1X,n1.symm]);(have f4:A1X 4 (A3y::r)=none:=by simp[A1X,n2.symm]);rw[f0,f1,f2,f3,f4,keep,keep,keep,keep,pos];intro c n e;cases hb:A2t r with
   |none=>rw[hb]at e;exact absurd e (by simp)
   |some y=>rw[hb]at e;simp at e;omega
  .rw[Z0e c1];(have f2:A1X 2 (a::r)=none:=by simp[A1X,c1]);by_cases c2:a=A6c
   .subst c2;rw[Z0d rfl];have f0:A1X 0 (A6c::r)=none:=B2X t2 b2;(have f1:A1X 1 (A6c::r)=none:=by simp only[A1X,B2N t2 t6 b2]);(have f4:A1X 4 (A6c::r)=none:=by simp[A1X,n3.symm]);rw[f0,f1,f2,f4,keep,keep,keep,keep];cases r with
    |nil=>rfl
    |cons b r=>
     by_cases c3:b=A9h
     .simp only[A1X,c3,Z3V,Z0F];rw[pos];intro c n e;cases hb:A2t r with
      |none=>rw[hb]at e;exact absurd e (by simp)
      |some y=>rw[hb]at e;simp at e;omega
     .simp only[A1X,c3,and_false,Z1j];rfl
   .rw[Z0e c2];(have f3:A1X 3 (a::r)=none:=by cases r<;>simp[A1X,c2]);by_cases c3:a=A6J
    .subst c3;rw[Z0d rfl];have f0:A1X 0 (A6J::r)=none:=B2X t3 b3;(have f1:A1X 1 (A6J::r)=none:=by simp only[A1X,B2N t3 t7 b3]);(have f4:A1X 4 (A6J::r)=(A2M 4 r).map λx=>(x.1,x.2+1):=by simp[A1X]);rw[f0,f1,f2,f3,f4,keep,keep,keep,keep,pos];intro c n e;cases hb:A2M 4 r with
     |none=>rw[hb]at e;exact absurd e (by simp)
     |some y=>rw[hb]at e;simp at e;omega
    .rw[Z0e c3];(have f4:A1X 4 (a::r)=none:=by simp[A1X,c3]);rw[f2,f3,f4,keep,keep,keep];have f:A5K none (A2M 0 (a::r))=A2M 0 (a::r):=by
      refine pos _ λc n e=>?_;have:=B3G (a::r);unfold A2M at e;split at e
      .exact absurd e (by simp)
      .simp only[Z0a,Z0c]at e;omega
     have f0:A1X 0 (a::r)=A2M 0 (a::r):=rfl;rw[f0,f];simp only[A1X];cases e:A3M ((a::r).drop (A0Y (a::r)))with
     |none=>rfl
     |some y=>
      obtain⟨s,d⟩:=y;simp only;by_cases c5:(A2E (a::r)).length<=8
      .rw[Z0d c5];have:B3q (A2M 0 (a::r))<A0Y (a::r)+4:=by
        unfold A2M;split
        .simp[B3q]
        .simp[B3q]
       simp only[A5K,this,Z0F,Z0d c5]
      .rw[Z0e c5,Z0e c5];rfl
def D7n{k}{p}{to}:B3P ((k,p,to),[])=if A4g k p to=true then some (k,p,to)else none:=by simp[B3P]
def B3z{k}{p}{to}{b:Prop}[Decidable b](h:B3P ((k,p,to),[])=if b then some (k,p,to)else none):A4g k p to=decide b:=by rw[D7n]at h;by_cases c:A4g k p to=true<;>by_cases e:b<;>simp_all
def C9p(n:Nat)(w:List ByteArray):∀s∈prs n w,0<s.k:=λs hs=>by have:=Z0p.1 (A3F n w).1 s hs;simp only[A1N,Z0g,Z0m]at this;omega
def D1j{k}(hk:k=0\/k=4)(w:List ByteArray):A4g k (A2E w) ⟨#[]⟩=decide (A0Y w≠bkN w):=by
 have hb:=B5M w;obtain⟨h1,h2,h3⟩:=A3F (9-bkN w) (w.drop (bkN w));refine B3z ?_;rw[show A2E w=bkS w++prs (9-bkN w) (w.drop (bkN w))from rfl,B2k hk (C9p _ _)];have e:(prs (9-bkN w) (w.drop (bkN w))≠[]/\(prs (9-bkN w) (w.drop (bkN w))).all A1N=true/\bkN w+(prs (9-bkN w) (w.drop (bkN w))).length<=9)<->A0Y w≠bkN w:=by
  unfold A0Y;constructor
  .rintro⟨a,-,-⟩;have:=Z2k.2 a;omega
  .intro a;exact⟨λe=>a (by rw[e];simp),h1,by omega⟩
 by_cases c:A0Y w≠bkN w
 .rw[Z0d (e.2 c),Z0d c]
 .rw[Z0e λh=>c (e.1 h),Z0e c]
def D1S{w}{s}{d}(h:A3M (w.drop (A0Y w))=some (s,d)):A4g 1 (A2E w++[s]) d=decide ((A2E w).length<=8):=by
 obtain⟨h1,h2,h3⟩:=A3F (9-bkN w) (w.drop (bkN w));unfold A3M at h;split at h
 .rename_i a b c d' r hd;split at h
  .rename_i hc;obtain⟨c1,c2,c3,c4⟩:=hc;simp only[Z0a,Z0c]at h;obtain⟨rfl,rfl⟩:=h;refine B3z ?_;have:=@B5z w _ (C9p (9-bkN w) (w.drop (bkN w))) a b d' c1;rw[show A2E w=bkS w++prs (9-bkN w) (w.drop (bkN w))from rfl,this];(have e:((prs (9-bkN w) (w.drop (bkN w))).all A1N=true/\bkN w+(prs (9-bkN w) (w.drop (bkN w))).length<=8/\A0X b=true/\A0X d'=true)<->(bkS w++prs (9-bkN w) (w.drop (bkN w))).length<=8:=by rw[Z0q,B0A];exact⟨λh=>h.2.1,λh=>⟨h1,h,c2,c4⟩⟩);by_cases c:(bkS w++prs (9-bkN w) (w.drop (bkN w))).length<=8
   .rw[Z0d (e.2 c),Z0d c]
   .rw[Z0e λh=>c (e.1 h),Z0e c]
  .exact absurd h (by simp)
 .exact absurd h (by simp)
def C6n:A0X ⟨#[]⟩=false:=by decide+kernel
def C1X{p}:A4g 1 p ⟨#[]⟩=false:=by simp[A4g,C6n]
def D5L{k}{to}:A4g k [] to=false:=by have h1:A4u []=false:=rfl;have h2:B0L []=false:=rfl;simp[A4g,h1,h2]
def B4r{k}(hk:k=2\/k=3){r}{p}{n}(h:A2t r=some (p,n)):A4g k p ⟨#[]⟩=true:=by
 cases r with
 |nil=>simp[A2t]at h
 |cons a r=>
  unfold A2t at h;simp only at h;split at h
  .rename_i hc;simp only[Z0a,Z0c]at h;obtain⟨rfl,rfl⟩:=h;obtain⟨h1,h2,h3⟩:=A3F 8 r;have:=@B3z k (⟨kS a,⟨#[]⟩⟩::prs 8 r) ⟨#[]⟩ True _ (by rw[C5g hk hc,Z0d ⟨rfl,h1,h2⟩];simp);simpa using this
  .exact absurd h (by simp)
def B1p{w}{c}{n}(h:B1m w=some (c,n)):A4g c.1 c.2.1 c.2.2=true/\0<n/\n<=w.length/\n<=23:=by
 have hb:=C2V w;rw[h]at hb;obtain⟨h1,h2,h3,h4,-⟩:=hb;refine⟨?_,h2,h3,h4⟩;unfold A4p A2d at h1;unfold B3P at h1;split at h1
 .rename_i hh;simp only[Z0a]at h1;rw[<-h1];exact hh.2
 .exact absurd h1 (by simp)
def A1a(l:List ByteArray)(at_:Nat)(en:Bool):List ByteArray:=if en=true then[]else B4Z (l.drop at_)
def C6K{l}{at_}{en}(h:en=true\/l.length<=at_):A1a l at_ en=[]:=by
 unfold A1a;rcases h with h|h
 .rw[Z0d h]
 .split
  .rfl
  .rw[Z0x h];rfl
def C9k{l}{at_}(h:at_<l.length):A1a l at_ false=B7f (l[at_])::A1a l (at_+1) (!A4i l[at_]):=by unfold A1a;simp only[Z0I,Z1j];rw[Z0l h,B4Z];cases c:A4i l[at_]<;>simp
def A6k(l:List ByteArray):Nat->Nat->List A1w
 |0,_=>[]
 |f+1,i=>if l.length<=i then[]else match B1m (B4Z (l.drop i))with
  |some (c,n)=>⟨c.1,c.2.1,c.2.2,i,i+n⟩::A6k l f (i+n)
  |none=>A6k l f (i+1)
def B1U(l:List ByteArray):∀f g i,l.length<=f+i->l.length<=g+i->A6k l f i=A6k l g i
 |0,0,i,_,_=>rfl
 |0,g+1,i,h,_=>by rw[A6k,A6k,Z0d (by omega)]
 |f+1,0,i,_,h=>by rw[A6k,A6k,Z0d (by omega)]
 |f+1,g+1,i,h1,h2=>by
  rw[A6k,A6k];split
  .rfl
  .split
   .rename_i c n e;have:=(B1p e).2.1;rw[B1U l f g (i+n) (by omega) (by omega)]
   .rw[B1U l f g (i+1) (by omega) (by omega)]
def A3c(l:List ByteArray)(i:Nat):List A1w:=A6k l (l.length-i) i
def D3x{l}{i}(h:l.length<=i):A3c l i=[]:=by unfold A3c;rw[show l.length-i=0 from by omega];rfl
def D1V{l}{i n}{c}(h:i<l.length)(hc:B1m (B4Z (l.drop i))=some (c,n)):A3c l i=⟨c.1,c.2.1,c.2.2,i,i+n⟩::A3c l (i+n):=by unfold A3c;obtain⟨f,hf⟩:∃f,l.length-i=f+1:=⟨l.length-i-1,by omega⟩;have:=(B1p hc).2.1;rw[hf,A6k,Z0e (by omega),hc];simp only;rw[B1U l f (l.length-(i+n)) (i+n) (by omega) (by omega)]
def D0M{l}{i}(h:i<l.length)(hc:B1m (B4Z (l.drop i))=none):A3c l i=A3c l (i+1):=by unfold A3c;obtain⟨f,hf⟩:∃f,l.length-i=f+1:=⟨l.length-i-1,by omega⟩;rw[hf,A6k,Z0e (by omega),hc];simp only;rw[B1U l f (l.length-(i+1)) (i+1) (by omega) (by omega)]
def B7R(l:List ByteArray):∀f i,∀c∈A6k l f i,A4g c.k c.path c.to=true/\(i:Int)<=c.frm/\c.frm<c.at_/\c.at_<=l.length
 |0,i,c,hc=>by simp[A6k]at hc
 |f+1,i,c,hc=>by
  rw[A6k]at hc;split at hc
  .simp at hc
  .split at hc
   .rename_i x n e;obtain⟨h1,h2,h3,h4⟩:=B1p e;have ht:=B8n (l.drop i);simp at ht;simp only[Z0u]at hc;rcases hc with rfl|hc
    .exact⟨h1,Int.le_refl _,by simp;omega,by simp;omega⟩
    .obtain⟨a,b,d,e⟩:=B7R l f (i+n) c hc;exact⟨a,by omega,d,e⟩
   .obtain⟨a,b,d,e⟩:=B7R l f (i+1) c hc;exact⟨a,by omega,d,e⟩
def A9G(l:List ByteArray):∀f i,(A6k l f i).length<=l.length-i
 |0,i=>by simp[A6k]
 |f+1,i=>by
  rw[A6k];split
  .simp
  .split
   .rename_i x n e;have:=(B1p e).2.1;have:=A9G l f (i+n);simp;omega
   .have:=A9G l f (i+1);omega
def A4z(s:ByteArray):Bool:=decide (1<=s.size)&&decide (s.size<=24)&&decide (A2a (A1A 33 126) s s.size 0<0)
def A5F(ws:List A0M):Bool:=decide (ws.length<=256)&&ws.all λw=>A4z w.text
def B2H(s:ByteArray):List (List AV):=s.data.toList.map λb=>[.val (.int .u8 b.toNat)]
@[simp] def E0t(s:ByteArray):(B2H s).length=s.size:=by simp only[B2H,Z0R,Z1x];rfl
@[simp] def E0v{s}{i}(h:i<(B2H s).length):(B2H s)[i]=[.val (.int .u8 (A1I s i))]:=by
 have h':i<s.size:=by simpa using h
 rw[B8V s i h'];simp only[B2H,Z2b,Array.getElem_toList];rfl
def B7s(p:Int->Bool)(s:ByteArray){i}(h:i<s.size):A2a p s (s.size-i) i=if p (A1I s i)then(i:Int)else A2a p s (s.size-(i+1)) (i+1):=by
 have:s.size-i=(s.size-(i+1))+1:=by omega
 rw[this];rfl
def A3t{α:Type}(p:α->Bool):List α->Nat->Int
 |[],_=>-1
 |x::l,i=>if p x then(i:Int)else A3t p l (i+1)
def A7Z{α:Type}(p:α->Bool):∀(l:List α) (i:Nat),decide (0<=A3t p l i)=l.any p
 |[],i=>by simp[A3t]
 |x::l,i=>by
  rw[A3t,Z2Z];cases h:p x
  .rw[Z0e (by simp),Z1K];exact A7Z p l (i+1)
  .rw[Z0d rfl,Z2O];exact Z0w (Int.natCast_nonneg i)
abbrev A6I(s:ByteArray):List AV:=[S s]
def A1l.at1{α:Type}{e}{enc:α->List AV}{M}{v}{l}{P}{t:TypeId}(h:A1l e 1 enc M v l){f:α->AV}(hf:∀x,enc x=[f x])(ha:A2e P t=some false)(hs:A1b P t=some 1){i}(hi:i<l.length):∃p,A6a (some (some 1)) v (I i)=some p/\A1D P t M p=some (f l[i]):=by
 have he:∀x,(enc x).length=1:=λx=>by rw[hf];rfl
 rcases h with⟨rfl,rfl⟩|⟨f',g,a,rfl,hm,hl⟩
 .simp at hi
 .refine⟨.vptr f' g (i*1),by simp[hi],?_⟩;simp only[A1D,A2L,hm,hl,Z2y,A0h,ha,hs];rw[Z0j (by rw[A3n he];exact Z0n _),A7B he,Z0l hi,Z1a,hf];rfl
section
variable (gl:Nat->AV) (M:Mem)
def D9K(c:Int):A0e (WC gl) 379 [.val (.int .u8 c)] M (λv M'=>v=B (A1A 33 126 c)/\M'=M):=by
 refine A0m hB func379 ?_;by_cases h1:c<33
 .simp -dsimp -implicitDefEqProofs[A1A,h1]
 .simp -dsimp -implicitDefEqProofs[A1A,h1]
def D6w(s:ByteArray)(hs:s.size<=maxLen):A0e (WC gl) 397 [.list 1 (B2H s) .no,.func (.func 379) [] []] M (λv M'=>v=I (A2a (A1A 33 126) s s.size 0)/\M'=M):=by
 refine A0m hB func397 ?_;have b:s.size<=9223372036854775807:=hs;simp -dsimp -implicitDefEqProofs;refine A0F hB s.size 8 (λT M1=>∃i:Nat,i<=s.size/\M1=M/\T 0=.list 1 (B2H s) .no/\T 1=.func (.func 379) [] []/\T 7=I s.size/\T 8=I i/\A2a (A1A 33 126) s s.size 0=A2a (A1A 33 126) s (s.size-i) i) ?_ ?_
 .exact⟨0,by omega,rfl,by simp,by simp,by simp,by simp,by simp⟩
 .rintro T M1 ⟨i,i1,rfl,t0,t1,t7,t8,ho⟩;by_cases hi:i<s.size
  ·(have a:(i:Int)<s.size:=by omega);have w1:IntKind.i64.wrap ((i:Int)+1)=(i+1:Nat):=by rw[A0Z (by omega) (by omega)];omega
   rw[B7s _ _ hi]at ho;simp -dsimp -implicitDefEqProofs[t0,t1,t7,t8,hi,a];refine A0g func379 (D9K gl _ _) ?_;cases hp:A1A 33 126 (A1I s i)
   .rw[hp,Z0e (by simp)]at ho;simp -dsimp -implicitDefEqProofs[t0,t1,t7,t8,w1];exact⟨⟨i+1,by clear w1;omega,rfl,ho⟩,by clear w1;omega⟩
   .rw[hp,Z0d rfl]at ho;simp -dsimp -implicitDefEqProofs[t0,t1,t7,t8,ho]
  ·(have a:¬(i:Int)<s.size:=by omega);rw[show s.size-i=0 by omega]at ho
   simp -dsimp -implicitDefEqProofs[t0,t1,t7,t8,a,ho,A2a]
def D4P(s:ByteArray)(hs:s.size<=maxLen):A0e (WC gl) 380 [.list 1 (B2H s) .no,.func (.func 379) [] []] M (λv M'=>v=B (decide (0<=A2a (A1A 33 126) s s.size 0))/\M'=M):=by refine A0m hB func380 ?_;simp -dsimp -implicitDefEqProofs;refine A0g func397 (D6w gl M s hs) ?_;simp -dsimp -implicitDefEqProofs
def D2P{h}{d}{x}{t:TypeId}{p}{af}{g}{ρ:Operand->AV}{M}{s}(hx:ρ x=S s)(hs:s.size<2^62):A0w (WC gl) h ⟨d,.convert 9 114 x,t,p,af,g⟩ ρ M=some (.list 1 (B2H s) .no,M):=by
 have a:s.size<4611686018427387904:=by simpa using hs
 simp[A0w,A0n,A0T,A0P,A0B,A2G,hx,A6L,B0e,B2H,a]
def D6t(s:ByteArray)(hs:s.size<=maxLen):A0e (WC gl) 339 [S s] M (λv M'=>v=B (A4z s)/\M'=M):=by
 refine A0m hB func339 ?_;by_cases h0:s.size=0
 .have he:s=⟨#[]⟩:=A8e.2 h0;have hw:A4z ⟨#[]⟩=false:=by decide
  simp -dsimp -implicitDefEqProofs[he,hw]
 .have he:¬s=⟨#[]⟩:=λh=>h0 (A8e.1 h);have h1:decide (1<=s.size)=true:=Z0w (by omega);by_cases h2:s.size<=24
  ·(have b:(s.size:Int)<=24:=by omega);have hw:A4z s=decide (A2a (A1A 33 126) s s.size 0<0):=by simp[A4z,h1,h2]
   simp -dsimp -implicitDefEqProofs[he,b,hw,A6L];rw[D2P gl (s:=s) (by rfl) (by omega)];simp -dsimp -implicitDefEqProofs;refine A0g func380 (D4P gl M s hs) ?_;by_cases h3:0<=A2a (A1A 33 126) s s.size 0
   ·(have a:¬A2a (A1A 33 126) s s.size 0<0:=by omega);rw[Z0z a]at hw
    simp -dsimp -implicitDefEqProofs[h3,a,hw]
   ·(have a:A2a (A1A 33 126) s s.size 0<0:=by omega);rw[Z0w a]at hw
    simp -dsimp -implicitDefEqProofs[h3,a,hw]
  ·(have b:¬(s.size:Int)<=24:=by omega);have hw:A4z s=false:=by simp[A4z,h2]
   simp -dsimp -implicitDefEqProofs[he,b,hw]
def D8l(s:ByteArray)(hs:s.size<=maxLen):A0e (WC gl) 338 [S s] M (λv M'=>v=B (!A4z s)/\M'=M):=by refine A0m hB func338 ?_;simp -dsimp -implicitDefEqProofs;refine A0g func339 (D6t gl M s hs) ?_;simp -dsimp -implicitDefEqProofs
def D6R(l:List ByteArray)(hl:l.length<=1000)(hs:∀s∈l,s.size<=maxLen)(v:AV)(hv:A1l 9 1 A6I M v l):A0e (WC gl) 378 [v,.func (.func 338) [] []] M (λr M'=>r=I (A3t (λs=>!A4z s) l 0)/\M'=M):=by
 refine A0m hB func378 ?_;have b:A1V prog 37 v=some l.length:=hv.len (e':=9) (by simp);simp -dsimp -implicitDefEqProofs[b];refine A0F hB l.length 8 (λT M1=>∃i:Nat,i<=l.length/\M1=M/\T 0=v/\T 1=.func (.func 338) [] []/\T 7=I l.length/\T 8=I i/\A3t (λs=>!A4z s) l 0=A3t (λs=>!A4z s) (l.drop i) i) ?_ ?_
 .exact⟨0,by omega,rfl,by simp,by simp,by simp,by simp,by simp⟩
 .rintro T M1 ⟨i,i1,rfl,t0,t1,t7,t8,ho⟩;by_cases hi:i<l.length
  ·(have a:(i:Int)<l.length:=by omega);have w1:=A2s (i:=i) (by omega)
   obtain⟨p,p1,p2⟩:=hv.at1 (P:=prog) (t:=9) (f:=S) (λ_=>rfl) (by simp) (by simp) hi;have hd:l.drop i=l[i]::l.drop (i+1):=Z0l hi;rw[hd,A3t]at ho;simp -dsimp -implicitDefEqProofs[t0,t1,t7,t8,hi,a,p1,p2];refine A0g func338 (D8l gl _ l[i] (hs _ (Z0y hi))) ?_;cases hp:A4z l[i]
   .rw[hp,Z0d (by rfl)]at ho;simp -dsimp -implicitDefEqProofs[t0,t1,t7,t8,ho]
   .rw[hp,Z0e (by simp)]at ho;simp -dsimp -implicitDefEqProofs[t0,t1,t7,t8,w1];exact⟨⟨i+1,by clear w1;omega,rfl,ho⟩,by clear w1;omega⟩
  ·(have a:¬(i:Int)<l.length:=by omega);rw[show l.drop i=[]from Z0x (by omega)]at ho
   simp -dsimp -implicitDefEqProofs[t0,t1,t7,t8,a,ho,A3t]
def D4M(l:List ByteArray)(hl:l.length<=1000)(hs:∀s∈l,s.size<=maxLen)(v:AV)(hv:A1l 9 1 A6I M v l):A0e (WC gl) 337 [v,.func (.func 338) [] []] M (λr M'=>r=B (l.any λs=>!A4z s)/\M'=M):=by refine A0m hB func337 ?_;simp -dsimp -implicitDefEqProofs;refine A0g func378 (D6R gl M l hl hs v hv) ?_;rw[<-A7Z _ l 0];simp -dsimp -implicitDefEqProofs
def C0l(l:List ByteArray)(hl:l.length<=1000)(hs:∀s∈l,s.size<=maxLen)(v:AV)(hv:A1l 9 1 A6I M v l):A0e (WC gl) 262 [v] M (λr M'=>r=B (decide (l.length<=256)&&l.all A4z)/\M'=M):=by
 refine A0m hB func262 ?_;have a:A1V prog 37 v=some l.length:=hv.len (e':=9) (by simp);by_cases h1:l.length<=256
 .have b:(l.length:Int)<=256:=by omega
  simp -dsimp -implicitDefEqProofs[a,b,h1];refine A0g func337 (D4M gl M l hl hs v hv) ?_;have:(l.any λs=>!A4z s)=!l.all A4z:=by rw[List.not_all_eq_any_not]
  rw[this];simp -dsimp -implicitDefEqProofs[h1]
 .have b:¬(l.length:Int)<=256:=by omega
  simp -dsimp -implicitDefEqProofs[a,b,h1]
end
def A0H(l:List A0M):List ByteArray:=l.map A0M.text
def A9c:List (List Int):=[[1,2],[2],[3,4,7],[3,4,7],[5],[6],[],[]]
def A4v(p k:Int):Bool:=decide (0<=p)&&decide (p<8)&&(A9c.getD p.toNat []).contains k
def D1g(l:List A0M):(A0H l).all A4z=l.all λw=>A4z w.text:=by simp[A0H,List.all_map];rfl
def hQ(l:List Nat):A2r:=⟨λ_=>true,λ_=>false,λd=>l.contains d⟩
@[simp] def E6q{l}:(hQ l).imm=λ_=>true:=rfl
@[simp] def E5l{l}:(hQ l).own=λ_=>false:=rfl
@[simp] def E5F{l}:(hQ l).vec=λd=>l.contains d:=rfl
section
variable (gl:Nat->AV) (M:Mem)
def C1C{own vec}{K:AV->Mem->Prop}{tg}{v}{M}{l}{s}{o}(hv:A1l 9 1 A6I M v l)(hl:l.length<=1000000000)(a:vec=true) (hk:∀v' M',A1l 9 1 A6I M' v' (l++[s])->A0c (obj v) M M'->(obj v'=obj v\/A1m M.length v')->K v' M'):A5H (WC gl) own vec 37 37 v (.list 1 [[S s]] o) M K tg:=by
 refine A4C (C:=WC gl) (enc:=A6I) (e:=9) (sz:=1) (news:=[s]) A8j B0S B8l (λ_=>rfl) hv (by simp[A0A]) (by simp;omega) a ?_
 intro v' M' h1 h2 h3 _
 exact hk v' M' h1 h2 h3
def A2V{M M1 M2:Mem}{v v':AV}{X:List A0j}(h1:Grow M M1)(hl:A1m M.length v)(h2:A0c (obj v) (M1++X) M2)(h3:obj v'=obj v\/A1m (M1++X).length v'):Grow M M2/\A1m M.length v':=by
 refine⟨⟨?_,λi hi _=>?_⟩,λf hf=>?_⟩
 .have:=h1.1;have:=h2.1;simp at this;omega
 .rw[h2.2 i (by have:=h1.1;simp;omega) (λe=>by have:=hl _ e;omega),Z0h (by have:=h1.1;omega)];exact h1.2 i hi (by simp)
 .rcases h3 with e|e
  .exact hl f (by rw[<-e];exact hf)
  .have:=e f hf;have:=h1.1;simp at*;omega
def D4b(ws:List A0M)(o:Own)(hl:ws.length<=100000000)(hs:∀w∈ws,w.text.size<=maxLen):A0e (WC gl) 208 [.list 4 (A0i ws) o] M (λv M'=>v=B (A5F ws)/\M'=M):=by
 have key:A0e (WC gl) 208 [.list 4 (A0i ws) o] M (λv M'=>(∃x,v=.val x/\x=.bool (A5F ws))/\Grow M M'):=by
  refine A0m (hQ [16]) func208 ?_;simp -dsimp -implicitDefEqProofs;refine A0F (hQ [16]) ws.length 8 (λT M1=>∃i:Nat,i<=ws.length/\T 0=.list 4 (A0i ws) o/\T 6=.list 4 (A0i ws) o/\T 7=I ws.length/\T 8=I i/\A1l 9 1 A6I M1 (T 3) (A0H (ws.take i))/\Grow M M1/\A1m M.length (T 3)) ?_ ?_
  .exact⟨0,by omega,by simp,by simp,by simp,by simp,by simpa[A0H]using A1l.nil,A0c.refl _ _,by simp[A1m]⟩
  .rintro T M1 ⟨i,i1,t0,t6,t7,t8,hv,hg,hL⟩;by_cases hi:i<ws.length
   ·(have a:(i:Int)<ws.length:=by omega);have w1:IntKind.i64.wrap ((i:Int)+1)=(i+1:Nat):=by rw[A0Z (by omega) (by omega)];omega
    generalize d:T 3=ov at*;(have e:(M1++[A0j.cells 152 [S ws[i].text,I ws[i].act,I ws[i].item,I ws[i].at_]])[M1.length]?=some (A0j.cells 152 [S ws[i].text,I ws[i].act,I ws[i].item,I ws[i].at_]):=by simp);have c:A1l 9 1 A6I (M1++[A0j.cells 152 [S ws[i].text,I ws[i].act,I ws[i].item,I ws[i].at_]]) ov (A0H (ws.take i)):=hv.keep (A0c.app none M1 _) (by simp);(have ht:A0H (ws.take (i+1))=A0H (ws.take i)++[ws[i].text]:=by rw[A0H,A0H,Z1H,Z0k hi,Z0S];rfl);simp -dsimp -implicitDefEqProofs[t0,t6,t7,t8,hi,a,d,A0k,A0l,A0d,A0M.row,A0b e,A0q,A1f];refine C1C gl c (by simp[A0H];omega) rfl ?_;intro v' M' h1 h2 h3;obtain⟨k1,k2⟩:=A2V hg hL h2 h3;simp -dsimp -implicitDefEqProofs[t0,t6,t7,t8,w1];exact⟨⟨i+1,by clear w1;omega,rfl,by rw[ht];exact h1,k1,k2⟩,by clear w1;omega⟩
   ·(have a:¬(i:Int)<ws.length:=by omega);rw[Z0j (by omega)]at hv
    by_cases h3:ws.length<=256
    ·(have b:(ws.length:Int)<=256:=by omega);simp -dsimp -implicitDefEqProofs[t0,t6,t7,t8,a,b]
     refine A0r func262 (C0l gl M1 (A0H ws) (by simp[A0H];omega) (by simpa[A0H]using hs) (T 3) hv) ?_;rintro _ _ ⟨rfl,rfl⟩;rw[D1g];simp -dsimp -implicitDefEqProofs[A5F,A0H,hg]
    ·(have b:¬(ws.length:Int)<=256:=by omega);simp -dsimp -implicitDefEqProofs[t0,t6,t7,t8,a,b,A5F,hg,h3]
 have:=A9z (Q:=λx=>x=.bool (A5F ws)) key;exact this.mono (by rintro v M' ⟨⟨x,rfl,rfl⟩,rfl⟩;exact⟨rfl,rfl⟩)
end
open Go.Proofs TryTypes
section
variable (gl:Nat->AV) (M:Mem)
end
end Go.Abs
