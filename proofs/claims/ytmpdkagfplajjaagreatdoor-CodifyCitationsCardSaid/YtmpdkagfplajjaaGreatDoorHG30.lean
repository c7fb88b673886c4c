/- The texts CyE, CyF, CyG, CyH, CsP, CsQ, CsR, CsT, CsU, CsV. -/
import Derived.Test.YtmpdkagfplajjaaGreatDoorHG25
import Derived.Laws.RangeAny
import Derived.Laws.RangeString
set_option linter.all false
set_option maxRecDepth 100000
namespace Go.Abs
open Go.Proofs TryTypes Tryz
def A1M(p:Int->Bool)(s:ByteArray):Nat->Nat->Int
 |0,_=>-1
 |n+1,i=>if p (A0P s i)then i else A1M p s n (i+1)
def A1j(lo hi:Int)(c:Int):Bool:=decide (c<lo)||decide (c>hi)
def B9L(s:ByteArray)(i:Nat)(h:i<s.size):A0P s i=((s[i]'h).toNat:Int):=by have h':i<s.data.size:=h;simp only[A0P,Z3S,Z0Q h',Z1w];rfl
def C9p{lo hi}(a:0<lo)(b:hi<128)(s:ByteArray)(pos:Nat)(hp:pos<s.size):A1j lo hi ((Utf8.decode s pos).1:Int)=A1j lo hi (A0P s pos)/\(A1j lo hi (A0P s pos)=false->(Utf8.decode s pos).2=1):=by
 rw[B9L s pos hp]
 by_cases ha:(s[pos]'hp).toNat<128
 .rw[decode_ascii s pos hp ha];exact⟨rfl,λ_=>rfl⟩
 .have:=decode_high s pos hp (by omega);have e1:A1j lo hi ((Utf8.decode s pos).1:Int)=true:=by(have:((Utf8.decode s pos).1:Int)>hi:=by omega);simp[A1j,this]
  have e2:A1j lo hi ((s[pos]'hp).toNat:Int)=true:=by(have:((s[pos]'hp).toNat:Int)>hi:=by omega);simp[A1j,this]
  rw[e1,e2];exact⟨rfl,λe=>by simp at e⟩
section
variable (gl:Nat->AV) (M:Mem)
def E1s(c:Int):A0e (WC gl) 211 [.val (.int .i32 c)] M (λv M'=>v=B (A1j 48 57 c)/\M'=M):=by
 refine A0n hB func211 ?_;by_cases h1:c<48
 .simp -dsimp -implicitDefEqProofs[A1j,h1]
 .simp -dsimp -implicitDefEqProofs[A1j,h1]
def E0V(c:Int):A0e (WC gl) 162 [.val (.int .i32 c)] M (λv M'=>v=B (A1j 65 90 c)/\M'=M):=by
 refine A0n hB func162 ?_;by_cases h1:c<65
 .simp -dsimp -implicitDefEqProofs[A1j,h1]
 .simp -dsimp -implicitDefEqProofs[A1j,h1]
def C3B(g:FuncId)(lo hi:Int)(f:0<lo)(e:hi<128)(s:ByteArray)(hg:∀M c,A4r (WC gl) g [.val (.int .i32 c)] M (λv M'=>v=B (A1j lo hi c)/\M'=M)):
 A0e (WC gl) 264 [S s,.func (.func g) [] [],B true] M (λv M'=>v=I (A1M (A1j lo hi) s s.size 0)/\Grow M M'):=by
 refine A0n hB func264 ?_
 simp -dsimp -implicitDefEqProofs[B0y]
 refine A2P hB (λT M1=>∃pos,pos<=s.size/\M1=M++[.siter s pos]/\T 1=.func (.func g) [] []/\T 2=B true/\T 10=.ptr M.length 0/\A1M (A1j lo hi) s s.size 0=A1M (A1j lo hi) s (s.size-pos) pos) (λT M1=>match M1[M.length]? with|some (.siter _ pos)=>s.size-pos|_=>0) (by kernel_rfl) ?_ ?_
 .refine⟨0,?_⟩;simp -dsimp -implicitDefEqProofs
 .rintro T M1 ⟨pos,h1,rfl,h2,h3,h4,h5⟩;by_cases hp:pos<s.size
  ·(have hn:A9o (.ptr M.length 0) (M++[.siter s pos])=some (.tuple [.val (.bool true),.val (goInt pos),.val (.int .i32 (Utf8.decode s pos).1)],M++[.siter s (pos+(Utf8.decode s pos).2)]):=by simp[A9o,hp]);have b:A1M (A1j lo hi) s (s.size-pos) pos=if A1j lo hi (A0P s pos)then(pos:Int)else A1M (A1j lo hi) s (s.size-(pos+1)) (pos+1):=by(have:s.size-pos=(s.size-(pos+1))+1:=by omega);rw[this];rfl
   obtain⟨a,d⟩:=C9p f e s pos hp;have h:((Utf8.decode s pos).1:Int)=((Utf8.decode s pos).1:Nat):=rfl;simp -dsimp -implicitDefEqProofs[h2,h3,h4,hn];refine A1W (hg _ _) ?_;rintro r M' ⟨rfl,rfl⟩;cases hb:A1j lo hi ((Utf8.decode s pos).1:Int)
   .rw[a]at hb;have hd:=d hb;simp -dsimp -implicitDefEqProofs[h2,h3,h4,hd];refine⟨⟨pos+1,by omega,rfl,by rw[h5,b,hb];rfl⟩,?_⟩;omega
   .rw[a]at hb;simp -dsimp -implicitDefEqProofs[h2,h3,h4];refine⟨?_,.app _ _ _⟩;rw[h5,b,hb];rfl
  ·(have hn:A9o (.ptr M.length 0) (M++[.siter s pos])=some (.tuple [.val (.bool false)],M++[.siter s pos]):=by simp[A9o,hp]);simp -dsimp -implicitDefEqProofs[h2,h3,h4,hn]
   refine⟨?_,.app _ _ _⟩;rw[h5,show s.size-pos=0 by omega];rfl
def B5E(g:FuncId)(lo hi:Int)(a:0<lo)(b:hi<128)(s:ByteArray)(hg:∀M c,A4r (WC gl) g [.val (.int .i32 c)] M (λv M'=>v=B (A1j lo hi c)/\M'=M)):
 A0e (WC gl) 210 [S s,.func (.func g) [] []] M (λv M'=>v=I (A1M (A1j lo hi) s s.size 0)/\Grow M M'):=by
 refine A0n hB func210 ?_
 simp -dsimp -implicitDefEqProofs
 refine A0q func264 (C3B gl M g lo hi a b s hg) ?_
 rintro r M' ⟨rfl,d⟩
 simp -dsimp -implicitDefEqProofs[d]
def B7w(g:FuncId)(lo hi:Int)(a:0<lo)(b:hi<128)(s:ByteArray)(hg:∀M c,A4r (WC gl) g [.val (.int .i32 c)] M (λv M'=>v=B (A1j lo hi c)/\M'=M)):
 A0e (WC gl) 163 [S s,.func (.func g) [] []] M (λv M'=>v=B (decide (0<=A1M (A1j lo hi) s s.size 0))/\Grow M M'):=by
 refine A0n hB func163 ?_
 simp -dsimp -implicitDefEqProofs
 refine A0q func210 (B5E gl M g lo hi a b s hg) ?_
 rintro r M' ⟨rfl,d⟩
 simp -dsimp -implicitDefEqProofs[d]
def B2b(p:Int->Bool)(s:ByteArray):∀n i,A1M p s n i=-1\/((i:Int)<=A1M p s n i/\A1M p s n i<i+n)
 |0,i=>.inl rfl
 |n+1,i=>by
  simp only[A1M];split
  .right;omega
  .rcases B2b p s n (i+1)with h|h
   .exact .inl h
   .right;push_cast at h;omega
def A1A(s:ByteArray):Nat:=let k:=A1M (A1j 48 57) s s.size 0;if k<0 then s.size else k.toNat
def C2p(s:ByteArray):A0e (WC gl) 161 [S s] M (λv M'=>v=.tuple [S (s.extract 0 (A1A s)),S (s.extract (A1A s) s.size)]/\Grow M M'):=by
 refine A0n hB func161 ?_;simp -dsimp -implicitDefEqProofs;refine A0q func210 (B5E gl M 211 48 57 (by decide) (by decide) s λM c=>A1a func211 rfl rfl (E1s gl M c)) ?_;rintro r M' ⟨rfl,a⟩;have hr:=B2b (A1j 48 57) s s.size 0;generalize hk:A1M (A1j 48 57) s s.size 0=k at hr;by_cases h0:k<0
 .have hd:A1A s=s.size:=by simp[A1A,hk,h0]
  simp -dsimp -implicitDefEqProofs[h0,a,hd];rfl
 .have hd:A1A s=k.toNat:=by simp[A1A,hk,h0]
  have h1:0<=k:=by omega
  have h2:k<=s.size:=by omega
  simp -dsimp -implicitDefEqProofs[h0];refine A0Z hB (A0u gl) (λ_=>0) (λ_=>0) (by rfl) (by kernel_rfl) ?_;simp -dsimp -implicitDefEqProofs[a,hd,h1,h2]
def B0A(s:ByteArray):A1A s<=s.size:=by have hr:=B2b (A1j 48 57) s s.size 0;simp only[A1A];split<;>omega
def A8Q(p:Int->Bool)(s:ByteArray)(d:Nat):∀n i,d+i+n<=s.size->(A1M p (s.extract d s.size) n i<0<->A1M p s n (d+i)<0)
 |0,i,h=>by simp[A1M]
 |n+1,i,h=>by
  simp only[A1M];rw[A5s (by omega) (by omega)];split
  .constructor<;>intro h<;>omega
  .exact A8Q p s d n (i+1) (by omega)
def A0O(s:ByteArray):Bool:=decide (1<=A1A s)&&decide (A1A s<=4)&&!decide (A0P s 0=48)&&decide (s.size-A1A s<=3)&&decide (A1M (A1j 65 90) s (s.size-A1A s) (A1A s)<0)
def A6x(s:ByteArray):A0e (WC gl) 112 [S s] M (λv M'=>v=B (A0O s)/\Grow M M'):=by
 refine A0n hB func112 ?_;simp -dsimp -implicitDefEqProofs;refine A0q func161 (C2p gl M s) ?_;rintro r M' ⟨rfl,b⟩;have l:=B0A s;have a:(s.extract 0 (A1A s)).size=A1A s:=by simp;omega
 have f:(s.extract (A1A s) s.size).size=s.size-A1A s:=by simp
 have e:1<=A1A s->A0P (s.extract 0 (A1A s)) 0=A0P s 0:=λh=>by rw[A5s (by omega) l]
 generalize hd:A1A s=d at*;by_cases c1:1<=d;case neg=>
  have:¬(1:Int)<=d:=by omega
  simp -dsimp -implicitDefEqProofs[a,this,A0O,hd,c1,b]
 have i1:(1:Int)<=d:=by omega
 have e:=e c1;by_cases c2:d<=4;case neg=>
  have:¬(d:Int)<=4:=by omega
  simp -dsimp -implicitDefEqProofs[a,this,A0O,hd,c1,i1,c2,b]
 have i2:(d:Int)<=4:=by omega
 have g:0<d:=c1;by_cases c3:A0P s 0=48
 .simp -dsimp -implicitDefEqProofs[a,A0O,hd,c1,i1,c2,i2,c3,e,g,b]
 by_cases c4:s.size-d<=3;case neg=>
  have:¬((s.size-d:Nat):Int)<=3:=by omega
  have k:¬s.size<=3+d:=by omega
  simp -dsimp -implicitDefEqProofs[a,f,A0O,hd,c1,i1,c2,i2,c3,e,g,this,c4,k,b]
 have i4:((s.size-d:Nat):Int)<=3:=by omega
 simp -dsimp -implicitDefEqProofs[a,f,A0O,hd,c1,i1,c2,i2,c3,e,g,i4,c4,b];refine A0q func163 (B7w gl M' 162 65 90 (by decide) (by decide) _ λM c=>A1a func162 rfl rfl (E0V gl M c)) ?_;rintro r M2 ⟨rfl,i⟩;have j:Grow M M2:=A0c.trans b i;have hx:=A8Q (A1j 65 90) s d (s.size-d) 0 (by omega);rw[f];by_cases c5:0<=A1M (A1j 65 90) (s.extract d s.size) (s.size-d) 0
 .have:¬A1M (A1j 65 90) s (s.size-d) d<0:=λh=>by have:=hx.2 (by simpa using h);omega
  simp -dsimp -implicitDefEqProofs[c5,A0O,hd,c1,c2,c3,c4,this,j]
 .have:A1M (A1j 65 90) s (s.size-d) d<0:=by have:=hx.1 (by omega);simpa using this
  simp -dsimp -implicitDefEqProofs[c5,A0O,hd,c1,c2,c3,c4,this,j]
end
abbrev A0w.v(s:A0w):AV:=.agg s.row
def A0T(p:List A0w):List (List AV):=p.map A0w.row
@[simp] def E1L(p:List A0w):(A0T p).length=p.length:=by simp[A0T]
@[simp] def E9Q{k j}{a b}:A1B prog .eql 159 (.agg [I k,S a]) (.agg [I j,S b])=some (B (decide (k=j)&&decide (a=b))):=by
 have h1:prog.eqGuardType prog.depth 159=false:=by kernel_rfl
 have h2:prog.stoodInHeld 159=false:=by kernel_rfl
 simp[A1B,A3q,A4T,A4p,A3Q,h1,A9V,h2,A3p];by_cases c1:k=j
 .by_cases c2:a=b
  .simp[c1,c2]
  .have:¬a.data=b.data:=λe=>c2 (by cases a;cases b;simpa using e);(have e:(a.data==b.data)=false:=by simpa using this);rw[e];simp[c1,c2]
 .have e:(k==j)=false:=by simpa using c1
  rw[e];simp[c1]
def B1r{x}:A0x prog 159 [(0,I x)]=some (.agg [I x,S ⟨#[]⟩]):=by simp[A0x,A1b,A1o,A0d]
section
variable (gl:Nat->AV) (M:Mem)
def A2B(s:A0w):Bool:=decide (s.k=0)&&decide (s.lab=⟨#[]⟩)
def D0E(s:A0w):A0e (WC gl) 214 [s.v] M (λv M'=>v=B (A2B s)/\M'=M):=by refine A0n hB func214 ?_;simp -dsimp[A0w.row,A2B,B1r]
def A1k(s:A0w):Bool:=decide (1<=s.k)&&decide (s.k<=7)&&A0O s.lab
def C5A(s:A0w):A0e (WC gl) 217 [s.v] M (λv M'=>v=B (A1k s)/\Grow M M'):=by
 refine A0n hB func217 ?_;by_cases c1:1<=s.k;case neg=>simp -dsimp[A0w.row,A1k,c1,Grow,A0c.refl]
 by_cases c2:s.k<=7;case neg=>simp -dsimp[A0w.row,A1k,c1,c2,Grow,A0c.refl]
 simp -dsimp[A0w.row,A1k,c1,c2];refine A0q func112 (A6x gl M s.lab) ?_;rintro r M' ⟨rfl,a⟩;simp -dsimp[A1k,c1,c2,a]
def D1v(s:A0w):A0e (WC gl) 216 [s.v] M (λv M'=>v=B (!A1k s)/\Grow M M'):=by refine A0n hB func216 ?_;simp -dsimp[A0w.row];refine A0q func217 (C5A gl M s) ?_;rintro r M' ⟨rfl,a⟩;simp -dsimp[a]
end
def Grow.refl(M:Mem):Grow M M:=A0c.refl _ _
def Grow.trans{A B C}(h1:Grow A B)(h2:Grow B C):Grow A C:=A0c.trans h1 h2
@[simp] def E2F{p}{i}(h:i<(A0T p).length):(A0T p)[i]=[I (p[i]'(by simpa using h)).k,S (p[i]'(by simpa using h)).lab]:=by simp[A0T,A0w.row]
def A9q{p:List A0w}{f:A0w->Bool}{i:Nat}(h:i<p.length)(ha:(p.take i).all f=true)(hf:f (p[i])=true):(p.take (i+1)).all f=true:=by rw[Z0A h,Z4j,ha];simp[hf]
section
variable (gl:Nat->AV) (M:Mem)
def C3G(p:List A0w)(o:Own)(c:p.length<=1000000):A0e (WC gl) 270 [.list 2 (A0T p) o,.func (.func 216) [] []] M (λv M'=>(∃r,v=I r/\decide (0<=r)=p.any (λs=>!A1k s))/\Grow M M'):=by
 refine A0n hB func270 ?_;simp -dsimp;refine A0B hB p.length 8 (λT M1=>∃i:Nat,i<=p.length/\Grow M M1/\T 0=.list 2 (A0T p) o/\T 1=.func (.func 216) [] []/\T 7=I p.length/\T 8=I i/\(p.take i).all A1k=true) ?_ ?_
 .refine⟨0,?_⟩;simp -dsimp[Grow.refl]
 .rintro T M1 ⟨i,h1,h2,h3,h4,h5,h6,h7⟩;by_cases hi:i<p.length
  ·(have a:(i:Int)<p.length:=by omega);have hw:IntKind.i64.wrap ((i:Int)+1)=(i+1:Nat):=by rw[A0L (by omega) (by omega)];omega
   simp -dsimp[h3,h4,h5,h6,hi,a];refine A0q func216 (D1v gl M1 p[i]) ?_;rintro r M' ⟨rfl,b⟩;have hg:=h2.trans b;cases hb:A1k p[i]
   .simp -dsimp[h3,h4,h5,h6];refine⟨?_,hg⟩;exact⟨p[i],Z0o hi,hb⟩
   .simp -dsimp[h3,h4,h5,h6,hw,hg];refine⟨⟨i+1,?_⟩,?_⟩
    .have:=A9q hi h7 hb;simp only[Z0p]at this|-;exact⟨by clear hw;omega,by simp,this⟩
    .clear hw;omega
  ·(have a:¬(i:Int)<p.length:=by omega);rw[Z0g (by omega),Z0p]at h7
   simp -dsimp[h3,h4,h5,h6,a];exact⟨h7,h2⟩
def B1x(p:List A0w)(o:Own)(a:p.length<=1000000):A0e (WC gl) 215 [.list 2 (A0T p) o,.func (.func 216) [] []] M (λv M'=>v=B (p.any (λs=>!A1k s))/\Grow M M'):=by refine A0n hB func215 ?_;simp -dsimp;refine A0q func270 (C3G gl M p o a) ?_;rintro r M' ⟨⟨r,rfl,hr⟩,b⟩;simp -dsimp[b,hr]
def A6r(p:List A0w):List A0w:=match p with
 |[]=>[]
 |s::p'=>if A2B s then p' else s::p'
def A1X(p:List A0w):Bool:=decide (0<(A6r p).length)&&(A6r p).all A1k
def C4j{p:List A0w}:(!p.any (λs=>!A1k s))=p.all A1k:=by
 induction p with
 |nil=>rfl
 |cons a p ih=>simp only[Z3k,Z1n,Bool.not_or,Bool.not_not,ih]
def B4W(p:List A0w)(o:Own)(a:p.length<=1000000):A0e (WC gl) 166 [.list 2 (A0T p) o] M (λv M'=>v=B (A1X p)/\Grow M M'):=by
 refine A0n hB func166 ?_;cases p with
 |nil=>simp -dsimp[A0T,A1X,A6r,Grow.refl]
 |cons s p'=>
  simp only[Z0x]at a;simp -dsimp[A0T,A0w.row];refine A0q func214 (D0E gl M s) ?_;rintro r M' ⟨rfl,rfl⟩;cases hb:A2B s
  .simp -dsimp;refine A0q func215 (B1x gl M' (s::p') o (by simpa using a)) ?_;rintro r M2 ⟨rfl,b⟩;(have e:(s::p').all A1k=A1X (s::p'):=by simp[A1X,A6r,hb]);rw[<-e,<-C4j];simp -dsimp[b]
  ·(have i1:(1:Int)<=p'.length+1:=by omega);by_cases c:0<p'.length
   ·(have e:p'.all A1k=A1X (s::p'):=by simp[A1X,A6r,hb,c]);rw[<-e,<-C4j]
    simp -dsimp[i1,c];refine A0q func215 (B1x gl M' p' _ (by omega)) ?_;rintro r M2 ⟨rfl,b⟩;simp -dsimp[b]
   ·(have e:A1X (s::p')=false:=by simp[A1X,A6r,hb,c]);simp -dsimp[i1,c,e,Grow.refl]
end
abbrev D9g(p:List A0w)(o:Own):AV:=.agg [I 0,.list 2 (A0T p) o,S ⟨#[]⟩,I 0,I 0]
def B1Q(p:List A0w):Bool:=decide (p.length<=9)&&A1X p
def A1x:List ByteArray:=[⟨#[]⟩,⟨#[112,97,114,116]⟩,⟨#[115,101,99,116,105,111,110]⟩,⟨#[112,97,114,97,103,114,97,112,104]⟩,⟨#[116,97,98,108,101]⟩,⟨#[114,111,119]⟩,⟨#[99,101,108,108]⟩,⟨#[110,111,116,101]⟩]
def A2O:ByteArray:=⟨#[98,111,111,107]⟩
def A5C(s:A0w):List ByteArray:=if A2B s then[A2O]else[A1x.getD s.k.toNat ⟨#[]⟩,s.lab]
def A8U(p:List A0w):List ByteArray:=p.flatMap A5C
def hT:A2u:=⟨λ_=>true,λ_=>false,λd=>d==27||d==39||d==21⟩
@[simp] def E7v:hT.own=λ_=>false:=(rfl)
@[simp] def E7D:hT.vec=λd=>d==27||d==39||d==21:=(rfl)
def A8g(s:A0w):Bool:=A2B s||A1k s
def D4T{s}(h:A0O s=true):¬s=⟨#[]⟩:=by rintro rfl;revert h;decide+kernel
def B0Z{M M1 M' X}{l news}{out v'}(h:A4x M l out M1)(h1:A5K 9 M' v' (l.map S++news.map S))(h2:A0c (obj out) (M1++X) M')(h3:obj v'=obj out\/A1m (M1++X).length v'):A4x M (l++news) v' M':=by
 refine⟨by simpa using h1,⟨?_,λi hi _=>?_⟩,?_⟩
 .have a:=h.2.1.1;have b:=h2.1;simp at b;omega
 .have hl:=h.2.1.1;rw[h2.2 i (by simp;omega) λe=>by have:=h.2.2 i e;omega,Z0i (by omega)];exact h.2.1.2 i hi (by simp)
 .intro f hf;rcases h3 with e|e
  .exact h.2.2 f (by rw[<-e];exact hf)
  .have a:=h.2.1.1;have b:=e f hf;simp at b;omega
def B8f{p:List A0w}{i:Nat}(h:i<p.length):A8U (p.take (i+1))=A8U (p.take i)++A5C p[i]:=by rw[Z0A h,A8U,A8U,Z1l];simp
def C0O(s:A0w):(A5C s).length<=2:=by unfold A5C;split<;>simp
def C1n(p:List A0w):(A8U p).length<=2*p.length:=by
 induction p with
 |nil=>simp[A8U]
 |cons a p ih=>have:=C0O a;simp only[A8U,Z0Y,Z0t,Z0x]at*;omega
section
variable (gl:Nat->AV) (M:Mem)
def C3R(p:List A0w)(o:Own)(a:p.length<=1000000):A0e (WC gl) 116 [D9g p o] M (λv M'=>v=B (B1Q p)/\Grow M M'):=by
 refine A0n hB func116 ?_;by_cases c:p.length<=9
 .have i1:¬(p.length:Int)>9:=by omega
  have i2:¬(9:Int)<p.length:=by omega
  simp -dsimp[i1,i2];refine A0q func166 (B4W gl M p o a) ?_;rintro r M2 ⟨rfl,b⟩;simp -dsimp[B1Q,c,b]
 .have i2:(9:Int)<p.length:=by omega
  simp -dsimp[i2,B1Q,c,Grow.refl]
def D2d:A0e (WC gl) 219 [] M (λv M'=>v=.list 1 (A0W A1x) .full/\M'=M):=by refine A0n hB func219 ?_;simp -dsimp[A0l,A0M,A0W,A1x]
def D7Z(p:List A0w)(o:Own)(y:p.length<=1000000)(c:p.all A8g=true):A0e (WC gl) 168 [.list 2 (A0T p) o] M (A4x M (A8U p)):=by
 refine A0n hT func168 ?_;simp -dsimp;refine A0B hT p.length 8 (λT M1=>∃i:Nat,i<=p.length/\A4x M (A8U (p.take i)) (T 3) M1/\T 6=.list 2 (A0T p) o/\T 7=I p.length/\T 8=I i) ?_ ?_
 .refine⟨0,?_⟩;simp -dsimp[A4x,A5K,A0c.refl,A1m,A8U]
 .rintro T M1 ⟨i,h1,h2,h3,h4,h5⟩;generalize g:T 3=s at h2;by_cases hi:i<p.length
  ·(have d:(i:Int)<p.length:=by omega);have hw:IntKind.i64.wrap ((i:Int)+1)=(i+1:Nat):=by rw[A0L (by omega) (by omega)];omega
   (have f:(M1++[A0m.cells 159 [I p[i].k,S p[i].lab]])[M1.length]?=some (.cells 159 [I p[i].k,S p[i].lab]):=by simp);have hg:=Z0p.1 c p[i] (Z0o hi)
   have n:A5K 9 (M1++[A0m.cells 159 [I p[i].k,S p[i].lab]]) s ((A8U (p.take i)).map S):=h2.1.keep (.app none _ _) (by simp);have x:=C1n (p.take i);(have t:(p.take i).length<=p.length:=by simp;omega);simp -dsimp[h3,h4,h5,hi,d,A0k,A0i,A0d,A0b f];refine A0q func214 (D0E gl _ p[i]) ?_;rintro r M2 ⟨rfl,rfl⟩;cases hb:A2B p[i]
   ·(have hn:A1k p[i]=true:=by simpa[A8g,hb]using hg);simp only[A1k,Z0f,Z0k]at hn
    obtain⟨⟨n1,n2⟩,n3⟩:=hn;have hl:=D4T n3;(have w:0<=p[i].k:=by omega);(have q:p[i].k<8:=by omega);(have j:p[i].k.toNat<8:=by omega);(have l:(A0W A1x)[p[i].k.toNat]?.getD []=[S (A1x.getD p[i].k.toNat ⟨#[]⟩)]:=by have:p[i].k.toNat<A1x.length:=j;simp[A0W,this]);have b:∀h:p[i].k.toNat<(A0W A1x).length,(A0W A1x)[p[i].k.toNat]'h=[S (A1x.getD p[i].k.toNat ⟨#[]⟩)]:=by intro h;have:p[i].k.toNat<A1x.length:=j;simp[A0W,this]
    (have a:A5C p[i]=[A1x.getD p[i].k.toNat ⟨#[]⟩,p[i].lab]:=by simp only[A5C,hb];rfl);have u:A1x.length=8:=rfl
    generalize A1x.getD p[i].k.toNat ⟨#[]⟩=kw at l b a;simp -dsimp[hl,A0b f];refine A0Z hT (A0u gl) (λk=>if k=3\/k=7 then 1 else if k=9 then 2 else 0) (λ_=>M1.length) (by rfl) (by kernel_rfl) ?_;simp -dsimp;refine A1p func219 (λM=>(D2d gl M)) ?_;simp -dsimp[A0b f,w,l,b,q,u,A0l,A0M,g];refine push (C:=WC gl) (e:=9) A7g A9M B6h n (news:=[kw,p[i].lab].map S) (m:=2) rfl rfl (by simp;omega) rfl ?_;intro v' M' q1 q2 q3 _;have hf:=B0Z h2 q1 q2 q3;rw[<-a,<-B8f hi]at hf;simp -dsimp[h3,h4,h5,hw];refine⟨⟨i+1,?_⟩,?_⟩
    .exact⟨by clear hw;omega,hf,by simp⟩
    .clear hw;omega
   ·(have a:A5C p[i]=[A2O]:=by simp[A5C,hb]);simp -dsimp[A0l,A0M,g]
    refine push (C:=WC gl) (e:=9) A7g A9M B6h n (news:=[A2O].map S) (m:=1) rfl rfl (by simp;omega) rfl ?_;intro v' M' q1 q2 q3 _;have hf:=B0Z h2 q1 q2 q3;rw[<-a,<-B8f hi]at hf;simp -dsimp[h3,h4,h5,hw];refine⟨⟨i+1,?_⟩,?_⟩
    .exact⟨by clear hw;omega,hf,by simp⟩
    .clear hw;omega
  ·(have d:¬(i:Int)<p.length:=by omega);rw[Z0g (by omega)]at h2
   simp -dsimp[h3,h4,h5,d,g,h2]
def D4g(p:List A0w)(o:Own)(b:p.length<=1000000)(a:p.all A8g=true):A0e (WC gl) 117 [D9g p o] M (A4x M (A8U p)):=by refine A0n hB func117 ?_;simp -dsimp;refine A0q func168 (D7Z gl M p o b a) ?_;intro v M' h;simp -dsimp[h]
def A4n(p:List A0w):List ByteArray:=if B1Q p then A8U p else[]
def C2c{p}(h:B1Q p=true):p.all A8g=true:=by
 simp only[B1Q,A1X,Z0f]at h;have h2:=h.2.2;cases p with
 |nil=>rfl
 |cons s p'=>
  simp only[A6r]at h2;cases hb:A2B s
  .simp only[hb,Z0H,Z1i,Z1n,Z0f]at h2;simp only[Z1n,Z0f,A8g,hb,h2.1,Z4E,Z2u,Z1J];exact Z0p.2 λx hx=>by have:=Z0p.1 h2.2 x hx;show(A2B x||A1k x)=true;rw[this,Z4E]
  .simp only[hb,Z0T]at h2;simp only[Z1n,Z0f,A8g,hb,Z2X,Z2u];exact Z0p.2 λx hx=>by have:=Z0p.1 h2 x hx;show(A2B x||A1k x)=true;rw[this,Z4E]
def C2U(p:List A0w):(A4n p).length<=18:=by
 unfold A4n;split
 .rename_i h;simp only[B1Q,Z0f,Z0k]at h;have:=C1n p;omega
 .simp
def B9r{M M1 M'}{l}{v}(hg:Grow M M1)(h:A4x M1 l v M'):A4x M l v M':=⟨h.1,hg.trans h.2.1,λf hf=>Z0R hg.1 (h.2.2 f hf)⟩
def D0f(p:List A0w)(o:Own)(a:p.length<=1000000):A0e (WC gl) 60 [.list 2 (A0T p) o] M (A4x M (A4n p)):=by
 refine A0n hB func60 ?_;have c:∀M:Mem,(M++[A0m.cells 110 [I 0,.list 2 (A0T p) o,S ⟨#[]⟩,I 0,I 0]])[M.length]?=some (.cells 110 [I 0,.list 2 (A0T p) o,S ⟨#[]⟩,I 0,I 0]):=by simp
 simp -dsimp[A0x,A1b,A1o,A0k,A0i,A0d,A0b (c _)];refine A0q func116 (C3R gl _ p o a) ?_;rintro r M' ⟨rfl,b⟩;have hg:Grow M M':=Grow.trans (.app none M _) b;have hc:=b.get (c M) (by simp);cases hb:B1Q p
 .simp -dsimp[A4n,hb];exact⟨.inl ⟨rfl,rfl⟩,hg,by simp[A1m]⟩
 .simp -dsimp[A0b hc];refine A0q func117 (D4g gl M' p o a (C2c hb)) ?_;intro v M2 h;simp -dsimp[A4n,hb];exact B9r hg h
end
def A3x:ByteArray:=⟨#[116,104,105,115]⟩
def A5F:ByteArray:=⟨#[116,104,101]⟩
def A7s:ByteArray:=⟨#[115,97,105,100]⟩
def A6z:ByteArray:=⟨#[102,111,114,109,101,114,108,121]⟩
def toW:ByteArray:=⟨#[116,111]⟩
def A2J:List ByteArray:=[⟨#[]⟩,⟨#[112,97,114,116,115]⟩,⟨#[115,101,99,116,105,111,110,115]⟩,⟨#[112,97,114,97,103,114,97,112,104,115]⟩,⟨#[116,97,98,108,101,115]⟩,⟨#[114,111,119,115]⟩,⟨#[]⟩,⟨#[110,111,116,101,115]⟩]
def B1h:List ByteArray->ByteArray->Nat->Int
 |[],_,_=>-1
 |a::r,s,i=>if a=s then i else B1h r s (i+1)
def A2I(l:List ByteArray)(s:ByteArray):Int:=if s=⟨#[]⟩then 0 else max (B1h l s 0) 0
def kS:ByteArray->Int:=A2I A1x
def kP:ByteArray->Int:=A2I A2J
def A7t(s:ByteArray):ByteArray:=if s.size=0 then s else if A4a (A0P s (s.size-1))then s.extract 0 (s.size-1)else s
def A2S(s:ByteArray):Bool:=decide (s.size=0)||!A4a (A0P s (s.size-1))
def B4f{s}(h:A2S s=true):A7t s=s:=by
 unfold A2S at h;unfold A7t;by_cases c:s.size=0
 .rw[Z0e c]
 .simp only[c,Z4D,Z1J,Z2E]at h;rw[Z0d c,h];rfl
def D7v{s}(h:A2S s=false):A7t s≠s/\0<s.size/\A4a (A0P s (s.size-1))=true/\A7t s=s.extract 0 (s.size-1):=by
 unfold A2S at h;unfold A7t;by_cases c:s.size=0
 .simp[c]at h
 .simp only[c,Z4D,Z1J,Bool.not_eq_false']at h;rw[Z0d c,Z0e h];refine⟨λe=>?_,by omega,h,rfl⟩;have:=congrArg ByteArray.size e;simp at this;omega
def B6r{p:Int->Bool}{s}:∀n i,A1M p s n i<0->∀j,i<=j->j<i+n->p (A0P s j)=false
 |0,i,_,j,h1,h2=>by omega
 |n+1,i,h,j,h1,h2=>by
  unfold A1M at h;by_cases c:p (A0P s i)=true
  .rw[Z0e c]at h;omega
  .rw[Z0d c]at h;by_cases e:j=i
   .subst e;simpa using c
   .exact B6r n (i+1) h j (by omega) (by omega)
def C6E{p:Int->Bool}{s}:∀n i,0<=A1M p s n i->i<=A1M p s n i/\A1M p s n i<i+n/\∀j,i<=j->(j:Int)<A1M p s n i->p (A0P s j)=false
 |0,i,h=>by simp[A1M]at h
 |n+1,i,h=>by
  unfold A1M at h|-;by_cases c:p (A0P s i)=true
  .rw[Z0e c];exact⟨by omega,by omega,λj h1 h2=>by omega⟩
  .rw[Z0d c]at h|-;obtain⟨a,b,d⟩:=C6E n (i+1) h;refine⟨by omega,by omega,λj h1 h2=>?_⟩;by_cases e:j=i
   .subst e;simpa using c
   .exact d j (by omega) h2
def C0Z{s}:A1A s<=s.size/\∀j,j<A1A s->A1j 48 57 (A0P s j)=false:=by
 unfold A1A;by_cases c:A1M (A1j 48 57) s s.size 0<0
 .simp only[c,Z0T];exact⟨Z0n _,λj h=>B6r _ _ c j (by omega) (by omega)⟩
 .simp only[c,Z1i];obtain⟨a,b,d⟩:=C6E (p:=A1j 48 57) (s:=s) s.size 0 (by omega);exact⟨by omega,λj h=>d j (by omega) (by omega)⟩
def A8Y{s}(h:A0O s=true):A2S s=true/\0<s.size:=by
 unfold A0O at h;simp only[Z0f,Z0k]at h;obtain⟨⟨⟨⟨h1,h2⟩,h3⟩,h4⟩,h5⟩:=h;obtain⟨d1,d2⟩:=C0Z (s:=s);have hs:0<s.size:=by omega
 refine⟨?_,hs⟩;unfold A2S;have key:A4a (A0P s (s.size-1))=false:=by
  by_cases c:s.size-1<A1A s
  .have:=d2 _ c;simp only[A1j,Z1Y,Z1N]at this;simp only[A4a,Z1Y,Z1N];omega
  .have:=B6r _ _ h5 (s.size-1) (by omega) (by omega);simp only[A1j,Z1Y,Z1N]at this;simp only[A4a,Z1Y,Z1N];omega
 rw[key];simp
def B0B{s}(h:0<kS s):s∈A1x.drop 1:=by
 unfold kS A2I at h;by_cases c:s=⟨#[]⟩
 .rw[Z0e c]at h;omega
 .rw[Z0d c]at h;simp only[A1x,Z1U,Z1h,Z0s,Z1x,Z2G];simp only[A1x,B1h]at h;refine Z2P λhn=>?_;simp only[Z2N]at hn;obtain⟨a1,a2,a3,a4,a5,a6,a7⟩:=hn;rw[Z0d (Z2y c),Z0d (Z2y a1),Z0d (Z2y a2),Z0d (Z2y a3),Z0d (Z2y a4),Z0d (Z2y a5),Z0d (Z2y a6),Z0d (Z2y a7)]at h;omega
def A8X{s}(h:0<kP s):s∈A2J.drop 1/\s≠⟨#[]⟩:=by
 unfold kP A2I at h;by_cases c:s=⟨#[]⟩
 .rw[Z0e c]at h;omega
 .rw[Z0d c]at h;refine⟨?_,c⟩;simp only[A2J,Z1U,Z1h,Z0s,Z1x,Z2G];simp only[A2J,B1h]at h;refine Z2P λhn=>?_;simp only[Z2N]at hn;obtain⟨a1,a2,a3,a4,a5,a6,a7⟩:=hn;rw[Z0d (Z2y c),Z0d (Z2y a1),Z0d (Z2y a2),Z0d (Z2y a3),Z0d (Z2y a4),Z0d (Z2y a5),Z0d (Z2y a6),Z0d (Z2y a7)]at h;omega
def A8H:∀s∈A1x.drop 1,A2S s=true/\kP s=0/\1<=kS s/\kS s<=7/\s≠A3x/\s≠A5F/\s≠A6z/\s≠A2O:=by decide+kernel
def B5n:∀s∈A2J.drop 1,s≠⟨#[]⟩->A2S s=true/\kS s=0/\1<=kP s/\kP s<=7/\kP s≠6/\s≠A3x/\s≠A5F/\s≠A6z/\s≠A2O:=by decide+kernel
def A3l:A2S A3x=true/\A2S A5F=true/\A2S A7s=true/\A2S A6z=true/\A2S toW=true/\A2S A2O=true/\A3x≠A2O/\A5F≠A2O/\A6z≠A2O/\A5F≠A3x/\A6z≠A3x/\A6z≠A5F:=by decide+kernel
def D0B:¬0<kS A3x/\¬0<kS A5F/\¬0<kS A6z/\¬0<kS A2O/\¬0<kP A3x/\¬0<kP A5F/\¬0<kP A6z/\¬0<kP A2O:=by decide+kernel
def A3n:A0w:=⟨0,⟨#[]⟩⟩
def prs:Nat->List ByteArray->List A0w
 |n+1,a::b::r=>if 0<kS a/\A0O b=true then⟨kS a,b⟩::prs n r else[]
 |_,_=>[]
def A2U:List ByteArray->List A0w×List ByteArray
 |a::b::r=>if 0<kS a then(⟨kS a,b⟩::(A2U r).1,(A2U r).2)else([],a::b::r)
 |r=>([],r)
def bkN(w:List ByteArray):Nat:=match w with
 |[]=>0
 |a::_=>if a=A2O then 1 else 0
def bkS(w:List ByteArray):List A0w:=if bkN w=1 then[A3n]else[]
def A3e(w:List ByteArray):List A0w:=bkS w++prs (9-bkN w) (w.drop (bkN w))
def A1h(w:List ByteArray):Nat:=bkN w+2*(prs (9-bkN w) (w.drop (bkN w))).length
def A2L(w:List ByteArray):Option (List A0w×Nat):=match w with
 |[]=>none
 |a::r=>if 0<kS a then some (⟨kS a,⟨#[]⟩⟩::prs 8 r,1+2*(prs 8 r).length)else none
def A4d(w:List ByteArray):Option (A0w×ByteArray):=match w with
 |a::b::c::d::_=>if 0<kP a/\A0O b=true/\c=toW/\A0O d=true then some (⟨kP a,b⟩,d)else none
 |_=>none
abbrev Cq:=Int×List A0w×ByteArray
def A3h(k:Int)(w:List ByteArray):Option (Cq×Nat):=if A1h w=bkN w then none else some ((k,A3e w,⟨#[]⟩),A1h w)
def A9a(w:List ByteArray):Option (Cq×Nat):=match w with
 |[]=>none
 |a::r=>
  if a=A3x then(A2L r).map λx=>((2,x.1,⟨#[]⟩),x.2+1)
  else if a=A5F then match r with
   |[]=>none
   |b::r2=>if b=A7s then(A2L r2).map λx=>((3,x.1,⟨#[]⟩),x.2+2)else none
  else if a=A6z then(A3h 4 r).map λx=>(x.1,x.2+1)
  else match A4d ((a::r).drop (A1h (a::r)))with
   |some (s,d)=>if(A3e (a::r)).length<=8 then some ((1,A3e (a::r)++[s],d),A1h (a::r)+4)else A3h 0 (a::r)
   |none=>A3h 0 (a::r)
def A5f(p:List A0w):Bool:=match p with
 |[]=>false
 |s::p'=>decide (s.lab=⟨#[]⟩)&&decide (1<=s.k)&&decide (s.k<=7)&&p'.all A1k
def B5q(p:List A0w):Int:=match p.getLast? with
 |none=>0
 |some s=>s.k
def A2M(k:Int)(p:List A0w)(to:ByteArray):Bool:=decide (p.length<=9)&&(if k=0\/k=4 then decide (to=⟨#[]⟩)&&A1X p else if k=1 then A0O to&&A1X p&&decide (B5q p≠6)else if k=2\/k=3 then decide (to=⟨#[]⟩)&&A5f p else false)
def A1C(w:List ByteArray):Int×List A0w×List ByteArray:=match w with
 |a::b::c::r=>if a=A3x/\0<kS b then(2,[⟨kS b,⟨#[]⟩⟩],c::r)else if a=A5F/\b=A7s/\0<kS c then(3,[⟨kS c,⟨#[]⟩⟩],r)else if a=A6z then(4,[],b::c::r)else(0,[],a::b::c::r)
 |[a,b]=>if a=A3x/\0<kS b then(2,[⟨kS b,⟨#[]⟩⟩],[])else if a=A6z then(4,[],[b])else(0,[],[a,b])
 |[a]=>if a=A6z then(4,[],[])else(0,[],[a])
 |[]=>(0,[],[])
def A3O(k:Int)(w:List ByteArray):List A0w×List ByteArray:=if k=2\/k=3 then([],w)else(bkS w,w.drop (bkN w))
def A2D(k:Int)(p:List A0w)(r:List ByteArray):Cq×List ByteArray:=match r with
 |[a,b,c,d]=>if k=0/\0<kP a/\c=toW then((1,p++[⟨kP a,b⟩],d),[])else((k,p,⟨#[]⟩),r)
 |_=>((k,p,⟨#[]⟩),r)
def A7P(x:Cq×List ByteArray):Option Cq:=if x.2=[]/\A2M x.1.1 x.1.2.1 x.1.2.2=true then some x.1 else none
def A1S(k:Int)(p:List A0w)(w:List ByteArray):Option Cq:=A7P (A2D k (p++(A3O k w).1++(A2U (A3O k w).2).1) (A2U (A3O k w).2).2)
def A1G(w:List ByteArray):Option Cq:=A1S (A1C w).1 (A1C w).2.1 (A1C w).2.2
def A3Z:∀n w,(prs n w).all A1k=true/\(prs n w).length<=n/\2*(prs n w).length<=w.length
 |0,w=>by cases w<;>simp[prs]
 |n+1,[]=>by simp[prs]
 |n+1,[a]=>by simp[prs]
 |n+1,a::b::r=>by
  unfold prs;split
  .rename_i h;obtain⟨h1,h2,h3⟩:=A3Z n r;obtain⟨f1,f2,f3,f4,-⟩:=A8H a (B0B h.1);refine⟨?_,by simp;omega,by simp;omega⟩;rw[Z1n,h1,Z3z];simp[A1k,f3,f4,h.2]
  .simp
def B4K:∀n w,A2U (w.take (2*(prs n w).length))=(prs n w,[])
 |0,w=>by cases w<;>simp[prs,A2U]
 |n+1,[]=>by simp[prs,A2U]
 |n+1,[a]=>by simp[prs,A2U]
 |n+1,a::b::r=>by
  unfold prs;split
  .rename_i h;have:=B4K n r;rw[Z0x,show 2*((prs n r).length+1)=2*(prs n r).length+2 from by omega,Z0B,Z0B];unfold A2U;rw[Z0e h.1,this]
  .simp[A2U]
def C6l:∀w,w.length=2*(A2U w).1.length+(A2U w).2.length
 |[]=>by simp[A2U]
 |[a]=>by simp[A2U]
 |a::b::r=>by
  unfold A2U;split
  .have:=C6l r;simp;omega
  .simp
def C2T{a b:ByteArray}{r:List ByteArray}{i:Nat}(h:2<=i):(a::b::r).take i=a::b::r.take (i-2):=by obtain⟨j,rfl⟩:∃j,i=j+2:=⟨i-2,by omega⟩;simp
def B9e:∀n w i,i<=w.length->(A2U (w.take i)).2=[]->(A2U (w.take i)).1.all A1k=true->(A2U (w.take i)).1.length<=n->i<=2*(prs n w).length
 |n,w,0,_,_,_,_=>by omega
 |n,[],i+1,h,_,_,_=>by simp at h
 |n,w,1,h,hr,_,_=>by
  cases w with
  |nil=>simp at h
  |cons a r=>simp[A2U]at hr
 |n,[a],i+2,h,_,_,_=>by simp at h
 |n,a::b::r,i+2,h,hr,ha,hl=>by
  rw[C2T (by omega)]at hr ha hl;simp only[Z2Y]at hr ha hl;unfold A2U at hr ha hl;by_cases c:0<kS a
  .rw[Z0e c]at hr ha hl;simp only[Z1n,Z0f,Z0x]at ha hl hr;cases n with
   |zero=>omega
   |succ n=>
    (have hb:A0O b=true:=by have:=ha.1;simp only[A1k,Z0f]at this;exact this.2);unfold prs
    rw[Z0e ⟨c,hb⟩];have:=B9e n r i (by simp at h;omega) hr ha.2 (by omega);simp;omega
  .rw[Z0d c]at hr;simp at hr
def B8J:∀n w i (a b c d:ByteArray),i<=w.length->(A2U (w.take i)).2=[a,b,c,d]->0<kP a->(A2U (w.take i)).1.all A1k=true->(A2U (w.take i)).1.length<=n->
 (A2U (w.take i)).1=prs (n+1) w/\i=2*(prs (n+1) w).length+4/\∃r,w.drop (2*(prs (n+1) w).length)=a::b::c::d::r
 |n,w,0,a,b,c,d,_,hr,_,_,_=>by simp[A2U]at hr
 |n,[],i+1,a,b,c,d,h,_,_,_,_=>by simp at h
 |n,w,1,a,b,c,d,h,hr,_,_,_=>by
  cases w with
  |nil=>simp at h
  |cons a r=>simp[A2U]at hr
 |n,[x],i+2,a,b,c,d,h,_,_,_,_=>by simp at h
 |n,x::y::r,i+2,a,b,c,d,h,hr,hp,ha,hl=>by
  rw[C2T (by omega)]at hr ha hl|-;simp only[Z2Y]at hr ha hl|-;unfold A2U at hr ha hl|-;by_cases e:0<kS x
  .rw[Z0e e]at hr ha hl|-;simp only[Z1n,Z0f,Z0x]at ha hl hr;cases n with
   |zero=>omega
   |succ n=>
    (have hb:A0O y=true:=by have:=ha.1;simp only[A1k,Z0f]at this;exact this.2);obtain⟨h1,h2,t,h3⟩:=B8J n r i a b c d (by simp at h;omega) hr hp ha.2 (by omega)
    (have he:prs (n+1+1) (x::y::r)=⟨kS x,y⟩::prs (n+1) r:=by rw[prs];rw[Z0e ⟨e,hb⟩]);rw[he]
    refine⟨by rw[h1],by simp;omega,t,?_⟩;rw[Z0x,show 2*((prs (n+1) r).length+1)=2*(prs (n+1) r).length+2 from by omega,Z1U,Z1U,h3]
  .rw[Z0d e]at hr ha hl|-;simp only[Z1a]at hr;obtain⟨rfl,rfl,hr⟩:=hr;(have he:prs (n+1) (x::y::r)=[]:=by rw[prs];rw[Z0d λhh=>e hh.1]);rw[he];have f:=congrArg List.length hr;simp at f h;refine⟨rfl,by simp;omega,r.drop 2,?_⟩;(have:i=2:=by omega);subst this;have h4:r=r.take 2++r.drop 2:=(Z1b 2 r).symm;simp only[Z1B,Nat.mul_zero,Z1h]
   conv=>lhs;rw[h4,hr]
   rfl
def C9v:∀n w (a b c d:ByteArray) r,w.drop (2*(prs n w).length)=a::b::c::d::r->0<kP a->A2U (w.take (2*(prs n w).length+4))=(prs n w,[a,b,c,d]):=by
 have base:∀(w:List ByteArray) (a b c d:ByteArray) r,w=a::b::c::d::r->0<kP a->A2U (w.take 4)=([],[a,b,c,d]):=by rintro w a b c d r rfl hp;have:=(B5n a (A8X hp).1 (A8X hp).2).2.1;simp only[Z0B,Z2w];unfold A2U;rw[Z0d (by omega)]
 intro n;induction n with
 |zero=>
  intro w a b c d r h hp;have e:prs 0 w=[]:=by cases w<;>simp[prs]
  rw[e]at h|-;exact base w a b c d r h hp
 |succ n ih=>
  intro w a b c d r h hp
  match w,h with
  |[],h=>simp[prs]at h
  |[x],h=>simp[prs]at h
  |x::y::w',h=>
   by_cases e:0<kS x/\A0O y=true
   ·(have he:prs (n+1) (x::y::w')=⟨kS x,y⟩::prs n w':=by rw[prs];rw[Z0e e]);rw[he,Z0x,show 2*((prs n w').length+1)=2*(prs n w').length+2 from by omega]at h|-
    rw[Z1U,Z1U]at h;rw[show 2*(prs n w').length+2+4=(2*(prs n w').length+4)+2 from by omega,Z0B,Z0B];unfold A2U;rw[Z0e e.1,ih w' a b c d r h hp]
   ·(have he:prs (n+1) (x::y::w')=[]:=by rw[prs];rw[Z0d e]);rw[he]at h|-
    exact base _ a b c d r h hp
def B2g:∀w,∀s∈(A2U w).1,0<s.k
 |[]=>by simp[A2U]
 |[a]=>by simp[A2U]
 |a::b::r=>by
  unfold A2U;split
  .rename_i h;intro s hs;simp only[Z0s]at hs;rcases hs with rfl|hs
   .exact h
   .exact B2g r s hs
  .simp
def B6G(w:List ByteArray):bkN w<=1:=by
 unfold bkN;split
 .omega
 .split<;>omega
def B1s(w:List ByteArray):(bkS w).length=bkN w:=by
 have:=B6G w;unfold bkS;split
 .simp;omega
 .simp;omega
def C5b{w}{ps}(h:∀s∈ps,0<s.k):A1X (bkS w++ps)=(!ps.isEmpty&&ps.all A1k):=by
 have e:A6r (bkS w++ps)=ps:=by
  unfold bkS;split
  .rfl
  .cases ps with
   |nil=>rfl
   |cons s ps=>have:=h s (by simp);(have hb:A2B s=false:=by unfold A2B;rw[Z0r (by omega)];rfl);simp[A6r,hb]
 unfold A1X;rw[e];cases ps<;>simp
def B2Z{k}(hk:k=0\/k=4){w}{ps}(h:∀s∈ps,0<s.k):A7P ((k,bkS w++ps,⟨#[]⟩),[])=if ps≠[]/\ps.all A1k=true/\bkN w+ps.length<=9 then some (k,bkS w++ps,⟨#[]⟩)else none:=by
 unfold A7P A2M
 simp only[Z0e hk,C5b h,Z0t,B1s,decide_true,Z0L,Z0f,Z0k,Z2u]
 by_cases c:ps=[]
 .subst c;simp
 .have:ps.isEmpty=false:=by cases ps<;>simp_all
  simp only[this,Z2i,Z2u,c,not_false_iff,ne_eq];by_cases c2:ps.all A1k=true<;>by_cases c3:bkN w+ps.length<=9<;>simp[c2,c3]
def B6u{w}{ps}(h:∀s∈ps,0<s.k){a b d}(ha:0<kP a):A7P ((1,bkS w++ps++[⟨kP a,b⟩],d),[])=if ps.all A1k=true/\bkN w+ps.length<=8/\A0O b=true/\A0O d=true then some (1,bkS w++ps++[⟨kP a,b⟩],d)else none:=by
 obtain⟨-,-,f1,f2,f3,-⟩:=B5n a (A8X ha).1 (A8X ha).2
 have c:A1X (bkS w++(ps++[⟨kP a,b⟩]))=(!(ps++[(⟨kP a,b⟩:A0w)]).isEmpty&&(ps++[(⟨kP a,b⟩:A0w)]).all A1k):=C5b λs hs=>by
  simp only[Z0S,Z0I]at hs;rcases hs with hs|rfl
  .exact h s hs
  .exact ha
 have e1:(ps++[(⟨kP a,b⟩:A0w)]).isEmpty=false:=by cases ps<;>rfl
 have e2:A1k ⟨kP a,b⟩=A0O b:=by simp[A1k,f1,f2]
 have e3:B5q (bkS w++ps++[(⟨kP a,b⟩:A0w)])=kP a:=by simp[B5q]
 unfold A7P A2M
 rw[e3]
 simp only[show¬((1:Int)=0\/(1:Int)=4)from by omega,Z1i,Z0T,Z0F,c,e1,Z4j,Z1n,Z3L,Z3z,e2,Z0t,B1s,Z0x,Z1B,Z2i,Z0L,Z0w f3,Z0f,Z0k,Z2u,f3,ne_eq,not_false_iff,Z1D]
 by_cases c4:bkN w+ps.length<=8
 .have c5:bkN w+(ps.length+(0+1))<=9:=by omega
  by_cases c1:ps.all A1k=true<;>by_cases c2:A0O b=true<;>by_cases c3:A0O d=true<;>simp only[c1,c2,c3,c4,c5,Z3R,Z1D,Z2u,Z4g,and_false,Z0T,Z1i,Z0H]
 .have c5:¬bkN w+(ps.length+(0+1))<=9:=by omega
  simp only[c4,c5,Z4g,and_false,Z1i]
def D0G{w}{i}(h:1<=i):bkN (w.take i)=bkN w:=by obtain⟨j,rfl⟩:∃j,i=j+1:=⟨i-1,by omega⟩;cases w<;>simp[bkN]
def C4e{k}(hk:k=0\/k=4)(w:List ByteArray){i}(h:1<=i):A1S k [] (w.take i)=A7P (A2D k (bkS w++(A2U ((w.drop (bkN w)).take (i-bkN w))).1) (A2U ((w.drop (bkN w)).take (i-bkN w))).2):=by
 have h2:¬(k=2\/k=3):=by omega
 unfold A1S A3O
 simp only[Z0d h2]
 have e:bkS (w.take i)=bkS w:=by unfold bkS;rw[D0G h]
 rw[D0G h,e,Z1F,Z2T]
def B1H{k}{p}{r}(h:¬∃a b c d,r=[a,b,c,d]/\k=0/\0<kP a/\c=toW):A2D k p r=((k,p,⟨#[]⟩),r):=by
 unfold A2D;split
 .rename_i a b c d;rw[Z0d λhh=>h ⟨a,b,c,d,rfl,hh⟩]
 .rfl
def C2B{k}(hk:k=0\/k=4)(w:List ByteArray){i}(h:1<=i)(hw:i<=w.length){x}(hx:A1S k [] (w.take i)=some x):(i<=A1h w/\bkN w<A1h w)\/(k=0/\∃s d,A4d (w.drop (A1h w))=some (s,d)/\(A3e w).length<=8/\i=A1h w+4):=by
 have hb:=B6G w
 rw[C4e hk w h]at hx
 have e:=B2g ((w.drop (bkN w)).take (i-bkN w))
 by_cases c:∃a b c d,(A2U ((w.drop (bkN w)).take (i-bkN w))).2=[a,b,c,d]/\k=0/\0<kP a/\c=toW
 .obtain⟨a,b,c,d,hr,rfl,hp,rfl⟩:=c;right;rw[hr]at hx;simp only[A2D,hp,Z3R,Z0T]at hx;rw[B6u e hp]at hx;split at hx
  .rename_i hc;obtain⟨c1,c2,c3,c4⟩:=hc;obtain⟨e1,e2,r,e3⟩:=B8J (8-bkN w) (w.drop (bkN w)) (i-bkN w) a b toW d (by simp;omega) hr hp c1 (by omega);rw[show 8-bkN w+1=9-bkN w from by omega]at e1 e2 e3;(have e4:w.drop (A1h w)=a::b::toW::d::r:=by rw[<-e3,Z2c];rfl);refine⟨rfl,⟨kP a,b⟩,d,?_,?_,?_⟩
   .rw[e4];simp[A4d,hp,c3,c4]
   .unfold A3e;rw[Z0t,B1s,<-e1];omega
   .unfold A1h;omega
  .exact absurd hx (by simp)
 .left;rw[B1H c]at hx;by_cases cr:(A2U ((w.drop (bkN w)).take (i-bkN w))).2=[]
  .rw[cr,B2Z hk e]at hx;split at hx
   .rename_i hc;obtain⟨c1,c2,c3⟩:=hc;have:=B9e (9-bkN w) (w.drop (bkN w)) (i-bkN w) (by simp;omega) cr c2 (by omega);have f:=C6l ((w.drop (bkN w)).take (i-bkN w));rw[cr]at f;have:0<(A2U ((w.drop (bkN w)).take (i-bkN w))).1.length:=Z2f.2 c1;(have g:((w.drop (bkN w)).take (i-bkN w)).length=i-bkN w:=by simp;omega);unfold A1h;simp only[Z1B]at f;omega
   .exact absurd hx (by simp)
  .simp only[A7P,cr,Z4g,Z1i]at hx;exact absurd hx (by simp)
def B8W(w:List ByteArray):A1h w<=w.length/\A1h w<=18:=by
 obtain⟨h1,h2,h3⟩:=A3Z (9-bkN w) (w.drop (bkN w));have:=B6G w;have hb:bkN w<=w.length:=by cases w<;>simp[bkN];split<;>omega
 simp at h3;unfold A1h;omega
def B9i{k}(hk:k=0\/k=4)(w:List ByteArray)(h:bkN w<A1h w):A1S k [] (w.take (A1h w))=some (k,A3e w,⟨#[]⟩):=by
 obtain⟨h1,h2,h3⟩:=A3Z (9-bkN w) (w.drop (bkN w));have hb:=B6G w;have hn:0<(prs (9-bkN w) (w.drop (bkN w))).length:=by unfold A1h at h;omega
 rw[C4e hk w (by omega),show A1h w-bkN w=2*(prs (9-bkN w) (w.drop (bkN w))).length from by unfold A1h;omega,B4K];rw[B1H (by rintro⟨a,b,c,d,e,-⟩;simp at e)];have f:=B2g ((w.drop (bkN w)).take (2*(prs (9-bkN w) (w.drop (bkN w))).length));rw[B4K]at f;rw[B2Z hk f,Z0e ⟨Z2f.1 hn,h1,by show bkN w+(prs (9-bkN w) (w.drop (bkN w))).length<=9;omega⟩];rfl
def C8O(w:List ByteArray){s}{d}(h:A4d (w.drop (A1h w))=some (s,d))(hl:(A3e w).length<=8):A1S 0 [] (w.take (A1h w+4))=some (1,A3e w++[s],d)/\A1h w+4<=w.length:=by
 obtain⟨h1,h2,h3⟩:=A3Z (9-bkN w) (w.drop (bkN w))
 have hb:=B6G w
 unfold A4d at h
 split at h
 .rename_i a b c d' r hd;split at h
  .rename_i hc;obtain⟨c1,c2,rfl,c4⟩:=hc;simp only[Z0b,Z0h]at h;obtain⟨rfl,rfl⟩:=h;have i:=congrArg List.length hd;simp at i;refine⟨?_,by omega⟩;(have f:(w.drop (bkN w)).drop (2*(prs (9-bkN w) (w.drop (bkN w))).length)=a::b::toW::d'::r:=by rw[Z2c];exact hd);have hr:=C9v _ _ a b toW d' r f c1;rw[C4e (.inl rfl) w (by omega),show A1h w+4-bkN w=2*(prs (9-bkN w) (w.drop (bkN w))).length+4 from by unfold A1h;omega];have e:=B2g ((w.drop (bkN w)).take (2*(prs (9-bkN w) (w.drop (bkN w))).length+4));rw[hr]at e|-;simp only[A2D,c1,Z3R,Z0T];(have g:bkN w+(prs (9-bkN w) (w.drop (bkN w))).length<=8:=by unfold A3e at hl;rw[Z0t,B1s]at hl;exact hl);rw[B6u e c1,Z0e ⟨h1,g,c2,c4⟩];rfl
  .exact absurd h (by simp)
 .exact absurd h (by simp)
def C6h{k}(hk:k=2\/k=3){b}(hb:0<kS b)(ps:List A0w)(r:List ByteArray):A7P ((k,⟨kS b,⟨#[]⟩⟩::ps,⟨#[]⟩),r)=if r=[]/\ps.all A1k=true/\ps.length<=8 then some (k,⟨kS b,⟨#[]⟩⟩::ps,⟨#[]⟩)else none:=by
 obtain⟨-,-,f1,f2,-⟩:=A8H b (B0B hb)
 have h1:¬(k=0\/k=4):=by omega
 have h2:¬k=1:=by omega
 unfold A7P A2M A5f
 simp only[Z0d h1,Z0d h2,Z0e hk,f1,f2,decide_true,Z0L,Z3z,Z0f,Z0k,Z0x]
 by_cases c1:r=[]<;>by_cases c2:ps.all A1k=true<;>by_cases c3:ps.length<=8<;>simp[c1,c2,c3]
def C2f{k}(hk:k=2\/k=3){b}(hb:0<kS b)(v:List ByteArray):A1S k [⟨kS b,⟨#[]⟩⟩] v=if(A2U v).2=[]/\(A2U v).1.all A1k=true/\(A2U v).1.length<=8 then some (k,⟨kS b,⟨#[]⟩⟩::(A2U v).1,⟨#[]⟩)else none:=by
 unfold A1S A3O
 simp only[Z0e hk,Z1d,Z4v]
 rw[B1H (by rintro⟨a,b,c,d,-,e,-⟩;omega),C6h hk hb]
def C1m{k}(hk:k=2\/k=3){b}(hb:0<kS b)(r:List ByteArray){i}(hi:i<=r.length){x}(hx:A1S k [⟨kS b,⟨#[]⟩⟩] (r.take i)=some x):i<=2*(prs 8 r).length:=by
 rw[C2f hk hb]at hx;split at hx
 .rename_i h;exact B9e 8 r i hi h.1 h.2.1 h.2.2
 .exact absurd hx (by simp)
def D1c{k}(hk:k=2\/k=3){b}(hb:0<kS b)(r:List ByteArray):A1S k [⟨kS b,⟨#[]⟩⟩] (r.take (2*(prs 8 r).length))=some (k,⟨kS b,⟨#[]⟩⟩::prs 8 r,⟨#[]⟩):=by obtain⟨h1,h2,h3⟩:=A3Z 8 r;rw[C2f hk hb,B4K];rw[Z0e ⟨rfl,h1,h2⟩]
def C2v{a}{x}(h1:¬0<kS a)(h2:¬0<kP a)(h3:a≠A2O):A1S 0 [] (a::x)=none:=by
 have hb:bkN (a::x)=0:=by simp[bkN,h3]
 have hq:A2U (a::x)=([],a::x):=by
  cases x with
  |nil=>rfl
  |cons b r=>unfold A2U;rw[Z0d h1]
 unfold A1S A3O;simp only[show¬((0:Int)=2\/(0:Int)=3)from by omega,Z1i,hb,Z1h,hq];rw[B1H]
 .simp[A7P]
 .rintro⟨a',b,c,d,e,-,e2,-⟩;simp only[Z1a]at e;rw[<-e.1]at e2;exact h2 e2
def B4R{k}(hk:k=0\/k=4):A1S k [] []=none:=by
 have h2:¬(k=2\/k=3):=by omega
 have:=@B2Z k hk [] [] (by simp);simp only[bkS,bkN]at this;unfold A1S A3O;simp only[Z0d h2,bkN,Z4z,A2U,bkS];simpa[A2D]using this
def D3a{b}{x}(hb:0<kS b):A1C (A3x::b::x)=(2,[⟨kS b,⟨#[]⟩⟩],x):=by cases x<;>simp[A1C,hb]
def C8S{b}{x}(hb:¬0<kS b):A1C (A3x::b::x)=(0,[],A3x::b::x):=by have h1:A3x≠A5F:=λe=>A3l.2.2.2.2.2.2.2.2.2.1 e.symm;have h2:A3x≠A6z:=λe=>A3l.2.2.2.2.2.2.2.2.2.2.1 e.symm;cases x<;>simp[A1C,hb,h1,h2]
def D1M{c}{x}(hc:0<kS c):A1C (A5F::A7s::c::x)=(3,[⟨kS c,⟨#[]⟩⟩],x):=by have h1:A5F≠A3x:=A3l.2.2.2.2.2.2.2.2.2.1;simp[A1C,hc,h1]
def D2Z{x}(h:¬∃c y,x=A7s::c::y/\0<kS c):A1C (A5F::x)=(0,[],A5F::x):=by
 have h1:A5F≠A3x:=A3l.2.2.2.2.2.2.2.2.2.1;have h2:A5F≠A6z:=λe=>A3l.2.2.2.2.2.2.2.2.2.2.2 e.symm
 match x,h with
 |[],h=>simp[A1C,h2]
 |[b],h=>simp[A1C,h1,h2]
 |b::c::y,h=>have:¬(b=A7s/\0<kS c):=λhh=>h ⟨c,y,by rw[hh.1],hh.2⟩;simp[A1C,h1,h2];intro e1;exact Int.not_lt.1 λh=>this ⟨e1,h⟩
def D6h{x}:A1C (A6z::x)=(4,[],x):=by
 have h1:A6z≠A3x:=A3l.2.2.2.2.2.2.2.2.2.2.1;have h2:A6z≠A5F:=A3l.2.2.2.2.2.2.2.2.2.2.2
 match x with
 |[]=>simp[A1C]
 |[b]=>simp[A1C,h1]
 |b::c::y=>simp[A1C,h1,h2]
def D2P{a}{x}(h1:a≠A3x)(h2:a≠A5F)(h3:a≠A6z):A1C (a::x)=(0,[],a::x):=by
 match x with
 |[]=>simp[A1C,h3]
 |[b]=>simp[A1C,h1,h3]
 |b::c::y=>simp[A1C,h1,h2,h3]
def D7z(w:List ByteArray)(g:Option (Cq×Nat))(f:List ByteArray->Option Cq):Prop:=match g with
 |some (c,n)=>f (w.take n)=some c/\0<n/\n<=w.length/\n<=23/\∀i,n<i->i<=w.length->f (w.take i)=none
 |none=>∀i,i<=w.length->f (w.take i)=none
def A7S{α:Type}{o:Option α}(h:∀x,o≠some x):o=none:=by
 cases o with
 |none=>rfl
 |some x=>exact absurd rfl (h x)
def B3O(w:List ByteArray):∀i,i<=w.length->(∀s d,A4d (w.drop (A1h w))=some (s,d)->(A3e w).length<=8->i≠A1h w+4)->(bkN w=A1h w\/A1h w<i)->A1S 0 [] (w.take i)=none:=by
 intro i hi hr hp;refine A7S λx hx=>?_;cases i with
 |zero=>rw[Z2w,B4R (.inl rfl)]at hx;exact absurd hx (by simp)
 |succ i=>
  rcases C2B (.inl rfl) w (by omega) hi hx with⟨h1,h2⟩|⟨-,s,d,h1,h2,h3⟩
  .omega
  .exact hr s d h1 h2 h3
def C7s(w:List ByteArray):∀i,i<=w.length->(bkN w=A1h w\/A1h w<i)->A1S 4 [] (w.take i)=none:=by
 intro i hi hp;refine A7S λx hx=>?_;cases i with
 |zero=>rw[Z2w,B4R (.inr rfl)]at hx;exact absurd hx (by simp)
 |succ i=>
  rcases C2B (.inr rfl) w (by omega) hi hx with⟨h1,h2⟩|⟨h0,-⟩
  .omega
  .omega
def B4v(w:List ByteArray):bkN w<=A1h w:=by unfold A1h;omega
def B8w(a:ByteArray)(r:List ByteArray):A9a (a::r)=(
 (if a=A3x then(A2L r).map λx=>((2,x.1,⟨#[]⟩),x.2+1)
 else if a=A5F then match r with
  |[]=>none
  |b::r2=>if b=A7s then(A2L r2).map λx=>((3,x.1,⟨#[]⟩),x.2+2)else none
 else if a=A6z then(A3h 4 r).map λx=>(x.1,x.2+1)
 else match A4d ((a::r).drop (A1h (a::r)))with
  |some (s,d)=>if(A3e (a::r)).length<=8 then some ((1,A3e (a::r)++[s],d),A1h (a::r)+4)else A3h 0 (a::r)
  |none=>A3h 0 (a::r)):Option (Cq×Nat)):=rfl
def B5e(w:List ByteArray):D7z w (A9a w) A1G:=by
 obtain⟨t1,t2,t3,t4,t5,t6,t7,t8⟩:=D0B;obtain⟨-,-,-,-,-,-,b1,b2,b3,-⟩:=A3l;cases w with
 |nil=>intro i hi;rw[List.take_nil];exact B4R (.inl rfl)
 |cons a r=>
  have z:A1G []=none:=B4R (.inl rfl);rw[B8w];by_cases c1:a=A3x
  .subst c1;rw[Z0e rfl];have f:∀x,A1S 0 [] (A3x::x)=none:=λx=>C2v t1 t5 b1;cases r with
   |nil=>
    intro i hi
    match i,hi with
    |0,_=>exact z
    |1,_=>exact f []
    |i+2,hi=>simp at hi
   |cons b r=>
    by_cases c2:0<kS b
    .simp only[A2L,Z0e c2,Z1C];(have hx:∀i,A1G ((A3x::b::r).take (i+2))=A1S 2 [⟨kS b,⟨#[]⟩⟩] (r.take i):=λi=>by rw[Z0B,Z0B];unfold A1G;rw[D3a c2]);obtain⟨h1,h2,h3⟩:=A3Z 8 r;refine⟨?_,by omega,by simp;omega,by omega,λi h4 h5=>?_⟩
     .rw[show 1+2*(prs 8 r).length+1=2*(prs 8 r).length+2 from by omega,hx];exact D1c (.inl rfl) c2 r
     .obtain⟨j,rfl⟩:∃j,i=j+2:=⟨i-2,by omega⟩;rw[hx];refine A7S λx he=>?_;have:=C1m (.inl rfl) c2 r (by simp at h5;omega) he;omega
    .simp only[A2L,Z0d c2,Option.map_none];intro i hi
     match i,hi with
     |0,_=>exact z
     |1,_=>exact f []
     |i+2,hi=>rw[Z0B,Z0B];unfold A1G;rw[C8S c2];exact f _
  .rw[Z0d c1];by_cases c2:a=A5F
   .subst c2;rw[Z0e rfl];have f:∀x,A1S 0 [] (A5F::x)=none:=λx=>C2v t2 t6 b2;(have no:∀x,(¬∃c y,x=A7s::c::y/\0<kS c)->A1G (A5F::x)=none:=λx h=>by unfold A1G;rw[D2Z h];exact f x);cases r with
    |nil=>
     intro i hi
     match i,hi with
     |0,_=>exact z
     |i+1,_=>rw[Z0B];exact no _ (by rintro⟨c,y,e,-⟩;simp at e)
    |cons b r=>
     by_cases c3:b=A7s
     .subst c3;simp only[Z0T];cases r with
      |nil=>
       intro i hi
       match i,hi with
       |0,_=>exact z
       |i+1,_=>rw[Z0B];refine no _ ?_;rintro⟨c,y,e,-⟩;have:=congrArg List.length e;simp at this;omega
      |cons c r=>
       by_cases c4:0<kS c
       .simp only[A2L,Z0e c4,Z1C];(have hx:∀i,A1G ((A5F::A7s::c::r).take (i+3))=A1S 3 [⟨kS c,⟨#[]⟩⟩] (r.take i):=λi=>by rw[Z0B,Z0B,Z0B];unfold A1G;rw[D1M c4]);obtain⟨h1,h2,h3⟩:=A3Z 8 r;refine⟨?_,by omega,by simp;omega,by omega,λi h4 h5=>?_⟩
        .rw[show 1+2*(prs 8 r).length+2=2*(prs 8 r).length+3 from by omega,hx];exact D1c (.inr rfl) c4 r
        .obtain⟨j,rfl⟩:∃j,i=j+3:=⟨i-3,by omega⟩;rw[hx];refine A7S λx he=>?_;have:=C1m (.inr rfl) c4 r (by simp at h5;omega) he;omega
       .simp only[A2L,Z0d c4,Option.map_none];intro i hi
        match i,hi with
        |0,_=>exact z
        |i+1,_=>
         rw[Z0B];refine no _ ?_;rintro⟨c',y,e,e2⟩
         match i,e with
         |0,e=>simp at e
         |1,e=>simp at e
         |i+2,e=>rw[Z0B,Z0B]at e;simp only[Z1a]at e;rw[e.2.1]at c4;exact c4 e2
     .simp only[Z0d c3];intro i hi
      match i,hi with
      |0,_=>exact z
      |1,_=>exact no [] (by rintro⟨c,y,e,-⟩;simp at e)
      |i+2,_=>rw[Z0B,Z0B];refine no _ ?_;rintro⟨c,y,e,-⟩;simp only[Z1a]at e;exact c3 e.1
   .rw[Z0d c2];by_cases c3:a=A6z
    .subst c3;rw[Z0e rfl];(have hx:∀i,A1G ((A6z::r).take (i+1))=A1S 4 [] (r.take i):=λi=>by rw[Z0B];unfold A1G;rw[D6h]);obtain⟨h1,h2⟩:=B8W r;have hb:=B4v r;unfold A3h;by_cases c4:A1h r=bkN r
     .rw[Z0e c4];intro i hi;cases i with
      |zero=>exact z
      |succ i=>rw[hx];exact C7s r i (by simpa using hi) (.inl c4.symm)
     .rw[Z0d c4];refine⟨?_,by simp,by simp;omega,by simp;omega,λi h4 h5=>?_⟩
      .rw[hx];exact B9i (.inr rfl) r (by omega)
      .simp at h4;obtain⟨j,rfl⟩:∃j,i=j+1:=⟨i-1,by omega⟩;rw[hx];exact C7s r j (by simpa using h5) (.inr (by omega))
    .rw[Z0d c3];(have hx:∀i,1<=i->A1G ((a::r).take i)=A1S 0 [] ((a::r).take i):=λi h=>by obtain⟨j,rfl⟩:∃j,i=j+1:=⟨i-1,by omega⟩;rw[Z0B];unfold A1G;rw[D2P c1 c2 c3]);have k:∀i,A1S 0 [] ((a::r).take i)=none->A1G ((a::r).take i)=none:=λi h=>by
      cases i with
      |zero=>exact z
      |succ i=>rw[hx _ (by omega)];exact h
     generalize a::r=w at*;obtain⟨h1,h2⟩:=B8W w;have hb:=B4v w;have g:(∀s d,A4d (w.drop (A1h w))=some (s,d)->¬(A3e w).length<=8)->D7z w (A3h 0 w) A1G:=by
      intro hr;unfold A3h;by_cases c4:A1h w=bkN w
      .rw[Z0e c4];intro i hi;exact k i (B3O w i hi (λs d e e2=>absurd e2 (hr s d e)) (.inl c4.symm))
      .rw[Z0d c4];refine⟨?_,by omega,h1,by omega,λi h4 h5=>?_⟩
       .rw[hx _ (by omega)];exact B9i (.inl rfl) w (by omega)
       .exact k i (B3O w i h5 (λs d e e2=>absurd e2 (hr s d e)) (.inr h4))
     split
     .rename_i s d e;by_cases c5:(A3e w).length<=8
      .rw[Z0e c5];obtain⟨g1,g2⟩:=C8O w e c5;refine⟨?_,by omega,g2,by omega,λi h4 h5=>?_⟩
       .rw[hx _ (by omega)];exact g1
       .exact k i (B3O w i h5 (λs d e e2=>by omega) (.inr (by omega)))
      .rw[Z0d c5];exact g λs' d' e'=>c5
     .rename_i e;exact g λs' d' e'=>absurd e' (by rw[e];simp)
def A5z:List ByteArray->List ByteArray
 |[]=>[]
 |s::r=>A7t s::(if A2S s then A5z r else[])
def A3N(w:List ByteArray):List ByteArray:=w.set (w.length-1) (A7t (w.getD (w.length-1) ⟨#[]⟩))
def B3t(w:List ByteArray):Option Cq:=match A1G w with
 |some c=>some c
 |none=>A1G (A3N w)
def A6v(L:List ByteArray):Nat->Option (Cq×Nat)
 |0=>none
 |n+1=>if 23<n+1 then A6v L n else match B3t (L.take (n+1))with
  |some c=>some (c,n+1)
  |none=>A6v L n
def C0A:∀w,(A2U w).1.all A1k=true->∀s∈w,s∈(A2U w).2\/A2S s=true
 |[],_,s,hs=>by simp at hs
 |[a],_,s,hs=>.inl (by simpa[A2U]using hs)
 |a::b::r,h,s,hs=>by
  unfold A2U at h|-;by_cases c:0<kS a
  .rw[Z0e c]at h|-;simp only[Z1n,Z0f]at h;simp only[Z0s]at hs;rcases hs with rfl|rfl|hs
   .exact .inr (A8H _ (B0B c)).1
   .refine .inr (A8Y ?_).1;have:=h.1;simp only[A1k,Z0f]at this;exact this.2
   .exact C0A r h.2 s hs
  .rw[Z0d c];exact .inl hs
def D5i{x}{c}(h:A7P x=some c):x.2=[]/\A2M x.1.1 x.1.2.1 x.1.2.2=true:=by
 unfold A7P at h;split at h
 .rename_i hh;exact hh
 .exact absurd h (by simp)
def B2X{p}(h:A1X p=true):∀s∈p,A2B s=false->A1k s=true:=by
 simp only[A1X,Z0f]at h;intro s hs hb;cases p with
 |nil=>simp at hs
 |cons x p=>
  have h2:=h.2;unfold A6r at h2;by_cases c:A2B x=true
  .simp only[c,Z0T]at h2;simp only[Z0s]at hs;rcases hs with rfl|hs
   .rw[hb]at c;exact absurd c (by simp)
   .exact Z0p.1 h2 s hs
  .simp only[c,Z1i]at h2;exact Z0p.1 h2 s hs
def E2n{k}{p}{to}(h:A2M k p to=true):∀s∈p,0<s.k->s.lab≠⟨#[]⟩->A1k s=true:=by
 intro s hs hk hl;simp only[A2M,Z0f]at h;have h2:=h.2;have hb:A2B s=false:=by unfold A2B;rw[Z0r (by omega)];rfl
 split at h2
 .simp only[Z0f]at h2;exact B2X h2.2 s hs hb
 .split at h2
  .simp only[Z0f]at h2;exact B2X h2.1.2 s hs hb
  .split at h2
   .simp only[Z0f]at h2;cases p with
    |nil=>simp at hs
    |cons x p=>
     simp only[A5f,Z0f,Z0k]at h2;simp only[Z0s]at hs;rcases hs with rfl|hs
     .exact absurd h2.2.1.1.1 hl
     .exact Z0p.1 h2.2.2 s hs
   .exact absurd h2 (by simp)
def C4U{k}{p q}{to}(h:A2M k (p++q) to=true)(hq:∀s∈q,0<s.k)(hp:k=2\/k=3->p≠[]):q.all A1k=true:=by
 refine Z0p.2 λs hs=>?_;have hb:A2B s=false:=by have:=hq s hs;unfold A2B;rw[Z0r (by omega)];rfl
 have a:s∈p++q:=by simp[hs]
 simp only[A2M,Z0f]at h;have h2:=h.2;split at h2
 .simp only[Z0f]at h2;exact B2X h2.2 s a hb
 .split at h2
  .simp only[Z0f]at h2;exact B2X h2.1.2 s a hb
  .split at h2
   .rename_i hk;simp only[Z0f]at h2;cases p with
    |nil=>exact absurd rfl (hp hk)
    |cons x p=>simp only[Z0V,A5f,Z0f,Z0k]at h2;exact Z0p.1 h2.2.2 s (by simp[hs])
   .exact absurd h2 (by simp)
def C8A{k}{p}{w}{c}(hp:k=2\/k=3->p≠[])(h:A1S k p w=some c):∀s∈w,A2S s=true:=by
 intro s hs;unfold A1S at h;obtain⟨h1,h2⟩:=D5i h;have f:s∈(A3O k w).2\/A2S s=true:=by
  unfold A3O;split
  .exact .inl hs
  .cases w with
   |nil=>simp at hs
   |cons a w=>
    simp only[bkN];split
    .rename_i e;simp only[Z0s]at hs;rcases hs with rfl|hs
     .right;rw[e];exact A3l.2.2.2.2.2.1
     .exact .inl (by simpa using hs)
    .exact .inl (by simpa using hs)
 rcases f with f|f
 .have l:=B2g (A3O k w).2;have j:=C0A (A3O k w).2;have m:k=2\/k=3->p++(A3O k w).1≠[]:=by intro hk e;exact hp hk (List.append_eq_nil_iff.1 e).1
  generalize(A3O k w).2=v at*;generalize p++(A3O k w).1=p' at*;by_cases c:∃a b c d,(A2U v).2=[a,b,c,d]/\k=0/\0<kP a/\c=toW
  .obtain⟨a,b,c,d,hr,rfl,i,rfl⟩:=c;rw[hr]at h1 h2 j;simp only[A2D,i,Z3R,Z0T]at h1 h2;rw[Z0F]at h2;have g:=C4U h2 (λs hs=>by
    simp only[Z0S,Z0I]at hs;rcases hs with hs|rfl
    .exact l s hs
    .exact i) (by omega)
   simp only[Z4j,Z1n,Z3L,Z3z,Z0f]at g;rcases j g.1 s f with hm|hm
   .simp only[Z0s,Z1x,Z2G]at hm;rcases hm with rfl|rfl|rfl|rfl
    .exact(B5n _ (A8X i).1 (A8X i).2).1
    .have:=g.2;simp only[A1k,Z0f]at this;exact(A8Y this.2).1
    .exact A3l.2.2.2.2.1
    .simp only[A2M,Z0f]at h2;have h3:=h2.2;simp only[show¬((1:Int)=0\/(1:Int)=4)from by omega,Z1i,Z0T,Z0f]at h3;exact(A8Y h3.1.1).1
   .exact hm
  .rw[B1H c]at h1 h2;simp only at h1 h2;rw[h1]at j;rcases j (C4U h2 l m) s f with hm|hm
   .simp at hm
   .exact hm
 .exact f
def C0U{w}{c}(h:A1G w=some c):∀s∈w,A2S s=true:=by
 obtain⟨w1,w2,w3,w4,w5,w6,-⟩:=A3l;unfold A1G at h;have key:((A1C w).1=2\/(A1C w).1=3->(A1C w).2.1≠[])/\∀s∈w,s∈(A1C w).2.2\/A2S s=true:=by
  unfold A1C;split
  .split
   .rename_i hh;refine⟨λ_=>by simp,λs hs=>?_⟩;simp only[Z0s]at hs|-;rcases hs with rfl|rfl|hs
    .right;rw[hh.1];exact w1
    .exact .inr (A8H _ (B0B hh.2)).1
    .exact .inl hs
   .split
    .rename_i hh;refine⟨λ_=>by simp,λs hs=>?_⟩;simp only[Z0s]at hs|-;rcases hs with rfl|rfl|rfl|hs
     .right;rw[hh.1];exact w2
     .right;rw[hh.2.1];exact w3
     .exact .inr (A8H _ (B0B hh.2.2)).1
     .exact .inl hs
    .split
     .rename_i hh;refine⟨λe=>by simp at e,λs hs=>?_⟩;rw[Z0s]at hs;rcases hs with rfl|hs
      .right;rw[hh];exact w4
      .exact .inl hs
     .exact⟨λe=>by simp at e,λs hs=>.inl hs⟩
  .split
   .rename_i hh;refine⟨λ_=>by simp,λs hs=>?_⟩;simp only[Z0s,Z1x,Z2G]at hs|-;rcases hs with rfl|rfl
    .right;rw[hh.1];exact w1
    .right;exact(A8H _ (B0B hh.2)).1
   .split
    .rename_i hh;refine⟨λe=>by simp at e,λs hs=>?_⟩;rw[Z0s]at hs;rcases hs with rfl|hs
     .right;rw[hh];exact w4
     .exact .inl hs
    .exact⟨λe=>by simp at e,λs hs=>.inl hs⟩
  .split
   .rename_i hh;refine⟨λe=>by simp at e,λs hs=>?_⟩;rw[Z0I]at hs;right;rw[hs,hh];exact w4
   .exact⟨λe=>by simp at e,λs hs=>.inl hs⟩
  .exact⟨λe=>by simp at e,λs hs=>.inl hs⟩
 intro s hs;rcases key.2 s hs with hm|hm
 .exact C8A key.1 h s hm
 .exact hm
def A9Y:∀L,(A5z L).length<=L.length
 |[]=>by simp[A5z]
 |s::r=>by have:=A9Y r;unfold A5z;split<;>simp;omega
def C0Q{s}{x}(h:x≠[]):A3N (s::x)=s::A3N x:=by
 cases x with
 |nil=>exact absurd rfl h
 |cons a x=>simp[A3N]
def C2R:∀L n,1<=n->n<=(A5z L).length->(A5z L).take n=A3N (L.take n)
 |[],n,h1,h2=>by simp[A5z]at h2;omega
 |s::r,1,_,_=>by simp[A5z,A3N]
 |s::r,n+2,_,h2=>by
  unfold A5z at h2|-;by_cases c:A2S s=true
  .rw[Z0e c]at h2|-;simp only[Z0x]at h2;rw[Z0B,Z0B,C0Q,B4f c,C2R r (n+1) (by omega) (by omega)];have:=A9Y r;intro e;have:=congrArg List.length e;simp at this;rw[this]at h2;simp[A5z]at h2
  .rw[Z0d c]at h2;simp at h2
def C1f:∀L n,(A5z L).length<n->n<=L.length->∃s∈L.take (n-1),A2S s=false
 |[],n,h1,h2=>by simp at h2;omega
 |s::r,n,h1,h2=>by
  unfold A5z at h1;by_cases c:A2S s=true
  .rw[Z0e c]at h1;simp only[Z0x]at h1 h2;obtain⟨m,rfl⟩:∃m,n=m+2:=⟨n-2,by omega⟩;obtain⟨x,hx,hc⟩:=C1f r (m+1) (by omega) (by omega);refine⟨x,?_,hc⟩;simp only[Z2Y]at hx;rw[show m+2-1=m+1 from by omega,Z0B];exact Z1v _ hx
  .rw[Z0d c]at h1;simp only[Z0x,Z1B]at h1;obtain⟨m,rfl⟩:∃m,n=m+2:=⟨n-2,by omega⟩;exact⟨s,by rw[show m+2-1=m+1 from by omega,Z0B];simp,by simpa using c⟩
def C6e(L:List ByteArray)(n:Nat)(h:n+1<=L.length):L.take (n+1)=L.take n++[L[n]'(by omega)]:=by rw[Z0A (by omega)]
def B3j(x:List ByteArray)(s:ByteArray):A3N (x++[s])=x++[A7t s]:=by simp[A3N,Z1O]
def C2Z(L:List ByteArray)(n:Nat)(h:n+1<=L.length):B3t (L.take (n+1))=if n+1<=(A5z L).length then A1G ((A5z L).take (n+1))else none:=by
 have no:∀w,(∃s∈w,A2S s=false)->A1G w=none:=λw ⟨s,hs,hc⟩=>A7S λc e=>by rw[C0U e s hs]at hc;exact absurd hc (by simp)
 by_cases c:n+1<=(A5z L).length
 .rw[Z0e c,C2R L (n+1) (by omega) c];unfold B3t;rw[C6e L n h,B3j];by_cases hc:A2S (L[n]'(by omega))=true
  .rw[B4f hc];split
   .rename_i e;exact e.symm
   .rfl
  .rw[no (L.take n++[L[n]'(by omega)]) ⟨L[n]'(by omega),Z2z _ (Z0I.2 rfl),by simpa using hc⟩]
 .rw[Z0d c];obtain⟨s,hs,hc⟩:=C1f L (n+1) (by omega) h;simp only[Z2Y]at hs;unfold B3t;rw[C6e L n h,B3j,no _ ⟨s,Z1P _ hs,hc⟩];exact no _ ⟨s,Z1P _ hs,hc⟩
def B3Q(L:List ByteArray){c}{m}(hg:D7z (A5z L) (some (c,m)) A1G):∀n,m<=n->n<=L.length->A6v L n=some (c,m)
 |0,h,_=>by have:=hg.2.1;omega
 |n+1,h,hl=>by
  obtain⟨g1,g2,g3,g4,g5⟩:=hg;unfold A6v;by_cases c1:23<n+1
  .rw[Z0e c1];exact B3Q L ⟨g1,g2,g3,g4,g5⟩ n (by omega) (by omega)
  .rw[Z0d c1,C2Z L n hl];by_cases e:n+1=m
   .subst e;rw[Z0e g3,g1]
   .have:(if n+1<=(A5z L).length then A1G ((A5z L).take (n+1))else none)=none:=by
     split
     .rename_i hh;exact g5 _ (by omega) hh
     .rfl
    rw[this];exact B3Q L ⟨g1,g2,g3,g4,g5⟩ n (by omega) (by omega)
def B9f(L:List ByteArray)(hg:D7z (A5z L) none A1G):∀n,n<=L.length->A6v L n=none
 |0,_=>rfl
 |n+1,hl=>by
  unfold A6v;have:(if n+1<=(A5z L).length then A1G ((A5z L).take (n+1))else none)=none:=by
   split
   .rename_i hh;exact hg _ hh
   .rfl
  rw[C2Z L n hl,this];simp[B9f L hg n (by omega)]
def D4a(L:List ByteArray):A6v L L.length=A9a (A5z L):=by
 have h:=B5e (A5z L);have hl:=A9Y L;cases hc:A9a (A5z L)with
 |none=>rw[hc]at h;exact B9f L h _ (Z0n _)
 |some x=>obtain⟨c,m⟩:=x;rw[hc]at h;exact B3Q L h _ (by have:=h.2.2.1;omega) (Z0n _)
def A2r(i:Nat)(w:List ByteArray):Option (Cq×Nat):=match i with
 |0=>A3h 0 w
 |1=>match A4d (w.drop (A1h w))with
  |some (s,d)=>if(A3e w).length<=8 then some ((1,A3e w++[s],d),A1h w+4)else none
  |none=>none
 |2=>match w with
  |a::r=>if a=A3x then(A2L r).map λx=>((2,x.1,⟨#[]⟩),x.2+1)else none
  |[]=>none
 |3=>match w with
  |a::b::r=>if a=A5F/\b=A7s then(A2L r).map λx=>((3,x.1,⟨#[]⟩),x.2+2)else none
  |_=>none
 |_=>match w with
  |a::r=>if a=A6z then(A3h 4 r).map λx=>(x.1,x.2+1)else none
  |[]=>none
def B3Y(o:Option (Cq×Nat)):Nat:=match o with
 |some (_,n)=>n
 |none=>0
def A5W(a b:Option (Cq×Nat)):Option (Cq×Nat):=match b with
 |some (c,n)=>if B3Y a<n then some (c,n)else a
 |none=>a
def A4H(w:List ByteArray):Nat->Option (Cq×Nat)
 |0=>none
 |i+1=>A5W (A4H w i) (A2r i w)
def B3F{k}{a}{r}(h1:¬0<kS a)(h2:a≠A2O):A3h k (a::r)=none:=by
 have hb:bkN (a::r)=0:=by simp[bkN,h2]
 have hp:∀n,prs n (a::r)=[]:=λn=>by
  cases n with
  |zero=>simp[prs]
  |succ n=>
   cases r with
   |nil=>simp[prs]
   |cons b r=>rw[prs,Z0d λh=>h1 h.1]
 unfold A3h A1h;rw[hb,Z1h,hp];simp
def B3u{a}{r}(h0:¬0<kS a)(h1:¬0<kP a)(h2:a≠A2O):A4d ((a::r).drop (A1h (a::r)))=none:=by
 have hb:bkN (a::r)=0:=by simp[bkN,h2]
 have hp:∀n,prs n (a::r)=[]:=λn=>by
  cases n with
  |zero=>simp[prs]
  |succ n=>
   cases r with
   |nil=>simp[prs]
   |cons b r=>rw[prs,Z0d λh=>h0 h.1]
 unfold A1h;rw[hb,Z1h,hp];simp only[Z1B,Nat.mul_zero,Z0Z,Z1h];unfold A4d;split
 .rename_i e;simp only[Z1a]at e;rw[Z0d];rw[<-e.1]
  exactλh=>h1 h.1
 .rfl
def D0a(w:List ByteArray):A4H w 5=A9a w:=by
 obtain⟨t1,t2,t3,t4,t5,t6,t7,t8⟩:=D0B;obtain⟨-,-,-,-,-,-,b1,b2,b3,n1,n2,n3⟩:=A3l;have pos:∀x:Option (Cq×Nat),(∀c n,x=some (c,n)->0<n)->A5W none x=x:=by
  intro x h;cases x with
  |none=>rfl
  |some y=>obtain⟨c,n⟩:=y;have:=h c n rfl;simp[A5W,B3Y,this]
 have keep:∀a,A5W a none=a:=λa=>rfl;cases w with
 |nil=>simp only[A4H,A2r,A3h,A1h,bkN,A4d,A9a,A5W,Z4z,prs];simp[prs,A5W,B3Y]
 |cons a r=>
  rw[B8w];simp only[A4H];by_cases c1:a=A3x
  .subst c1;rw[Z0e rfl];have f0:A2r 0 (A3x::r)=none:=B3F t1 b1;(have f1:A2r 1 (A3x::r)=none:=by simp only[A2r,B3u t1 t5 b1]);(have f2:A2r 2 (A3x::r)=(A2L r).map λx=>((2,x.1,⟨#[]⟩),x.2+1):=by simp only[A2r,Z0T]);(have f3:A2r 3 (A3x::r)=none:=by cases r<;>simp[A2r,n1.symm]);(have f4:A2r 4 (A3x::r)=none:=by simp[A2r,n2.symm]);rw[f0,f1,f2,f3,f4,keep,keep,keep,keep,pos];intro c n e;cases hb:A2L r with
   |none=>rw[hb]at e;exact absurd e (by simp)
   |some y=>rw[hb]at e;simp at e;omega
  .rw[Z0d c1];(have f2:A2r 2 (a::r)=none:=by simp[A2r,c1]);by_cases c2:a=A5F
   .subst c2;rw[Z0e rfl];have f0:A2r 0 (A5F::r)=none:=B3F t2 b2;(have f1:A2r 1 (A5F::r)=none:=by simp only[A2r,B3u t2 t6 b2]);(have f4:A2r 4 (A5F::r)=none:=by simp[A2r,n3.symm]);rw[f0,f1,f2,f4,keep,keep,keep,keep];cases r with
    |nil=>rfl
    |cons b r=>
     by_cases c3:b=A7s
     .simp only[A2r,c3,Z3R,Z0T];rw[pos];intro c n e;cases hb:A2L r with
      |none=>rw[hb]at e;exact absurd e (by simp)
      |some y=>rw[hb]at e;simp at e;omega
     .simp only[A2r,c3,and_false,Z1i];rfl
   .rw[Z0d c2];(have f3:A2r 3 (a::r)=none:=by cases r<;>simp[A2r,c2]);by_cases c3:a=A6z
    .subst c3;rw[Z0e rfl];have f0:A2r 0 (A6z::r)=none:=B3F t3 b3;(have f1:A2r 1 (A6z::r)=none:=by simp only[A2r,B3u t3 t7 b3]);(have f4:A2r 4 (A6z::r)=(A3h 4 r).map λx=>(x.1,x.2+1):=by simp[A2r]);rw[f0,f1,f2,f3,f4,keep,keep,keep,keep,pos];intro c n e;cases hb:A3h 4 r with
     |none=>rw[hb]at e;exact absurd e (by simp)
     |some y=>rw[hb]at e;simp at e;omega
    .rw[Z0d c3];(have f4:A2r 4 (a::r)=none:=by simp[A2r,c3]);rw[f2,f3,f4,keep,keep,keep];have f:A5W none (A3h 0 (a::r))=A3h 0 (a::r):=by
      refine pos _ λc n e=>?_;have:=B4v (a::r);unfold A3h at e;split at e
      .exact absurd e (by simp)
      .simp only[Z0b,Z0h]at e;omega
     have f0:A2r 0 (a::r)=A3h 0 (a::r):=rfl;rw[f0,f];simp only[A2r];cases e:A4d ((a::r).drop (A1h (a::r)))with
     |none=>rfl
     |some y=>
      obtain⟨s,d⟩:=y;simp only;by_cases c5:(A3e (a::r)).length<=8
      .rw[Z0e c5];have:B3Y (A3h 0 (a::r))<A1h (a::r)+4:=by
        unfold A3h;split
        .simp[B3Y]
        .simp[B3Y]
       simp only[A5W,this,Z0T,Z0e c5]
      .rw[Z0d c5,Z0d c5];rfl
end Go.Abs
