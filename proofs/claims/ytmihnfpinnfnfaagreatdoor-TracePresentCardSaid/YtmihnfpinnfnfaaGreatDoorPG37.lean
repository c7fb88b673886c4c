/- The texts EgK, EgL, EgM, EgSa, EgSb, EgSc, EgSd, EgSe, EgSf, EgR. -/
import Derived.Test.YtmihnfpinnfnfaaGreatDoorPG36
import Derived.Test.YtmihnfpinnfnfaaGreatDoorPG33
import Derived.Test.YtmihnfpinnfnfaaGreatDoorPG16
set_option linter.all false
set_option maxRecDepth 100000
namespace Go.Abs
open Go.Proofs TryTypes Tryz
def B8L(t e:TypeId)(c:A7S prog t=some (3,e)):B1Y prog t 3 e I:=by
 refine⟨c,Q2,λk=>?_,λa b=>?_,λa=>⟨.int .i64 a,by simp[A7z],?_⟩⟩
 .simp[A4I]
 .simp[A9N];by_cases h1:a=b
  .subst h1;simp
  .simp[h1]
 .simp[Instr.sameBits]
def D6Z:B1Y prog 150 3 148 I:=B8L 150 148 Q2
def tuL:List (Int×FuncId):=[(7,122),(9,122),(8,124)]
def tuE:List (AV×AV×Nat):=[(I 7,fnV 122,0),(I 9,fnV 122,1),(I 8,fnV 124,2)]
def C4T{k:Int}{v:AV}{es:List (AV×AV×Nat)}{c:Nat}{M:Mem}(h4:A2I prog 3 (I k) es=some none):A1V prog 150 (M++[.map es c]) (.mapr M.length) (I k) v=some (M++[.map (es++[(I k,v,c)]) (c+1)]):=C1G (kt:=3) (et:=148) Q2 Q2 rfl h4
def C0d(k:Int):AV:=if k=8 then fnV 124 else if B3f k=true then fnV 122 else .val .nilFunc
def C7l{M:Mem}{b:Nat}(h:M[b]?=some (.map tuE 3))(k:Int):A1S prog 150 M (.mapr b) (I k) true=some (.tuple [C0d k,B (B3f k)]):=by
 have hm:A2Y I fnV M b tuL:=⟨tuE,3,h,rfl⟩;have hg:=hm.get D6Z k (z:=.val .nilFunc) Q2 true;rw[hg];by_cases h7:k=7
 .subst h7;rfl
 by_cases h9:k=9
 .subst h9;rfl
 by_cases h8:k=8
 .subst h8;rfl
 simp[A4Y,tuL,h7,h8,h9,C0d,B3f]
section
variable (gl:Nat->AV)
def C3o(M:Mem):A0c (WC gl) 82 [] M (λv M'=>v=.mapr M.length/\M'=M++[.map tuE 3]):=by refine A0t hB func82 ?_;simp -dsimp;rw[C4T Q2];simp -dsimp;rw[C4T Q2];simp -dsimp;rw[C4T Q2];simp -dsimp;rfl
def C7Y(x:A0G)(a i:Int)(M:Mem):A0c (WC gl) 83 [.agg x.row,I a,I i] M (λv M'=>v=B (A6R x a i)/\M'=M):=by
 refine A2e (λ_=>trivial) ?_;obtain⟨M1,b⟩:=ex (M++[A0l.map tuE 3]);have d:M1[M.length]?=some (.map tuE 3):=by rw[b];simp
 have c:Grow M M1:=by rw[b];exact A0d.app none _ _
 have ht:=C3o gl M;rw[<-b]at ht;refine A0t hB func83 ?_;rw[A0G.row_all];by_cases h1:x.h.act=a;case neg=>simp -dsimp[h1,A6R,A0d.refl]
 by_cases h2:x.h.kind=11
 .simp -dsimp[h1,h2,A6R];exact⟨rfl,A0d.refl _ _⟩
 .simp -dsimp[h1,h2,A6R];refine A0Z hB (A0E gl) (λk=>if k=0 then 2 else if k=3 then 1 else 0) (λ_=>M.length) (by rfl) Q2 ?_;simp -dsimp;refine A5x (A0m func82 rfl rfl ht) ?_;simp -dsimp[C7l d,A1g];cases h3:B3f x.h.kind
  .simp -dsimp[c];simp[A6R,h1,h2,h3]
  .by_cases h4:x.h.item=i
   .simp -dsimp[h4,c];simp[A6R,h1,h2,h3,h4]
   .simp -dsimp[h4,c];rw[Bool.beq_eq_decide_eq];simp[A6R,h1,h2,h3,h4]
def A5u(s:A1z)(d:EnD)(l:List EnD)(i:Nat):List A0L:=(l.take i).foldl (A8g d.act d.item) (B0w (B1f s d.it.h.start) l)
def B4z:A5U []:=⟨Q1,.nil⟩
def C9W(s:A1z)(l:List EnD):A5U (B0w s l):=by
 unfold B0w;split
 .exact B8q C1u _
 split
 .split
  .exact B8q C1u _
  .exact B4z
 .exact B4z
def C8d{L:List A0L}(h:A5U L)(k day:Int):A5U (B8d k L day):=by
 unfold B8d;split
 .exact B2y h.asc' _
 .exact B8q h.asc' _
def C5b{L:List A0L}(h:A5U L)(a i:Int)(o:EnD):A5U (A8g a i L o):=by
 unfold A8g;split
 .exact C8d h _ _
 .exact h
def B4J(s:A1z)(d:EnD)(l:List EnD):∀i,i<=l.length->A5U (A5u s d l i)
 |0,_=>by simpa[A5u]using C9W _ _
 |i+1,h=>by have:=B4J s d l i Q0;rw[A5u,Z0A,Z0i Q0,Z0X,Z1S];exact C5b this _ _ _
def D5m(b n:Nat):∀i,(λk=>if k=0 then 2 else if k=3\/k=4 then 1 else 0) i=1->(λk=>k==4) i=false->(λk=>if k=3 then b else n) i∈[b]:=by
 intro i h1 h2;simp only[Z1P,ne_eq]at h1 h2;by_cases h3:i=3
 .simp[h3]
 .by_cases h0:i=0<;>simp[h0,h3,h2]at h1
def A9F(d o:EnD):Bool:=B3f o.kind&&A6R o.it d.act d.item
def A8W(s:A1z)(d:EnD)(l:List EnD)(i:Nat):AV:=if(B0o (B1f s d.it.h.start) l&&!((l.take i).any (A9F d)))=true then .val (.slice none 0 0)else .list 2 (A1M (A5u s d l i)) .no
def B5Q(d:EnD):∀(l:List EnD) (L:List A0L),l.any (A9F d)=false->l.foldl (A8g d.act d.item) L=L
 |[],_,_=>rfl
 |o::l,L,h=>by rw[Z3b,Z3I]at h;rw[Z2t,A8g,Z0d (by simpa[A9F]using h.1)];exact B5Q d l L h.2
def B9N(s:A1z)(d:EnD)(l:List EnD)(i:Nat):SpN (A8W s d l i) (A5u s d l i):=by
 unfold A8W;split
 .rename_i h;simp only[Z0h,Z2N]at h;refine .inr ⟨rfl,?_⟩;rw[A5u,B5Q d _ _ h.2,C8R h.1]
 .exact .inl rfl
def C6d(s:A1z)(d:EnD)(l:List EnD){i:Nat}(hi:i<l.length):A8W s d l (i+1)=if A9F d l[i]=true then .list 2 (A1M (A5u s d l (i+1))) .no else A8W s d l i:=by
 have a:A5u s d l (i+1)=A8g d.act d.item (A5u s d l i) l[i]:=by rw[A5u,Z0A,Z0i hi,Z0X,Z1S];rfl
 unfold A8W;rw[Z0A,Z0i hi,Z0X,List.any_append];by_cases h:A9F d l[i]=true
 .simp[h]
 .have e:A8g d.act d.item (A5u s d l i) l[i]=A5u s d l i:=by rw[A8g,Z0d (by simpa[A9F]using h)]
  rw[Z0d h,a,e];simp only[Bool.not_eq_true]at h;simp only[Z3b,List.any_nil,h,Z3V]
def B7i(s:A1z)(d:EnD)(l:List EnD):AV:=if A1d d.kind=true then A8W s d l l.length else .val (.slice none 0 0)
def B9I(s:A1z)(d:EnD)(l:List EnD):SpN (B7i s d l) (B2S s d l):=by
 unfold B7i B2S;split
 .have:=B9N s d l l.length;rwa[A5u,Z3a]at this
 .exact .inr ⟨rfl,rfl⟩
set_option maxHeartbeats 1000000 in
def C6B(s:A1z)(d:EnD)(l:List EnD)(o:Own)(M:Mem)(hl:l.length<=10000000):A0c (WC gl) 58 [.agg s.row,.agg d.row,.list 28 (A3Q l) o] M (λv M'=>v=B7i s d l/\M'=M):=by
 refine A2e (λn=>(B9I s d l).bdd n) ?_;refine A0t hB func58 ?_;by_cases h0:A1d d.kind=true;case neg=>
  have e:B7i s d l=.val (.slice none 0 0):=by rw[B7i,Z0d h0]
  rw[e];have ad:d.it.h.kind<0\/(0<=d.it.h.kind/\6<d.it.h.kind):=by simp only[A1d,EnD.kind,Z0h,Z0m]at h0;omega
  rw[EnD.row_all];rcases ad with h|⟨h,h'⟩
  .simp -dsimp[h];exact A0d.refl _ _
  .have hn:¬d.it.h.kind<0:=Q0;simp -dsimp[hn,h'];exact A0d.refl _ _
 have e:B7i s d l=A8W s d l l.length:=by rw[B7i,Z0c h0]
 rw[e];simp only[A1d,EnD.kind,Z0h,Z0m]at h0;have hn:¬d.it.h.kind<0:=Q0;have aa:¬6<d.it.h.kind:=Q0;rw[EnD.row_all];simp -dsimp[hn,aa];have r:=λM=>D5T gl (B1f s d.it.h.start) l o M hl;have w:=λM=>D3y gl s d.it.h.start M;rw[A1z.row]at w;refine A0h func81 (D3y gl s d.it.h.start M) ?_;simp -dsimp;refine A0h func80 (r M) ?_;simp -dsimp;refine A1E hB l.length 31 (λT Mi=>∃i:Nat,i<=l.length/\T 4=.cptr d.row/\T 29=.list 28 (A3Q l) o/\T 30=I l.length/\T 31=I i/\T 7=A8W s d l i/\Grow M Mi) ?_ ?_
 .exact⟨0,Q0,by simp[EnD.row_all],Q1,Q1,Q1,by simp[A8W,A5u],A0d.refl _ _⟩
 rintro T Mi ⟨i,i1,t4,b,a,t31,hv,hg⟩;have u:=B9N s d l i;have g:=λh=>C6d s d l (i:=i) h;obtain⟨v7,y⟩:∃v,v=A8W s d l i:=⟨_,rfl⟩;rw[<-y]at hv u g;by_cases hi:i<l.length;case neg=>have q:¬(i:Int)<l.length:=Q0;obtain rfl:i=l.length:=Q0;simp -dsimp[t4,b,a,t31,q,hv];exact⟨y,hg⟩
 have q:(i:Int)<l.length:=Q0;have w1:=A6s (i:=i) Q0;obtain⟨x,hx⟩:=ex (l[i]);have a5:=A8h hi;rw[<-hx]at a5;have a9:A5u s d l (i+1)=A8g d.act d.item (A5u s d l i) x:=by rw[A5u,Z0A,Z0i hi,<-hx,Z0X,Z1S];rfl
 have a2:=B4J s d l i i1;obtain⟨b0,a1⟩:=ex (Mi.length);obtain⟨M4,p⟩:=ex (Mi++[A0l.cells 80 x.row]);have a4:M4[b0]?=some (A0l.cells 80 x.row):=by rw[p,a1];simp
 have a8:Grow Mi M4:=by rw[p];exact A0d.app none _ _
 obtain⟨M5,t⟩:=ex (M4++[A0l.map tuE 3]);have ab:M5[M4.length]?=some (.map tuE 3):=by rw[t];simp
 have a7:Grow M4 M5:=by rw[t];exact A0d.app none _ _
 have f:=a7.get a4 Q1;have c:=(hg.trans a8).trans a7;have ht:=C3o gl M4;rw[<-t]at ht;simp -dsimp[t4,b,a,t31,hi,q,a5,A0j,A0k,A0e,A0o,A0n];rw[<-hx,<-p,<-a1];refine B1d hB (A0E gl) (λk=>if k=0 then 2 else if k=3\/k=4 then 1 else 0) (λk=>if k=3 then b0 else M4.length) (λk=>k==4) [b0] (D5m b0 M4.length) (by rfl) Q2 ?_;simp -dsimp;refine A5x (A0m func82 rfl rfl ht) ?_;have ac:M5[b0]?=M4[b0]?:=by rw[f,a4]
 have a6:A0M prog 3 M5 (.ptr b0 3)=some (I x.it.h.kind):=by rw[A0b f,EnD.row_all];simp
 simp -dsimp[a6,C7l ab,A1g,ac];have m:A0M prog 70 M5 (.ptr b0 3)=some (.agg x.it.row):=by rw[A0b f,EnD.row];simp[A0y]
 have a0:A0M prog 3 M5 (.ptr b0 25)=some (I x.it.h.day):=by rw[A0b f,EnD.row_all];simp
 by_cases hk:B3f x.it.h.kind=true;case neg=>
  have z:B3f x.it.h.kind=false:=by simpa using hk
  have ho:A8W s d l (i+1)=v7:=by rw[g hi,<-hx,Z0d (by simp[A9F,EnD.kind,z])]
  simp -dsimp[z,b,a,t31,w1];exact⟨⟨i+1,Q3,t4,rfl,by rw[ho,hv],c⟩,Q3⟩
 simp -dsimp[hk,m,t4,EnD.row_all];refine A0h func83 (C7Y gl x.it d.act d.item M5) ?_;cases hr:A6R x.it d.act d.item
 .have ho:A8W s d l (i+1)=v7:=by rw[g hi,<-hx,Z0d (by simp[A9F,hr])]
  simp -dsimp[hr,b,a,t31,w1];exact⟨⟨i+1,Q3,t4,rfl,by rw[ho,hv],c⟩,Q3⟩
 have ho:A5u s d l (i+1)=B8d x.it.h.kind (A5u s d l i) x.it.h.day:=by rw[a9,A8g,Z0c (by simp[hk,hr])]
 have a3:A8W s d l (i+1)=.list 2 (A1M (B8d x.it.h.kind (A5u s d l i) x.it.h.day)) .no:=by rw[g hi,<-hx,Z0c (by simp[A9F,EnD.kind,hk,hr]),ho]
 simp -dsimp[hr,b,a,t31,w1,hv,a0];have j:=a2.asc';have ae:=A4N a2;by_cases h8:x.it.h.kind=8
 .have e1:C0d x.it.h.kind=fnV 124:=by simp[C0d,h8]
  rw[e1];simp -dsimp;refine A0h func124 (C4l gl _ v7 u.toV x.it.h.day M5 j Q0) ?_;simp -dsimp[b,a,t31,w1];exact⟨⟨i+1,Q3,t4,rfl,by rw[a3,B8d,Z0c h8],c⟩,Q3⟩
 .have e1:C0d x.it.h.kind=fnV 122:=by simp[C0d,h8,hk]
  rw[e1];simp -dsimp;refine A0h func122 (D0T gl _ v7 u.toV x.it.h.day M5 j Q0) ?_;simp -dsimp[b,a,t31,w1];exact⟨⟨i+1,Q3,t4,rfl,by rw[a3,B8d,Z0d h8],c⟩,Q3⟩
end
section
@[simp] def A0X.row_len(a:A0X):a.row.length=7:=(rfl)
@[simp] def A0X.row_take(a:A0X):List.take 7 a.row=a.row:=(rfl)
def C0K{l:List A0G}{i:Nat}(hi:i<l.length):(A1r l)[i]?=some l[i].row:=by simp[A6C,hi]
def B8F{l:List A0X}{i:Nat}(hi:i<l.length):(A5p l)[i]?=some l[i].row:=by simp[A5p,hi]
def D5P(a i d:Int)(x:A0G):A0A prog 80 [(0,I a),(1,I i),(2,I d),(3,.agg x.row)]=some (.agg (EnD.row ⟨a,i,d,x⟩)):=by rw[EnD.row_all,A0G.row_all];kernel_rfl
def C5g(a:A0X)(i:Nat)(hi:i<a.items.length):(A1F a).take (i+1)=(A1F a).take i++[⟨a.number,(i:Int),a.day,a.items[i]⟩]:=by
 have h:i<(A1F a).length:=by simpa[A1F]using hi
 rw[Z0A,Z0i h];simp[A1F]
def A7E(a:A0X):(A1F a).length=a.items.length:=by simp[A1F]
def B1D(n:Nat)(l:List A1n):A4f n (A0P l):=by
 induction l with
 |nil=>simp[A0P,A4f]
 |cons w l ih=>simp only[A0P,Z0w,A4f]at ih|-;exact⟨C4u n w,ih⟩
def C0E(n:Nat)(l:List ByteArray):A4f n (A0J l):=by
 induction l with
 |nil=>simp[A0J,A4f]
 |cons w l ih=>simp only[A0J,Z0w,A4f]at ih|-;exact⟨by simp[A1l,bdd],ih⟩
mutual
def C4B(n:Nat):∀x:A0G,A1l n x.row
 |.mk h b=>by rw[A0G.row];simp only[A1Q.row,A1l,bdd,Z1z,Z2B];exact⟨B1D n _,B1D n _,A2v n _,A2v n _,A8U n _,C0E n _,C0E n _,B4v n b⟩
def B4v(n:Nat):∀l:List A0G,A4f n (A1r l)
 |[]=>by rw[A1r];simp[A4f]
 |x::l=>by rw[A1r];exact⟨C4B n x,B4v n l⟩
end
def D1F(n:Nat)(d:EnD):A1l n d.row:=by simp only[EnD.row,A1l,bdd,Z2B];exact C4B n _
def C7D(n:Nat)(l:List EnD):bdd n (.list 28 (A3Q l) .no):=by
 simp only[bdd,Z1z];induction l with
 |nil=>simp[A3Q,A4f]
 |cons w l ih=>simp only[A3Q,Z0w,A4f]at ih|-;exact⟨D1F n w,ih⟩
section
variable (gl:Nat->AV)
set_option maxHeartbeats 1000000 in
def D0G(a:A0X)(M:Mem)(hl:a.items.length<=1000000):A0c (WC gl) 79 [.agg a.row] M (λv M'=>v=.list 28 (A3Q (A1F a)) .no/\M'=M):=by
 refine A2e (λn=>C7D n _) ?_;have q:=A7E a;refine A0t (hQ [23]) func79 ?_;obtain⟨it,b⟩:=ex (a.items);rw[A0X.row,<-b];rw[<-b]at hl q;simp -dsimp;refine B2C (.exit 0) (λT Mi=>Arr 80 28 EnD.row M.length Mi (T 3) (A1F a)/\Grow M Mi) ?_ ?_
 .refine A1E (hQ [23]) it.length 9 (λT Mi=>∃i:Nat,i<=it.length/\T 1=.cptr [I a.number,S a.title,I a.day,I a.start.k,I a.start.day,S a.start.ev,.list 25 (A1r it) .no]/\T 7=.list 25 (A1r it) .no/\T 8=I it.length/\T 9=I i/\Arr 80 28 EnD.row M.length Mi (T 3) ((A1F a).take i)/\Grow M Mi) ?_ ?_
  .exact⟨0,Q0,Q1,Q1,Q1,Q1,by simpa using Arr.nil,A0d.refl _ _⟩
  rintro T Mi ⟨i,i1,t1,t7,t8,t9,h3,hg⟩;generalize c:T 3=v3 at*;by_cases hi:i<it.length;case neg=>have g:¬(i:Int)<it.length:=Q0;rw[Z0e Q0]at h3;simp -dsimp[t1,t7,t8,t9,g,c];exact⟨h3,hg⟩
  have g:(i:Int)<it.length:=Q0;have w1:=A6s (i:=i) Q0;obtain⟨x,hx⟩:=ex (it[i]);have o:=C0K hi;rw[<-hx]at o;have l:=C5g a i (by rw[<-b];exact hi);have p:a.items[i]'(by rw[<-b];exact hi)=x:=by rw[hx];simp only[b]
  rw[p]at l;obtain⟨b0,m⟩:=ex (Mi.length);obtain⟨M4,d⟩:=ex (Mi++[A0l.cells 70 x.row]);have t:M4[b0]?=some (A0l.cells 70 x.row):=by rw[d,m];simp
  have f:Grow Mi M4:=by rw[d];exact A0d.app none _ _
  have s:A0M prog 70 M4 (.ptr b0 0)=some (.agg x.row):=by rw[A0b t];simp[A0y]
  have j:=h3.keep f;simp -dsimp[t1,t7,t8,t9,hi,g,o,A0j,A0k,A0e,A0o,A0n];rw[<-hx,<-d,<-m];simp -dsimp[t1,t7,t8,t9,c,s];rw[D5P];simp -dsimp[t1,t7,t8,t9,c,A0w,A1e];refine A3u (C:=WC gl) (enc:=EnD.row) (e:=80) (sz:=28) (news:=[⟨a.number,(i:Int),a.day,x⟩]) C6k D2S D1c EnD.row_len j.own (by simp[A0D]) (by simp only[Z0q,Z1n,Z0s];omega) rfl ?_;intro v' M5 u1 u2 u3 _;simp -dsimp[t1,t7,t8,t9,w1];exact⟨⟨i+1,Q3,rfl,by rw[l];exact⟨u1,j.later (hg.trans f).1 u3⟩,j.grow (hg.trans f) u2⟩,Q3⟩
 rintro T Mi ⟨h3,hg⟩;refine⟨M.length,T.put (some 3) (.list 28 (A3Q (A1F a)) .no),A6v (A6J T) (Still.rows EnD.row_len (λ_ _ _=>trivial) h3.own h3.lat .nil),?_⟩;have r:=A4T hg;generalize A3i Mi M.length=M2 at*;simp -dsimp[Env.put_some,r]
end
end
abbrev D5i(p:Int×Int):AV:=.agg [I p.1,I p.2]
abbrev D6q(x:A0G):AV:=.agg x.row
def D0M:prog.stoodInHeld 145=false:=Q2
def E0c:B1Y prog 140 145 70 D5i:=by
 refine⟨Q2,Q2,λk=>?_,λa b=>?_,λa=>⟨.agg #[.int .i64 a.1,.int .i64 a.2],by simp[A7z],?_⟩⟩
 .simp[A4I,A0g]
 .obtain⟨x,y⟩:=a;obtain⟨x',y'⟩:=b;simp[A9N,A2H,A0g,D0M];by_cases h1:x=x'
  .subst h1;by_cases h2:y=y'
   .subst h2;simp
   .simp[h2,D0h h2]
  .simp[h1,D0h h1]
 .simp[Instr.sameBits]
def A9u(x:A0G):Option A0G:=if x.h.kind=11 then(match x.by_ with|y::_=>if A1d y.h.kind=true then some y else none|[]=>none)else none
def C0L(a i:Int)(x:A0G):B0k a i x=if(a,i)=(x.h.act,x.h.item)then A9u x else none:=by
 unfold B0k A9u;simp only[Z0g];by_cases h1:x.h.kind=11
 .by_cases h2:a=x.h.act/\i=x.h.item
  .rw[Z0c ⟨h1,h2.1.symm,h2.2.symm⟩,Z0c h2,Z0c h1];cases x.by_<;>rfl
  .rw[Z0d (λh=>h2 ⟨h.2.1.symm,h.2.2.symm⟩),Z0d h2]
 .rw[Z0d (λh=>h1 h.1),Z0d h1];simp
def fixF(l:List A0G)(a i:Int):Option A0G:=l.foldl (λr x=>match B0k a i x with|some y=>some y|none=>r) none
def C0l(l:List A0G)(x:A0G)(a i:Int):fixF (l++[x]) a i=match B0k a i x with|some y=>some y|none=>fixF l a i:=by simp[fixF,Z1S]
def D0b{l:List A0G}{x:A0G}(h:A9u x=none)(a i:Int):fixF (l++[x]) a i=fixF l a i:=by rw[C0l,C0L,h];simp
def C8V{l:List A0G}{x y:A0G}(h:A9u x=some y)(a i:Int):fixF (l++[x]) a i=if(a,i)=(x.h.act,x.h.item)then some y else fixF l a i:=by
 rw[C0l,C0L,h];by_cases e:(a,i)=(x.h.act,x.h.item)
 .rw[Z0c e,Z0c e]
 .rw[Z0d e,Z0d e]
def C3j(n:Nat)(M Mi:Mem)(l:List A0G):Prop:=∃mm,A2Y D5i D6q Mi n mm/\(∀a i,A4Y mm (a,i)=fixF l a i)/\Grow M Mi
def C3j.keep{n:Nat}{M Mi M2:Mem}{l:List A0G}(h:C3j n M Mi l)(hg:Grow Mi M2):C3j n M M2 l:=by obtain⟨mm,h1,h2,h3⟩:=h;exact⟨mm,h1.keep hg Q1,h2,h3.trans hg⟩
section
variable (gl:Nat->AV)
def A9b(k:Int)(M:Mem):A0c (WC gl) 36 [I k] M (λv M'=>v=B (A1d k)/\M'=M):=by
 refine A0t hB func36 ?_;by_cases h:0<=k
 .by_cases h6:k<=6<;>simp -dsimp[A1d,h,h6]
 .simp -dsimp[A1d,h]
set_option maxHeartbeats 2000000 in
def D6b(b:List A0X)(o:Own)(M:Mem)(hl:b.length<=1000000)(hi:∀a∈b,a.items.length<=1000000):A0c (WC gl) 78 [.list 7 (A5p b) o] M (λv M'=>v=.mapr M.length/\C3j M.length M M' (b.flatMap A0X.items)):=by
 refine A0t hB func78 ?_
 simp -dsimp
 refine A1E hB b.length 11 (λT Mi=>∃i:Nat,i<=b.length/\T 3=.mapr M.length/\T 9=.list 7 (A5p b) o/\T 10=I b.length/\T 11=I i/\C3j M.length M Mi ((b.take i).flatMap A0X.items)) ?_ ?_
 .exact⟨0,Q0,Q1,Q1,Q1,Q1,[],A2Y.new M,by simp[A4Y,fixF],A0d.app none _ _⟩
 rintro T Mi ⟨i,i1,t3,t9,d,c,hC⟩
 by_cases hi1:i<b.length
 case neg=>have t:¬(i:Int)<b.length:=Q0;rw[Z0e Q0]at hC;simp -dsimp[t3,t9,d,c,t,hC]
 have t:(i:Int)<b.length:=Q0
 have w1:=A6s (i:=i) Q0
 obtain⟨a,ha⟩:=ex (b[i])
 have a0:=B8F hi1
 rw[<-ha]at a0
 have ai:a.items.length<=1000000:=by rw[ha];exact hi _ (Z0u hi1)
 have af:(b.take (i+1)).flatMap A0X.items=(b.take i).flatMap A0X.items++a.items:=by rw[Z0A,Z0i hi1,Z0X,Z1k,<-ha];simp
 generalize(b.take i).flatMap A0X.items=row at*
 obtain⟨M2,w⟩:=ex (Mi++[A0l.cells 72 a.row])
 have ad:Grow Mi M2:=by rw[w];exact A0d.app none _ _
 have ag:M2[Mi.length]?=some (.cells 72 a.row):=by rw[w];simp
 have ah:A0M prog 68 M2 (.ptr Mi.length 6)=some (.list 25 (A1r a.items) .no):=by rw[A0b ag,A0X.row];simp
 have z:=hC.keep ad
 simp -dsimp[t3,t9,d,c,hi1,t,a0,A0j,A0k,A0e,A0o,A0n]
 rw[<-ha,<-w]
 simp -dsimp[ah]
 refine A7f (.exit 2) (λT Mj=>T 3=.mapr M.length/\T 9=.list 7 (A5p b) o/\T 10=I b.length/\T 11=I i/\C3j M.length M Mj (row++a.items)) ?_ ?_
 .refine A1E hB a.items.length 18 (λT Mj=>∃j:Nat,j<=a.items.length/\T 3=.mapr M.length/\T 9=.list 7 (A5p b) o/\T 10=I b.length/\T 11=I i/\T 16=.list 25 (A1r a.items) .no/\T 17=I a.items.length/\T 18=I j/\C3j M.length M Mj (row++a.items.take j)) ?_ ?_
  .exact⟨0,Q0,by simp[t3],by simp[t9],by simp[d],by simp[c],Q1,Q1,Q1,by simpa using z⟩
  clear hC z t3 t9 d c;rintro T Mj ⟨j,j1,t3,t9,d,c,f,g,l,hC⟩;by_cases hj:j<a.items.length;case neg=>have u:¬(j:Int)<a.items.length:=Q0;rw[Z0e Q0]at hC;simp -dsimp[t3,t9,d,c,f,g,l,u,hC]
  have u:(j:Int)<a.items.length:=Q0;have w2:=A6s (i:=j) Q0;obtain⟨x,hx⟩:=ex (a.items[j]);have a5:=C0K hj;rw[<-hx]at a5;have n:row++a.items.take (j+1)=(row++a.items.take j)++[x]:=by rw[Z0A,Z0i hj,Z0X,<-hx,Z0F]
  generalize row++a.items.take j=a1 at*;obtain⟨q,hq⟩:=ex (Mj.length);obtain⟨M3,s⟩:=ex (Mj++[A0l.cells 70 x.row]);have ab:Grow Mj M3:=by rw[s];exact A0d.app none _ _
  have p:M3[q]?=some (.cells 70 x.row):=by rw[s,hq];simp
  have a2:=hC.keep ab;have r:A0M prog 3 M3 (.ptr q 0)=some (I x.h.kind):=by rw[A0b p,A0G.row_all];simp
  have a4:A0M prog 3 M3 (.ptr q 20)=some (I x.h.act):=by rw[A0b p,A0G.row_all];simp
  have a6:A0M prog 3 M3 (.ptr q 21)=some (I x.h.item):=by rw[A0b p,A0G.row_all];simp
  have e:A0M prog 68 M3 (.ptr q 24)=some (.list 25 (A1r x.by_) .no):=by rw[A0b p,A0G.row_all];simp
  simp -dsimp[t3,t9,d,c,f,g,l,hj,u,a5,A0j,A0k,A0e,A0o,A0n];rw[<-hx,<-s,<-hq];have m:A9u x=none->C3j M.length M M3 (a1++[x]):=λh=>by obtain⟨mm,h1,h2,h3⟩:=a2;exact⟨mm,h1,λa i=>by rw[h2,D0b h],h3⟩
  by_cases hk:x.h.kind=11;case neg=>
   (have hc:A9u x=none:=by rw[A9u,Z0d hk]);simp -dsimp[r,e,hk,t3,t9,d,c,f,g,l,w2]
   exact⟨⟨j+1,by clear w1 w2;omega,rfl,by rw[n];exact m hc⟩,by clear w1 w2;omega⟩
  cases hby:x.by_ with
  |nil=>
   (have hc:A9u x=none:=by rw[A9u,Z0c hk,hby]);rw[hby]at e
   simp -dsimp[r,e,hk,t3,t9,d,c,f,g,l,w2];exact⟨⟨j+1,by clear w1 w2;omega,rfl,by rw[n];exact m hc⟩,by clear w1 w2;omega⟩
  |cons y ys=>
   rw[hby]at e;simp -dsimp[r,e,hk,A1r,A0G.row_all];refine A0h func36 (A9b gl y.h.kind M3) ?_;cases hm:A1d y.h.kind
   ·(have hc:A9u x=none:=by rw[A9u,Z0c hk,hby];simp[hm]);simp -dsimp[t3,t9,d,c,f,g,l,w2]
    exact⟨⟨j+1,by clear w1 w2;omega,rfl,by rw[n];exact m hc⟩,by clear w1 w2;omega⟩
   (have hc:A9u x=some y:=by rw[A9u,Z0c hk,hby];simp[hm]);simp -dsimp
   refine A0Z hB (A0E gl) (λk=>if k=2\/k=4\/k=7 then 1 else if k=10 then 2 else 0) (λ_=>q) (by rfl) Q2 ?_;have aa:A0A prog 145 [(0,I x.h.act),(1,I x.h.item)]=some (.agg [I x.h.act,I x.h.item]):=Q2;obtain⟨mm,h1,h2,h3⟩:=a2;obtain⟨M4,hp,ae,a3⟩:=h1.put E0c (x.h.act,x.h.item) y;have ac:A1V prog 140 M3 (.mapr M.length) (.agg [I x.h.act,I x.h.item]) (.agg y.row)=some M4:=hp;simp -dsimp[A1g,a4,a6,e,t3,A1r];rw[aa];simp -dsimp[A1g,a4,a6,e,t3,A1r];rw[ac];simp -dsimp[t3,t9,d,c,f,g,l,w2];have a9:Grow M M4:=⟨Z0L h3.1 a3.1,λi hi _=>(a3.2 i (Z0Z hi h3.1) (by simp;omega)).trans (h3.2 i hi Q1)⟩;exact⟨⟨j+1,by clear w1 w2;omega,rfl,by rw[n];exact⟨_,ae,λa i=>by rw[B4E,h2,C8V hc],a9⟩⟩,by clear w1 w2;omega⟩
 rintro T Mj ⟨u3,u9,a8,a7,hC⟩
 simp -dsimp[u3,u9,a8,a7,c,w1]
 exact⟨⟨i+1,Q3,rfl,by rw[af];exact hC⟩,Q3⟩
end
end Go.Abs
section
set_option maxRecDepth 100000
namespace Go.Abs.StA
open Go.Proofs TryTypes Tryz
def CmpOK(C:Ctx){α:Type}(enc:α->List AV)(c:α->α->Int)(fid:FuncId)(first cap:List AV):Prop:=∀x y M,A3E C fid (first++.agg (enc x)::.agg (enc y)::cap) M (λv M'=>v=I (c x y)/\M'=M)
section
variable (gl:Nat->AV) {α:Type} {enc:α->List AV} {c:α->α->Int} {fid:FuncId} {first cap:List AV} {f g n:Nat} {M0:Mem}
theorem C2Q(he:∀x,(enc x).length=7)(hc:CmpOK (WC gl) enc c fid first cap)(hf:f<M0.length)(hn:n<=1000)(a b:Nat)(w:a<=b)(hb:b<=n)(D:Nat->α)(M:Mem)(hM:AtA 72 7 f g n enc M0 D M):A0c (WC gl) 191 [.vref f g 7 0 n,I a,I b,.func (.func fid) first cap] M (λ_ M'=>∃E,AtA 72 7 f g n enc M0 E M'/\Mix n a b D E/\(A5A c->Srt c a b E)):=by
 refine A1c hW func191 rfl rfl rfl rfl rfl rfl ?_
 have u:IntKind.i64.wrap ((a:Int)+1)=(a+1:Nat):=by rw[A0R Q0 Q0];omega
 simp -dsimp[u]
 refine A0K hW (λT M1=>∃i:Nat,a+1<=i/\i<=max b (a+1)/\T 0=.vref f g 7 0 n/\T 1=I a/\T 2=I b/\T 3=.func (.func fid) first cap/\T 8=I i/\∃E,AtA 72 7 f g n enc M0 E M1/\Mix n a b D E/\(A5A c->Srt c a i E)) (λT _=>match T 8 with|.val (.int _ i)=>b-i.toNat|_=>0) Q2 ?_ ?_
 .exact⟨a+1,Q0,Q0,Q1,Q1,Q1,Q1,Q1,D,hM,.refl ..,λ_=>.short Q0⟩
 .rintro T M1 ⟨i,h1,h2,t0,t1,t2,t3,t8,E,hA,hX,hS⟩;by_cases hi:i<b
  .have m:(i:Int)<b:=Q0;(have hw:IntKind.i64.wrap ((i:Int)+1)=(i+1:Nat):=by rw[A0R Q0 Q0];omega);simp -dsimp[t0,t1,t2,t3,t8,hi,m];refine A0K hW (λT M1=>∃j:Nat,a<=j/\j<=i/\T 0=.vref f g 7 0 n/\T 1=I a/\T 2=I b/\T 3=.func (.func fid) first cap/\T 8=I i/\T 9=I j/\∃E,AtA 72 7 f g n enc M0 E M1/\Mix n a b D E/\(A5A c->B0Y c a i j E)) (λT _=>match T 9 with|.val (.int _ i)=>i.toNat|_=>0) Q2 ?_ ?_
   .exact⟨i,Q0,Q0,by simp[t0],by simp[t1],by simp[t2],by simp[t3],by simp[t8],Q1,E,hA,hX,λo=>.start (hS o)⟩
   .rintro T2 M1 ⟨j,k1,k2,u0,u1,u2,u3,u8,u9,E,hA,hX,hS⟩;by_cases hj:a<j
    .have d:(a:Int)<j:=Q0;have l:(j:Int)>a:=d;(have e:IntKind.i64.wrap ((j:Int)-1)=(j-1:Nat):=by rw[A0R Q0 Q0];omega);have g1:j<n:=Q0;have g2:j-1<n:=Q0;have p:(j:Int)<n:=Q0;have q:((j-1:Nat):Int)<n:=Q0;have l1:=hA.load (P:=prog) (t:=72) hf he Q1 Q1 g1;have l2:=hA.load (P:=prog) (t:=72) hf he Q1 Q1 g2;simp -dsimp;refine A0Z hW (A0E gl) (λk=>if k=8\/k=13 then 1 else 0) (λ_=>f) (by rfl) Q2 ?_;simp -dsimp[u0,u1,u2,u3,u8,u9,d,l,e,g1,g2,p,q,l1,l2];refine A1J (r:=I (c (E j) (E (j-1)))) (λM=>hc _ _ M) ?_;by_cases hlt:c (E j) (E (j-1))<0
     .simp -dsimp[u0,u1,u2,u3,u8,u9,hlt];refine A0Z hW (A0E gl) (λk=>if k=9\/k=13 then 1 else if k=15\/k=17 then 2 else 0) (λ_=>f) (by rfl) Q2 ?_;obtain⟨M2,s1,v⟩:=hA.store hf he g1 (E (j-1));obtain⟨M3,s2,s⟩:=v.store hf he g2 (E j);simp -dsimp[u0,u1,u2,u3,u8,u9,d,l,e,g1,g2,p,q,l1,l2,s1,s2];exact⟨⟨j-1,by clear e;omega,by clear e;omega,rfl,swp E j (j-1),s,hX.trans (.swap E hb Q0 Q0 Q0 Q0),λo=>(hS o).step o hj k2 hlt⟩,by clear e;omega⟩
     .simp -dsimp[u0,u1,u2,u3,u8,u9,hlt,hw,t8];exact⟨⟨i+1,by clear hw;omega,by clear hw;omega,rfl,E,hA,hX,λo=>(hS o).stop o k2 (.inr hlt)⟩,by clear hw;omega⟩
    .have d:¬(a:Int)<j:=Q0;have l:¬(j:Int)>a:=d;simp -dsimp;refine A0Z hW (A0E gl) (λk=>if k=8\/k=13 then 1 else 0) (λ_=>f) (by rfl) Q2 ?_;simp -dsimp[u0,u1,u2,u3,u8,u9,d,l,hw,t8];exact⟨⟨i+1,by clear hw;omega,by clear hw;omega,rfl,E,hA,hX,λo=>(hS o).stop o k2 (.inl Q0)⟩,by clear hw;omega⟩
  .have m:¬(i:Int)<b:=Q0;simp -dsimp[t0,t1,t2,t3,t8,m];exact⟨E,hA,hX,λo=>(hS o).part (Z0j _) Q0⟩
end
end Go.Abs.StA
end
section
set_option maxRecDepth 100000
namespace Go.Abs.StA
open Go.Proofs TryTypes Tryz
def D4R{i j:Nat}(h:i+j<=1000000):IntKind.i64.wrap ((i:Int)+(j:Int))=((i+j:Nat):Int):=by rw[A0R Q0 Q0];omega
def B3y{i j:Nat}(h:i<=1000000)(hj:j<=i):IntKind.i64.wrap ((i:Int)-(j:Int))=((i-j:Nat):Int):=by rw[A0R Q0 Q0];omega
def A1Y{i:Nat}(h:i<=1000000):IntKind.i64.wrap ((i:Int)+1)=((i+1:Nat):Int):=by rw[A0R Q0 Q0];omega
def D3e{i:Nat}(h:i<=1000000)(hj:1<=i):IntKind.i64.wrap ((i:Int)-1)=((i-1:Nat):Int):=by rw[A0R Q0 Q0];omega
section
variable (gl:Nat->AV) {α:Type} {enc:α->List AV} {c:α->α->Int} {fid:FuncId} {first cap:List AV} {f g n:Nat} {M0:Mem}
def B8M(he:∀x,(enc x).length=7)(hf:f<M0.length)(hn:n<=1000)(i j l:Nat)(o:i+l<=j)(hj:j+l<=n)(D:Nat->α)(M:Mem)(hM:AtA 72 7 f g n enc M0 D M)(cf:AV):A0c (WC gl) 276 [.vref f g 7 0 n,I i,I j,I l,cf] M (λ_ M'=>AtA 72 7 f g n enc M0 (xch D i j l) M'):=by
 refine A1c hW func276 rfl rfl rfl rfl rfl rfl ?_
 simp -dsimp -implicitDefEqProofs
 refine A0K hW (λT M1=>∃k:Nat,k<=l/\T 0=.vref f g 7 0 n/\T 1=I i/\T 2=I j/\T 3=I l/\T 10=I k/\AtA 72 7 f g n enc M0 (xch D i j k) M1) (λT _=>match T 10 with|.val (.int _ i)=>l-i.toNat|_=>0) Q2 ?_ ?_
 .exact⟨0,Q0,Q1,Q1,Q1,Q1,Q1,by rw[C3J];exact hM⟩
 .rintro T M1 ⟨k,h1,t0,t1,t2,t3,a,hA⟩;by_cases hk:k<l
  .have b:(k:Int)<l:=Q0;have w1:=D4R (i:=i) (j:=k) Q0;have w2:=D4R (i:=j) (j:=k) Q0;have w3:=A1Y (i:=k) Q0;have g1:i+k<n:=Q0;have g2:j+k<n:=Q0;have c:((i+k:Nat):Int)<n:=Q0;have e:((j+k:Nat):Int)<n:=Q0;have p1:0<=((i+k:Nat):Int):=Q0;have p2:0<=((j+k:Nat):Int):=Q0;have q1:((i+k:Nat):Int).toNat=i+k:=Q0;have q2:((j+k:Nat):Int).toNat=j+k:=Q0;have l1:=hA.load (P:=prog) (t:=72) hf he Q1 Q1 g1;have l2:=hA.load (P:=prog) (t:=72) hf he Q1 Q1 g2;obtain⟨M2,s1,m⟩:=hA.store hf he g1 (xch D i j k (j+k));obtain⟨M3,s2,d⟩:=m.store hf he g2 (xch D i j k (i+k));(have hx:AtA 72 7 f g n enc M0 (xch D i j (k+1)) M3:=by rw[<-C2T D (show i+k<j by omega)];exact d);generalize((i+k:Nat):Int)=ik at*;generalize((j+k:Nat):Int)=jk at*;simp -dsimp -implicitDefEqProofs[t0,t1,t2,t3,a,b];refine A0Z hW (A0E gl) (λk=>if k=13\/k=19 then 1 else if k=21\/k=23 then 2 else 0) (λ_=>f) (by rfl) Q2 ?_;simp -dsimp -implicitDefEqProofs[t0,t1,t2,t3,a,w1,w2,w3,g1,g2,c,e,p1,p2,q1,q2,l1,l2,s1,s2];exact⟨⟨k+1,by clear w3;omega,rfl,hx⟩,by clear w3;omega⟩
  .have b:¬(k:Int)<l:=Q0;obtain rfl:k=l:=Q0;simp -dsimp -implicitDefEqProofs[t0,t1,t2,t3,a,hA]
def C9A(he:∀x,(enc x).length=7)(hf:f<M0.length)(hn:n<=1000)(s m e:Nat)(h1:s<m)(h2:m<e)(h3:e<=n)(D:Nat->α)(M:Mem)(hM:AtA 72 7 f g n enc M0 D M)(cf:AV):A0c (WC gl) 249 [.vref f g 7 0 n,I s,I m,I e,cf] M (λ_ M'=>AtA 72 7 f g n enc M0 (rot D s m e) M'/\Mix n s e D (rot D s m e)):=by
 refine A1c hW func249 rfl rfl rfl rfl rfl rfl ?_
 have w1:=B3y (i:=m) (j:=s) Q0 Q0
 have w2:=B3y (i:=e) (j:=m) Q0 Q0
 simp -dsimp -implicitDefEqProofs[w1,w2]
 refine A0K hW (λT M1=>∃i:Nat,0<i/\s+i<=m/\T 0=.vref f g 7 0 n/\T 2=I m/\T 4=cf/\T 10=I i/\∃j:Nat,T 11=I j/\0<j/\m+j<=e/\
  ∃E,AtA 72 7 f g n enc M0 E M1/\Mix n s e D E/\rot E (m-i) m (m+j)=rot D s m e)
  (λT _=>match T 10,T 11 with|.val (.int _ i),.val (.int _ j)=>i.toNat+j.toNat|_,_=>0) Q2 ?_ ?_
 .refine⟨m-s,Q0,Q0,Q1,Q1,Q1,Q1,e-m,Q1,Q0,Q0,D,hM,.refl ..,by congr 1<;>omega⟩
 .rintro T M1 ⟨i,i0,i1,t0,t2,t4,c,j,k,j0,j1,E,hA,hX,hr⟩;have w3:=B3y (i:=m) (j:=i) Q0 Q0;by_cases hij:i=j
  .subst hij;simp -dsimp -implicitDefEqProofs[t0,t2,t4,c,k,w3];refine A0v (A0m func276 rfl rfl (B8M gl he hf hn (m-i) m i Q0 Q0 E _ hA cf)) ?_;intro r M2 b;have hx:=B6s E (n:=n) (lo:=s) (hi:=e) (i:=m-i) (j:=m) Q0 h3 i Q0 Q0;rw[D0s E Q0,hr]at b hx;simp -dsimp -implicitDefEqProofs;exact⟨b,hX.trans hx⟩
  .have l:¬(i:Int)=j:=Q0;by_cases hgt:j<i
   .have a:(j:Int)<i:=Q0;have d:(i:Int)>j:=a;have w4:=B3y (i:=i) (j:=j) Q0 Q0;simp -dsimp -implicitDefEqProofs[t0,t2,t4,c,k,w3,l,a,d];refine A0v (A0m func276 rfl rfl (B8M gl he hf hn (m-i) m j Q0 Q0 E _ hA cf)) ?_;intro r M2 b;have hx:=B6s E (n:=n) (lo:=s) (hi:=e) (i:=m-i) (j:=m) Q0 h3 j Q0 Q0;simp -dsimp -implicitDefEqProofs[t0,t2,t4,c,k,w4];refine⟨⟨i-j,by clear w4;omega,by clear w4;omega,rfl,j,rfl,by clear w4;omega,by clear w4;omega,_,b,hX.trans hx,?_⟩,by clear w4;omega⟩;rw[D2h E Q0 hgt j0,hr]
   .have a:¬(j:Int)<i:=Q0;have d:¬(i:Int)>j:=a;have w4:=B3y (i:=j) (j:=i) Q0 Q0;have w5:=D4R (i:=m) (j:=j) Q0;(have w6:IntKind.i64.wrap ((m:Int)+(j:Int)-(i:Int))=((m+j-i:Nat):Int):=by rw[A0R Q0 Q0];omega);simp -dsimp -implicitDefEqProofs[t0,t2,t4,c,k,w3,l,a,d,w5,w6];refine A0v (A0m func276 rfl rfl (B8M gl he hf hn (m-i) (m+j-i) i Q0 Q0 E _ hA cf)) ?_;intro r M2 b;have hx:=B6s E (n:=n) (lo:=s) (hi:=e) (i:=m-i) (j:=m+j-i) Q0 h3 i Q0 Q0;simp -dsimp -implicitDefEqProofs[t0,t2,t4,c,k,w4];refine⟨⟨i,by clear w4;omega,by clear w4;omega,rfl,j-i,rfl,by clear w4;omega,by clear w4;omega,_,b,hX.trans hx,?_⟩,by clear w4;omega⟩;rw[D0z E Q0 Q0 i0,hr]
end
end Go.Abs.StA
end
section
set_option maxRecDepth 100000
namespace Go.Abs.StA
open Go.Proofs TryTypes Tryz
def C7a{i j h:Nat}(hh:h=(i+j)/2)(hl:i+j<=1000000):IntKind.i64.wrap ((i:Int)+(j:Int))=(i:Int)+j/\IntKind.u64.wrap ((i:Int)+(j:Int))=(i:Int)+j/\IntKind.i64.wrap (((i:Int)+(j:Int)).fdiv (2^min 1 IntKind.u64.bits))=(h:Int):=by
 refine⟨A0R Q0 Q0,IntWalk.u64_in _ ⟨Q0,Q0⟩,?_⟩;have e:((i:Int)+(j:Int)).fdiv (2^min 1 IntKind.u64.bits)=(h:Int):=by
  have:(2:Int)^min 1 IntKind.u64.bits=2:=by decide
  rw[this,Z3W _ Q0];omega
 rw[e];exact A0R Q0 Q0
section
variable (gl:Nat->AV) {α:Type} {enc:α->List AV} {c:α->α->Int} {fid:FuncId} {first cap:List AV} {f g n:Nat} {M0:Mem}
def D1H(he:∀x,(enc x).length=7)(hc:CmpOK (WC gl) enc c fid first cap)(hf:f<M0.length)(hn:n<=1000)(a m b:Nat)(h1:a<m)(h2:m<b)(h3:b<=n)(D:Nat->α)(M:Mem)(hM:AtA 72 7 f g n enc M0 D M)(c1:m-a=1):A0c (WC gl) 192 [.vref f g 7 0 n,I a,I m,I b,.func (.func fid) first cap] M (λ_ M'=>∃E,AtA 72 7 f g n enc M0 E M'/\Mix n a b D E/\(A5A c->Srt c a m D->Srt c m b D->Srt c a b E)):=by
 refine A1c hW func192 rfl rfl rfl rfl rfl rfl ?_
 have w1:=B3y (i:=m) (j:=a) Q0 Q0
 have wb:=B3y (i:=b) (j:=m) Q0 Q0
 have L:∀{E:Nat->α} {M:Mem} {i:Nat},AtA 72 7 f g n enc M0 E M->i<n->A0M prog 72 M (.vptr f g (i*7))=some (.agg (enc (E i))):=λh hi=>h.load (P:=prog) (t:=72) hf he Q1 Q1 hi
 obtain rfl:m=a+1:=Q0
 have a2:IntKind.i64.wrap ((a:Int)+1-(a:Int))=1:=by rw[A0R Q0 Q0];omega
 simp -dsimp[a2]
 refine A0K hW (λT M1=>∃i:Nat,a+1<=i/\i<=b/\T 0=.vref f g 7 0 n/\T 1=I a/\T 4=.func (.func fid) first cap/\T 10=I i/\(a+1<i->c (D (i-1)) (D a)<0)/\
  M1=M/\∃j:Nat,T 11=I j/\i<=j/\j<=b/\(j<b->¬c (D j) (D a)<0))
  (λT _=>match T 10,T 11 with|.val (.int _ i),.val (.int _ j)=>j.toNat-i.toNat|_,_=>0) Q2 ?_ ?_
 .exact⟨a+1,Q0,Q0,Q1,Q1,Q1,Q1,λh=>by omega,rfl,b,Q1,Q0,Q0,λh=>by omega⟩
 .rintro T M1 ⟨i,i1,i2,t0,t1,t4,d,hl,rfl,j,e,ij,jb,hr⟩;by_cases hij:i<j
  .have u:(i:Int)<j:=Q0;obtain⟨h,hh⟩:=ex ((i+j)/2);have w2:=C7a hh Q0;have k1:h<n:=Q0;have z:(h:Int)<n:=Q0;have k2:a<n:=Q0;have v:(a:Int)<n:=Q0;have w3:=A1Y (i:=h) Q0;simp -dsimp[t0,t1,t4,d,e,u,w2.1,w2.2.1,w2.2.2,A5C];refine A0Z hW (A0E gl) (λk=>if k=4\/k=8 then 1 else 0) (λ_=>f) (by rfl) Q2 ?_;simp -dsimp[t0,t1,t4,d,e,w2.2.2,k1,z,k2,v,L hM k1,L hM k2];refine A1J (r:=I (c (D h) (D a))) (λM=>hc _ _ M) ?_;by_cases hlt:c (D h) (D a)<0
   .simp -dsimp[t0,t1,t4,d,e,w2.2.2,hlt,w3];exact⟨⟨h+1,by clear w3;omega,by clear w3;omega,Q1,λ_=>hlt,j,rfl,by clear w3;omega,by clear w3;omega,λq=>Z3l.1 (hr q)⟩,by clear w3 w2;omega⟩
   .simp -dsimp[t0,t1,t4,d,e,w2.2.2,hlt];exact⟨⟨i,by clear w2;omega,by clear w2;omega,rfl,hl,h,rfl,by clear w2;omega,by clear w2;omega,λ_=>Z3l.1 hlt⟩,by clear w2;omega⟩
  .obtain rfl:i=j:=Q0;(have hS:∀{E:Nat->α},E=B4H D a (i-1)->Mix n a b D E/\(A5A c->Srt c a (a+1) D->Srt c (a+1) b D->Srt c a b E):=by rintro E rfl;refine⟨?_,λo _ s2=>D0u o s2 Q0 i2 hl hr⟩;have:=C3Y D (n:=n) (lo:=a) (hi:=b) (a:=a) Q0 h3 (i-1-a) Q0;rwa[show a+(i-1-a)=i-1 by omega]at this);simp -dsimp[t0,t1,t4,d,e];refine A0K hW (λT M1=>∃k:Nat,a<=k/\k<=i-1/\T 0=.vref f g 7 0 n/\T 10=I i/\T 13=I k/\AtA 72 7 f g n enc M0 (B4H D a k) M1) (λT _=>match T 13 with|.val (.int _ k)=>i-k.toNat|_=>0) Q2 ?_ ?_
   .exact⟨a,Q0,Q0,by simp[t0],by simp[d],Q1,by rw[B9J];exact hM⟩
   .rintro T2 M2 ⟨k,k1,k2,u0,l,s,hA⟩;have w4:=D3e (i:=i) Q0 Q0;by_cases hk:k<i-1
    .have p:(k:Int)<((i-1:Nat):Int):=Q0;have w5:=A1Y (i:=k) Q0;have g1:k<n:=Q0;have g2:k+1<n:=Q0;have w:(k:Int)<n:=Q0;have a0:((k+1:Nat):Int)<n:=Q0;have p2:0<=((k+1:Nat):Int):=Q0;have q2:((k+1:Nat):Int).toNat=k+1:=Q0;obtain⟨M2,s1,a1⟩:=hA.store hf he g1 (B4H D a k (k+1));obtain⟨M3,s2,y⟩:=a1.store hf he g2 (B4H D a k k);(have hx:AtA 72 7 f g n enc M0 (B4H D a (k+1)) M3:=by rw[<-C0b D k1];exact y);have l1:=L hA g1;have l2:=L hA g2;generalize((k+1:Nat):Int)=kk at*;simp -dsimp[u0,l,s,w4,p];refine A0Z hW (A0E gl) (λk=>if k=9\/k=13 then 1 else if k=15\/k=17 then 2 else 0) (λ_=>f) (by rfl) Q2 ?_;simp -dsimp[u0,l,s,w5,g1,g2,w,a0,p2,q2,l1,l2,s1,s2];exact⟨⟨k+1,by clear w5;omega,by clear w5;omega,by clear w5;omega,hx⟩,by clear w5;omega⟩
    .obtain rfl:k=i-1:=Q0;have p:¬((i-1:Nat):Int)<((i-1:Nat):Int):=Q0;simp -dsimp[u0,l,s,w4,p];exact⟨_,hA,hS rfl⟩
def D1G(he:∀x,(enc x).length=7)(hc:CmpOK (WC gl) enc c fid first cap)(hf:f<M0.length)(hn:n<=1000)(a m b:Nat)(h1:a<m)(h2:m<b)(h3:b<=n)(D:Nat->α)(M:Mem)(hM:AtA 72 7 f g n enc M0 D M)(c1:¬m-a=1)(c2:b-m=1):A0c (WC gl) 192 [.vref f g 7 0 n,I a,I m,I b,.func (.func fid) first cap] M (λ_ M'=>∃E,AtA 72 7 f g n enc M0 E M'/\Mix n a b D E/\(A5A c->Srt c a m D->Srt c m b D->Srt c a b E)):=by
 refine A1c hW func192 rfl rfl rfl rfl rfl rfl ?_
 have w1:=B3y (i:=m) (j:=a) Q0 Q0
 have wb:=B3y (i:=b) (j:=m) Q0 Q0
 have L:∀{E:Nat->α} {M:Mem} {i:Nat},AtA 72 7 f g n enc M0 E M->i<n->A0M prog 72 M (.vptr f g (i*7))=some (.agg (enc (E i))):=λh hi=>h.load (P:=prog) (t:=72) hf he Q1 Q1 hi
 have y:¬((m-a:Nat):Int)=1:=Q0
 obtain rfl:b=m+1:=Q0
 have a3:IntKind.i64.wrap ((m:Int)+1-(m:Int))=1:=by rw[A0R Q0 Q0];omega
 simp -dsimp[w1,y,a3]
 refine A0K hW (λT M1=>∃i:Nat,a<=i/\T 0=.vref f g 7 0 n/\T 2=I m/\T 4=.func (.func fid) first cap/\T 14=I i/\(a<i->¬c (D m) (D (i-1))<0)/\
  M1=M/\∃j:Nat,T 15=I j/\i<=j/\j<=m/\(j<m->c (D m) (D j)<0))
  (λT _=>match T 14,T 15 with|.val (.int _ i),.val (.int _ j)=>j.toNat-i.toNat|_,_=>0) Q2 ?_ ?_
 .exact⟨a,Q0,Q1,Q1,Q1,Q1,λh=>by omega,rfl,m,Q1,Q0,Q0,λh=>by omega⟩
 .rintro T M1 ⟨i,i1,t0,t2,t4,d,hl,rfl,j,e,ij,jb,hr⟩;by_cases hij:i<j
  .have u:(i:Int)<j:=Q0;obtain⟨h,hh⟩:=ex ((i+j)/2);have w2:=C7a hh Q0;have k1:h<n:=Q0;have a1:(h:Int)<n:=Q0;have k2:m<n:=Q0;have w:(m:Int)<n:=Q0;have w3:=A1Y (i:=h) Q0;simp -dsimp[t0,t2,t4,d,e,u,w2.1,w2.2.1,w2.2.2,A5C];refine A0Z hW (A0E gl) (λk=>if k=4\/k=8 then 1 else 0) (λ_=>f) (by rfl) Q2 ?_;simp -dsimp[t0,t2,t4,d,e,w2.2.2,k1,a1,k2,w,L hM k1,L hM k2];refine A1J (r:=I (c (D m) (D h))) (λM=>hc _ _ M) ?_;by_cases hlt:c (D m) (D h)<0
   .simp -dsimp[t0,t2,t4,d,e,w2.2.2,hlt];exact⟨⟨i,by clear w2;omega,rfl,λq=>Z3l.1 (hl q),h,rfl,by clear w2;omega,by clear w2;omega,λ_=>hlt⟩,by clear w2;omega⟩
   .simp -dsimp[t0,t2,t4,d,e,w2.2.2,hlt,w3];exact⟨⟨h+1,by clear w3;omega,Q1,λ_=>Z3l.1 hlt,j,rfl,by clear w3;omega,by clear w3;omega,hr⟩,by clear w3 w2;omega⟩
  .obtain rfl:i=j:=Q0;(have hS:∀{E:Nat->α},E=A6G D i m->Mix n a (m+1) D E/\(A5A c->Srt c a m D->Srt c m (m+1) D->Srt c a (m+1) E):=by rintro E rfl;refine⟨?_,λo s1 _=>C5z o s1 Q0 jb hl hr⟩;have:=B8g D (n:=n) (lo:=a) (hi:=m+1) (m:=m) Q0 h3 (m-i) Q0 Q0;rwa[show m-(m-i)=i by omega]at this);simp -dsimp[t0,t2,t4,d,e];refine A0K hW (λT M1=>∃k:Nat,i<=k/\k<=m/\T 0=.vref f g 7 0 n/\T 14=I i/\T 17=I k/\AtA 72 7 f g n enc M0 (A6G D k m) M1) (λT _=>match T 17 with|.val (.int _ k)=>k.toNat|_=>0) Q2 ?_ ?_
   .exact⟨m,Q0,Q0,by simp[t0],by simp[d],Q1,by rw[B4W];exact hM⟩
   .rintro T2 M2 ⟨k,k1,k2,u0,p,l,hA⟩;by_cases hk:i<k
    .have s:(i:Int)<k:=Q0;have v:(k:Int)>i:=s;have w5:=D3e (i:=k) Q0 Q0;have g1:k<n:=Q0;have g2:k-1<n:=Q0;have z:(k:Int)<n:=Q0;have a2:((k-1:Nat):Int)<n:=Q0;obtain⟨M2,s1,a4⟩:=hA.store hf he g1 (A6G D k m (k-1));obtain⟨M3,s2,a0⟩:=a4.store hf he g2 (A6G D k m k);(have hx:AtA 72 7 f g n enc M0 (A6G D (k-1) m) M3:=by rw[<-B5O D k2 Q0];exact a0);have l1:=L hA g1;have l2:=L hA g2;simp -dsimp[u0,p,l,s,v];refine A0Z hW (A0E gl) (λk=>if k=9\/k=13 then 1 else if k=15\/k=17 then 2 else 0) (λ_=>f) (by rfl) Q2 ?_;simp -dsimp[u0,p,l,w5,g1,g2,z,a2,l1,l2,s1,s2];exact⟨⟨k-1,by clear w5;omega,by clear w5;omega,rfl,hx⟩,by clear w5;omega⟩
    .obtain rfl:k=i:=Q0;simp -dsimp[u0,p,l];exact⟨_,hA,hS rfl⟩
end
end Go.Abs.StA
end
section
set_option maxRecDepth 100000
namespace Go.Abs.StA
open Go.Proofs TryTypes Tryz
section
variable (gl:Nat->AV) {α:Type} {enc:α->List AV} {c:α->α->Int} {fid:FuncId} {first cap:List AV} {f g n:Nat} {M0:Mem}
set_option maxHeartbeats 4000000 in
def D2A(he:∀x,(enc x).length=7)(hc:CmpOK (WC gl) enc c fid first cap)(hf:f<M0.length)(hn:n<=1000)(a m b:Nat)(h1:a<m)(h2:m<b)(h3:b<=n)(D:Nat->α)(M:Mem)(hM:AtA 72 7 f g n enc M0 D M)(c1:¬m-a=1)(c2:¬b-m=1)
 (ih:∀(a' m' b':Nat),b'-a'<b-a->a'<m'->m'<b'->b'<=n->∀(D:Nat->α) (M:Mem),AtA 72 7 f g n enc M0 D M->A0c (WC gl) 192 [.vref f g 7 0 n,I a',I m',I b',.func (.func fid) first cap] M (λ_ M'=>∃E,AtA 72 7 f g n enc M0 E M'/\Mix n a' b' D E/\(A5A c->Srt c a' m' D->Srt c m' b' D->Srt c a' b' E))):
 A0c (WC gl) 192 [.vref f g 7 0 n,I a,I m,I b,.func (.func fid) first cap] M (λ_ M'=>∃E,AtA 72 7 f g n enc M0 E M'/\Mix n a b D E/\(A5A c->Srt c a m D->Srt c m b D->Srt c a b E)):=by
 refine A1c hW func192 rfl rfl rfl rfl rfl rfl ?_
 have w1:=B3y (i:=m) (j:=a) Q0 Q0
 have wb:=B3y (i:=b) (j:=m) Q0 Q0
 have L:∀{E:Nat->α} {M:Mem} {i:Nat},AtA 72 7 f g n enc M0 E M->i<n->A0M prog 72 M (.vptr f g (i*7))=some (.agg (enc (E i))):=λh hi=>h.load (P:=prog) (t:=72) hf he Q1 Q1 hi
 have aa:¬((m-a:Nat):Int)=1:=Q0
 have ac:¬((b-m:Nat):Int)=1:=Q0
 obtain⟨mid,a9⟩:=ex ((a+b)/2)
 have wm:=C7a a9 Q0
 have wn:IntKind.i64.wrap ((mid:Int)+(m:Int))=((mid+m:Nat):Int):=D4R Q0
 have wp:IntKind.i64.wrap (((mid+m:Nat):Int)-1)=((mid+m-1:Nat):Int):=D3e Q0 Q0
 obtain⟨nn,am⟩:=ex (mid+m)
 rw[<-am]at wn wp
 obtain⟨s0,r0,ab⟩:∃s0 r0,(mid<m/\s0=nn-b/\r0=mid)\/(¬mid<m/\s0=a/\r0=m):=by
  by_cases q:mid<m
  .exact⟨_,_,.inl ⟨q,rfl,rfl⟩⟩
  .exact⟨_,_,.inr ⟨q,rfl,rfl⟩⟩
 have an:=ab
 rcases ab with⟨q1,q2,q3⟩|⟨q1,q2,q3⟩
 case' inl=>
  have a1:(mid:Int)<m:=Q0;have a4:(m:Int)>mid:=a1;have q4:IntKind.i64.wrap ((nn:Int)-(b:Int))=(s0:Int):=by rw[q2];exact B3y Q0 Q0
  simp -dsimp[w1,wb,aa,ac,wm.1,wm.2.1,wm.2.2,A5C,wn,wp,a1,a4,q4]
 case' inr=>have a1:¬(mid:Int)<m:=Q0;have a4:¬(m:Int)>mid:=a1;simp -dsimp[w1,wb,aa,ac,wm.1,wm.2.1,wm.2.2,A5C,wn,wp,a1,a4]
 all_goals
  have ao:s0<=r0/\a<=s0/\r0<=m/\r0<=mid+m/\m<=nn-r0/\nn-s0<=b/\a<mid/\mid<b:=Q0
  refine A7f (.exit 8) (λT M1=>∃s:Nat,s0<=s/\s<=r0/\T 0=.vref f g 7 0 n/\T 1=I a/\T 2=I m/\T 3=I b/\T 4=.func (.func fid) first cap/\T 18=I mid/\T 19=I nn/\T 20=I s/\M1=M/\(s0<s->¬c (D (nn-s)) (D (s-1))<0)/\(s<r0->c (D (nn-1-s)) (D s)<0)) ?_ ?_
 case' inl.refine_1=>
  refine A0K hW (λT M1=>∃s:Nat,s0<=s/\T 0=.vref f g 7 0 n/\T 1=I a/\T 2=I m/\T 3=I b/\T 4=.func (.func fid) first cap/\T 18=I mid/\T 19=I nn/\T 22=I (nn-1:Nat)/\T 20=I s/\
   (s0<s->¬c (D (nn-s)) (D (s-1))<0)/\M1=M/\∃r:Nat,T 21=I r/\s<=r/\r<=r0/\(r<r0->c (D (nn-1-r)) (D r)<0))
   (λT _=>match T 20,T 21 with|.val (.int _ i),.val (.int _ j)=>j.toNat-i.toNat|_,_=>0) Q2 ?_ ?_
  .exact⟨s0,Q0,Q1,Q1,Q1,Q1,Q1,Q1,Q1,Q1,Q1,λq=>by omega,rfl,r0,by simp[q3],Q0,Q0,λq=>by omega⟩
 case' inr.refine_1=>
  refine A0K hW (λT M1=>∃s:Nat,s0<=s/\T 0=.vref f g 7 0 n/\T 1=I a/\T 2=I m/\T 3=I b/\T 4=.func (.func fid) first cap/\T 18=I mid/\T 19=I nn/\T 22=I (nn-1:Nat)/\T 20=I s/\
   (s0<s->¬c (D (nn-s)) (D (s-1))<0)/\M1=M/\∃r:Nat,T 21=I r/\s<=r/\r<=r0/\(r<r0->c (D (nn-1-r)) (D r)<0))
   (λT _=>match T 20,T 21 with|.val (.int _ i),.val (.int _ j)=>j.toNat-i.toNat|_,_=>0) Q2 ?_ ?_
  .exact⟨s0,Q0,Q1,Q1,Q1,Q1,Q1,Q1,Q1,Q1,by simp[q2],λq=>by omega,rfl,r0,by simp[q3],Q0,Q0,λq=>by omega⟩
 case inl.refine_1|inr.refine_1=>
  rintro T M1 ⟨x,x1,t0,t1,t2,t3,t4,d,v,t22,t20,hl,rfl,y,t21,xy,yr,hr⟩;by_cases hxy:x<y;case pos=>
   have ad:(x:Int)<y:=Q0;obtain⟨h,hh⟩:=ex ((x+y)/2);have w2:=C7a hh Q0;have w3:=A1Y (i:=h) Q0;have w4:=B3y (i:=nn-1) (j:=h) Q0 Q0;have k1:h<n:=Q0;have ak:(h:Int)<n:=Q0;have k2:nn-1-h<n:=Q0;have aj:((nn-1-h:Nat):Int)<n:=Q0;simp -dsimp[t0,t1,t2,t3,t4,d,v,t22,t20,t21,ad,w2.1,w2.2.1,w2.2.2,A5C];refine A0Z hW (A0E gl) (λk=>if k=6\/k=10 then 1 else 0) (λ_=>f) (by rfl) Q2 ?_;simp -dsimp[t0,t1,t2,t3,t4,d,v,t22,t20,t21,w2.2.2,w4,k1,ak,k2,aj,L hM k1,L hM k2];refine A1J (r:=I (c (D (nn-1-h)) (D h))) (λM=>hc _ _ M) ?_;by_cases hlt:c (D (nn-1-h)) (D h)<0
   .simp -dsimp[t0,t1,t2,t3,t4,d,v,t22,t20,t21,w2.2.2,hlt];exact⟨⟨x,by clear w2;omega,rfl,λq=>Z3l.1 (hl q),h,rfl,by clear w2;omega,by clear w2;omega,λ_=>hlt⟩,by clear w2;omega⟩
   .have e1:nn-(h+1)=nn-1-h:=Q0;simp -dsimp[t0,t1,t2,t3,t4,d,v,t22,t20,t21,w2.2.2,hlt,w3];exact⟨⟨h+1,by clear w3;omega,Q1,λ_=>by rw[e1];exact Z3l.1 hlt,y,rfl,by clear w3;omega,by clear w3;omega,hr⟩,by clear w3 w2;omega⟩
  case neg=>obtain rfl:x=y:=Q0;simp -dsimp[t0,t1,t2,t3,t4,d,v,t22,t20,t21];exact⟨x,Q0,Q0,rfl,λq=>Z3l.1 (hl q),hr⟩
 all_goals
  rintro T M1 ⟨x,x1,x2,t0,t1,t2,t3,t4,d,v,t20,rfl,hl,hr⟩
  have we:=B3y (i:=nn) (j:=x) Q0 Q0
  obtain⟨e,a8⟩:∃e,e=nn-x:=⟨_,rfl⟩
  rw[<-a8]at we
  simp -dsimp[-A7I]
  rw[A7I]
  simp -dsimp[-A7I,t0,t1,t2,t3,t4,d,v,t20,we]
  rw[A7I]
  have l:x<=m/\m<=e/\e<=b/\a<=x/\e+x=mid+m/\(a<x/\e<b->s0<x)/\(x<m/\m<e->x<r0):=Q0
  have a0:=λ(o:A5A c) (s1:Srt c a m D) (s2:Srt c m b D)=>C9z (mid:=mid) (s:=x) (e:=e) s1 s2 l.2.2.2.1 l.1 l.2.1 l.2.2.1 l.2.2.2.2.1
  have ae:=λ(o:A5A c) (s1:Srt c a m D) (s2:Srt c m b D)=>C3Z (mid:=mid) (s:=x) (e:=e) o s1 s2 l.2.2.2.1 l.1 l.2.1 l.2.2.1 l.2.2.2.2.1 (λq=>by rw[a8];exact hl (l.2.2.2.2.2.1 q)) (λq=>by have:=hr (l.2.2.2.2.2.2 q);rwa[show nn-1-x=e-1 by omega]at this)
  refine B2q (λT M1=>T 0=.vref f g 7 0 n/\T 1=I a/\T 3=I b/\T 4=.func (.func fid) first cap/\T 18=I mid/\T 20=I x/\T 24=I e/\AtA 72 7 f g n enc M0 (rot D x m e) M1/\Mix n a b D (rot D x m e)) ?_ ?_
  .by_cases r1:x<m
   .have u:(x:Int)<m:=Q0;by_cases r2:m<e
    .have w:(m:Int)<e:=Q0;simp -dsimp[t0,t1,t2,t3,t4,d,v,t20,u,w];refine A0v (A0m func249 rfl rfl (C9A gl he hf hn x m e r1 r2 Q0 D _ hM _)) ?_;rintro r M2 ⟨hA,hX⟩;simp -dsimp[t0,t1,t2,t3,t4,d,v,t20];exact⟨hA,hX.wide Q0 Q0⟩
    .have w:¬(m:Int)<e:=Q0;simp -dsimp[t0,t1,t2,t3,t4,d,v,t20,u,w];rw[C3G D l.1 l.2.1 Q0];exact⟨hM,.refl ..⟩
   .have u:¬(x:Int)<m:=Q0;simp -dsimp[t0,t1,t2,t3,t4,d,v,t20,u];rw[C3G D l.1 l.2.1 Q0];exact⟨hM,.refl ..⟩
  clear t0 t1 t2 t3 t4 d v t20
  generalize rot D x m e=R at*
  rintro T M1 ⟨t0,t1,t3,t4,d,t20,z,hA,hX⟩
  simp -dsimp[-A7I]
  rw[A7I]
  refine B2q (λT M1=>T 0=.vref f g 7 0 n/\T 3=I b/\T 4=.func (.func fid) first cap/\T 18=I mid/\T 24=I e/\∃E,AtA 72 7 f g n enc M0 E M1/\Mix n a mid R E/\(A5A c->Srt c a m D->Srt c m b D->Srt c a mid E)) ?_ ?_
  .by_cases r1:a<x
   .have u:(a:Int)<x:=Q0;by_cases r2:x<mid
    .have w:(x:Int)<mid:=Q0;simp -dsimp[t0,t1,t3,t4,d,t20,z,u,w];refine A0v (A0m func192 rfl rfl (ih a x mid Q0 r1 r2 Q0 R _ hA)) ?_;rintro r M2 ⟨E,ah,a2,a5⟩;simp -dsimp[t0,t1,t3,t4,d,t20,z];exact⟨E,ah,a2,λo s1 s2=>a5 o (a0 o s1 s2).1 (a0 o s1 s2).2.1⟩
    .have w:¬(x:Int)<mid:=Q0;simp -dsimp[t0,t1,t3,t4,d,t20,z,u,w];exact⟨R,hA,.refl ..,λo s1 s2=>(a0 o s1 s2).1.part (Z0j _) Q0⟩
   .have u:¬(a:Int)<x:=Q0;simp -dsimp[t0,t1,t3,t4,d,t20,z,u];exact⟨R,hA,.refl ..,λo s1 s2=>(a0 o s1 s2).2.1.part Q0 (Z0j _)⟩
  clear t0 t1 t3 t4 d t20 z
  rintro T M1 ⟨t0,t3,t4,d,z,E,hA,a2,a5⟩
  have a6:∀{F:Nat->α} {M:Mem},AtA 72 7 f g n enc M0 F M->Mix n mid b E F->(A5A c->Srt c a m D->Srt c m b D->Srt c mid b F)->∃E,AtA 72 7 f g n enc M0 E M/\Mix n a b D E/\(A5A c->Srt c a m D->Srt c m b D->Srt c a b E):=by intro F M hF a7 af;refine⟨F,hF,(hX.trans (a2.wide (Z0j _) Q0)).trans (a7.wide Q0 (Z0j _)),λo s1 s2=>?_⟩;exact C6H Q0 Q0 (ae o s1 s2) a2 a7 (a5 o s1 s2) (af o s1 s2)
  have a3:∀{p q:Nat},mid<=p->Srt c p q R->Srt c p q E:=λhp hs=>hs.congr λk k1 _=>a2.out k (.inr Q0)
  by_cases r1:mid<e
  .have u:(mid:Int)<e:=Q0;by_cases r2:e<b
   .have w:(e:Int)<b:=Q0;simp -dsimp[t0,t3,t4,d,z,u,w];refine A0v (A0m func192 rfl rfl (ih mid e b Q0 r1 r2 Q0 E _ hA)) ?_;rintro r M2 ⟨F,ag,al,ai⟩;simp -dsimp[t0,t3,t4,d,z];exact a6 ag al λo s1 s2=>ai o (a3 (Z0j _) (a0 o s1 s2).2.2.1) (a3 Q0 (a0 o s1 s2).2.2.2)
   .have w:¬(e:Int)<b:=Q0;simp -dsimp[t0,t3,t4,d,z,u,w];exact a6 hA (.refl ..) λo s1 s2=>(a3 (Z0j _) (a0 o s1 s2).2.2.1).part (Z0j _) Q0
  .have u:¬(mid:Int)<e:=Q0;simp -dsimp[t0,t3,t4,d,z,u];exact a6 hA (.refl ..) λo s1 s2=>(a3 Q0 (a0 o s1 s2).2.2.2).part Q0 (Z0j _)
def C1k(he:∀x,(enc x).length=7)(hc:CmpOK (WC gl) enc c fid first cap)(hf:f<M0.length)(hn:n<=1000):∀(N a m b:Nat),b-a<N->a<m->m<b->b<=n->∀(D:Nat->α) (M:Mem),AtA 72 7 f g n enc M0 D M->
 A0c (WC gl) 192 [.vref f g 7 0 n,I a,I m,I b,.func (.func fid) first cap] M (λ_ M'=>∃E,AtA 72 7 f g n enc M0 E M'/\Mix n a b D E/\(A5A c->Srt c a m D->Srt c m b D->Srt c a b E))
 |0,a,m,b,hN,_,_,_,D,M,hM=>by omega
 |N+1,a,m,b,hN,h1,h2,h3,D,M,hM=>by
  by_cases c1:m-a=1
  .exact D1H gl he hc hf hn a m b h1 h2 h3 D M hM c1
  .by_cases c2:b-m=1
   .exact D1G gl he hc hf hn a m b h1 h2 h3 D M hM c1 c2
   .exact D2A gl he hc hf hn a m b h1 h2 h3 D M hM c1 c2 λa' m' b' hN' k1 k2 k3 D M hM=>C1k he hc hf hn N a' m' b' Q0 k1 k2 k3 D M hM
end
end Go.Abs.StA
end
section
set_option maxRecDepth 100000
namespace Go.Abs.StA
open Go.Proofs TryTypes Tryz
section
variable (gl:Nat->AV) {α:Type} {enc:α->List AV} {c:α->α->Int} {fid:FuncId} {first cap:List AV} {f g n:Nat} {M0:Mem}
def C8b(M:Mem)(cf:AV):A0c (WC gl) 191 [.val (.slice none 0 0),I 0,I 0,cf] M (λ_ M'=>M'=M):=by
 refine A1c hW func191 rfl rfl rfl rfl rfl rfl ?_;have w1:IntKind.i64.wrap 1=1:=by decide
 simp -dsimp[w1];refine A0K hW (λT M1=>M1=M/\T 2=I 0/\T 8=I 1) (λ_ _=>0) Q2 ?_ ?_
 .exact⟨rfl,Q1,Q1⟩
 .rintro T M1 ⟨rfl,t2,t8⟩;simp -dsimp[t2,t8]
def C5f(M:Mem)(cf:AV):A0c (WC gl) 120 [.val (.slice none 0 0),I 0,cf] M (λ_ M'=>M'=M):=by
 refine A1c hW func120 rfl rfl rfl rfl rfl rfl ?_;simp -dsimp;refine A0K hW (λT M1=>M1=M/\T 0=.val (.slice none 0 0)/\T 1=I 0/\T 2=cf/\T 6=I 20/\T 7=I 0/\T 8=I 20) (λ_ _=>0) Q2 ?_ ?_
 .exact⟨rfl,Q1,Q1,Q1,Q1,Q1,Q1⟩
 .rintro T M1 ⟨rfl,t0,t1,t2,t6,t7,t8⟩;simp -dsimp[t0,t1,t2,t6,t7,t8];refine A0v (A0m func191 rfl rfl (C8b gl _ cf)) ?_;rintro r M2 rfl;simp -dsimp;refine A0K hW (λT M1=>M1=M2/\T 1=I 0/\T 6=I 20) (λ_ _=>0) Q2 ?_ ?_
  .exact⟨rfl,by simp[t1],by simp[t6]⟩
  .rintro T M1 ⟨rfl,t1,t6⟩;simp -dsimp[t1,t6]
def sortStable_nil(M:Mem)(cf:AV):A0c (WC gl) 74 [.val (.slice none 0 0),cf] M (λ_ M'=>M'=M):=by refine A1c hW func74 rfl rfl rfl rfl rfl rfl ?_;simp -dsimp;refine A0v (A0m func120 rfl rfl (C5f gl M cf)) ?_;rintro r M2 rfl;simp -dsimp
end
end Go.Abs.StA
end
section
set_option maxRecDepth 100000
namespace Go.Abs.StA
open Go.Proofs TryTypes Tryz
def B6p{d x y:Nat}(h1:d ∣x)(h2:d ∣y)(h:x<y):x+d<=y:=by
 obtain⟨p,rfl⟩:=h1;obtain⟨q,rfl⟩:=h2;have a:p<q:=Nat.lt_of_mul_lt_mul_left h
 have b:=Nat.mul_le_mul_left d a;rwa[Nat.mul_succ]at b
section
variable (gl:Nat->AV) {α:Type} {enc:α->List AV} {c:α->α->Int} {fid:FuncId} {first cap:List AV} {f g n:Nat} {M0:Mem}
def Low(c:α->α->Int)(d a:Nat)(E:Nat->α):Prop:=∀x,d ∣x->x<a->Srt c x (x+d) E
def Upp(c:α->α->Int)(d a n:Nat)(E:Nat->α):Prop:=∀x,d ∣x->a<=x->Srt c x (min (x+d) n) E
def Low.next{d a b:Nat}{E F:Nat->α}(h:Low c d a E)(hd:d ∣a)(hb:b=a+d)(hx:Mix n a b E F)(hs:Srt c a b F):Low c d b F:=λx h1 h2=>by
 by_cases hxa:x<a
 .have:=B6p h1 hd hxa;exact(h x h1 hxa).congr λk k1 k2=>hx.out k (.inl Q0)
 .have:x=a:=by
   by_cases e:a<x
   .have:=B6p hd h1 e;omega
   .omega
  subst this;rw[<-hb];exact hs
def Low.full{d a:Nat}{E F:Nat->α}(h:Low c d a E)(hd:d ∣a)(b:a<=n)(hn:n<a+d)(hx:Mix n a n E F)(hs:Srt c a n F):Upp c d 0 n F:=λx h1 _=>by
 by_cases hxa:x<a
 .have:=B6p h1 hd hxa;exact((h x h1 hxa).congr λk k1 k2=>hx.out k (.inl Q0)).part (Z0j _) (Nat.min_le_left _ _)
 .by_cases e:a<x
  .have:=B6p hd h1 e;exact .short Q0
  .obtain rfl:x=a:=Q0;exact hs.part (Z0j _) (Nat.min_le_right _ _)
def Upp.next{d a b:Nat}{E F:Nat->α}(h:Upp c d a n E)(e:a<=b)(hx:Mix n a b E F):Upp c d b n F:=λx h1 h2=>(h x h1 Q0).congr λk k1 k2=>hx.out k (.inr Q0)
set_option maxHeartbeats 1000000 in
def C6C(he:∀x,(enc x).length=7)(hc:CmpOK (WC gl) enc c fid first cap)(hf:f<M0.length)(hn:n<=1000)(D:Nat->α)(M:Mem)(hM:AtA 72 7 f g n enc M0 D M):A0c (WC gl) 120 [.vref f g 7 0 n,I n,.func (.func fid) first cap] M (λ_ M'=>∃E,AtA 72 7 f g n enc M0 E M'/\Mix n 0 n D E/\(A5A c->Srt c 0 n E)):=by
 refine A1c hW func120 rfl rfl rfl rfl rfl rfl ?_
 simp -dsimp
 refine A0K hW (λT M1=>∃a:Nat,T 0=.vref f g 7 0 n/\T 1=I n/\T 2=.func (.func fid) first cap/\T 6=I (20:Nat)/\T 7=I a/\T 8=I (a+20:Nat)/\20 ∣a/\a<=n/\∃E,AtA 72 7 f g n enc M0 E M1/\Mix n 0 n D E/\(A5A c->Low c 20 a E)) (λT _=>match T 7 with|.val (.int _ i)=>1000-i.toNat|_=>0) Q2 ?_ ?_
 .exact⟨0,Q1,Q1,Q1,Q1,Q1,Q1,Q1,Q0,D,hM,.refl ..,λ_ x _ h=>by omega⟩
 .rintro T M1 ⟨a,t0,t1,t2,t6,t7,t8,ha,t,E,hA,hX,hS⟩;have w1:IntKind.i64.wrap (((a+20:Nat):Int)+20)=((a+20+20:Nat):Int):=by rw[A0R Q0 Q0];omega
  have v:T 6=I 20:=t6;obtain⟨a2,z⟩:=ex (a+20);rw[<-z]at t8 w1;by_cases hb:a2<=n
  .have w:(a2:Int)<=n:=Q0;simp -dsimp[t0,t1,t2,v,t7,t8,w];refine A0v (A0m func191 rfl rfl (C2Q gl he hc hf Q0 a a2 Q0 Q0 E _ hA)) ?_;rintro r M2 ⟨F,k,e,j⟩;simp -dsimp[t0,t1,t2,v,t7,t8,w1];exact⟨⟨a2,rfl,Q0,Q0,F,k,hX.trans (e.wide Q0 Q0),λo=>(hS o).next ha z e (j o)⟩,Q0⟩
  .have w:¬(a2:Int)<=n:=Q0;simp -dsimp[t0,t1,t2,v,t7,t8,w];refine A0v (A0m func191 rfl rfl (C2Q gl he hc hf Q0 a n Q0 Q0 E _ hA)) ?_;rintro r M2 ⟨F,k,e,j⟩;have hU:A5A c->Upp c 20 0 n F:=λo=>(hS o).full ha t Q0 e (j o);have a0:=hX.trans (e.wide (Z3u _) (Z0j _));clear e hA hS hX;simp -dsimp;refine A0K hW (λT M1=>∃bs:Nat,0<bs/\bs<=2000/\T 0=.vref f g 7 0 n/\T 1=I n/\T 2=.func (.func fid) first cap/\T 6=I bs/\∃E,AtA 72 7 f g n enc M0 E M1/\Mix n 0 n D E/\(A5A c->Upp c bs 0 n E)) (λT _=>match T 6 with|.val (.int _ i)=>2000-i.toNat|_=>0) Q2 ?_ ?_
   .exact⟨20,Q0,Q0,by simp[t0],by simp[t1],by simp[t2],by simp[t6],F,k,a0,hU⟩
   .clear t0 t1 t2 t6 t7 t8 v;rintro T M3 ⟨bs,a3,a4,t0,t1,t2,t6,E,hA,hX,hS⟩;by_cases hbs:bs<n;(case neg=>have q:¬(bs:Int)<n:=Q0;simp -dsimp[t0,t1,t2,t6,q];exact⟨E,hA,hX,λo=>(hS o 0 (Nat.dvd_zero _) (Z0j _)).part (Z0j _) Q0⟩);have q:(bs:Int)<n:=Q0;(have w2:IntKind.i64.wrap (2*(bs:Int))=((2*bs:Nat):Int):=by rw[A0R Q0 Q0];omega);(have w3:IntKind.i64.wrap ((bs:Int)*2)=((2*bs:Nat):Int):=by rw[A0R Q0 Q0];omega);obtain⟨d,hd⟩:=ex (2*bs);rw[<-hd]at w2 w3;have a1:bs ∣d:=⟨2,Q0⟩;simp -dsimp[t0,t1,t2,t6,q,w2];refine A0K hW (λT M4=>∃a:Nat,T 0=.vref f g 7 0 n/\T 1=I n/\T 2=.func (.func fid) first cap/\T 6=I bs/\T 7=I a/\T 8=I (a+d:Nat)/\d ∣a/\a<=n/\∃E,AtA 72 7 f g n enc M0 E M4/\Mix n 0 n D E/\(A5A c->Low c d a E/\Upp c bs a n E)) (λT _=>match T 7 with|.val (.int _ i)=>1000-i.toNat|_=>0) Q2 ?_ ?_
    .exact⟨0,by simp[t0],by simp[t1],by simp[t2],by simp[t6],Q1,Q1,Q1,Q0,E,hA,hX,λo=>⟨λx _ h=>by omega,hS o⟩⟩
    .clear hS hX hA;rintro T4 M4 ⟨a,u0,u1,u2,u6,u7,u8,s,t,E,hA,hX,hS⟩;obtain⟨b,hb⟩:=ex (a+d);obtain⟨m,hm⟩:=ex (a+bs);rw[<-hb]at u8;(have w4:IntKind.i64.wrap ((a:Int)+bs)=(m:Nat):=by rw[A0R Q0 Q0];omega);(have w5:IntKind.i64.wrap ((b:Int)+d)=((b+d:Nat):Int):=by rw[A0R Q0 Q0];omega);have u:bs ∣a:=Nat.dvd_trans a1 s;(have y:bs ∣m:=by rw[hm];exact Nat.dvd_add u (Nat.dvd_refl _));by_cases hbn:b<=n
     .have l:(b:Int)<=n:=Q0;simp -dsimp[u0,u1,u2,u6,u7,u8,l,w4];refine A0v (A0m func192 rfl rfl (C1k gl he hc hf Q0 (n+1) a m b Q0 Q0 Q0 Q0 E _ hA)) ?_;rintro r M5 ⟨F,k,e,j⟩;simp -dsimp[u0,u1,u2,u6,u7,u8,w2,w5];refine⟨⟨b,rfl,by rw[hb];exact Nat.dvd_add s (Nat.dvd_refl _),hbn,F,k,hX.trans (e.wide Q0 Q0),λo=>?_⟩,Q0⟩;obtain⟨hl,hu⟩:=hS o;have s1:=(hu a u (Z0j _)).part (Z0j a) (show m<=min (a+bs) n by omega);have s2:=(hu m y Q0).part (Z0j m) (show b<=min (m+bs) n by omega);exact⟨hl.next s hb e (j o s1 s2),hu.next Q0 e⟩
     .have l:¬(b:Int)<=n:=Q0;by_cases hmn:m<n
      .have p:(m:Int)<n:=Q0;simp -dsimp[u0,u1,u2,u6,u7,u8,l,w4,p];refine A0v (A0m func192 rfl rfl (C1k gl he hc hf Q0 (n+1) a m n Q0 Q0 Q0 Q0 E _ hA)) ?_;rintro r M5 ⟨F,k,e,j⟩;simp -dsimp[u0,u1,u2,u6,u7,u8,w3,t6];refine⟨⟨d,Q0,Q0,rfl,F,k,hX.trans (e.wide Q0 Q0),λo=>?_⟩,Q0⟩;obtain⟨hl,hu⟩:=hS o;have s1:=(hu a u (Z0j _)).part (Z0j a) (show m<=min (a+bs) n by omega);have s2:=(hu m y Q0).part (Z0j m) (show n<=min (m+bs) n by omega);exact hl.full s t Q0 e (j o s1 s2)
      .have p:¬(m:Int)<n:=Q0;simp -dsimp[u0,u1,u2,u6,u7,u8,l,w4,p,w3,t6];refine⟨⟨d,Q0,Q0,rfl,E,hA,hX,λo=>?_⟩,Q0⟩;obtain⟨hl,hu⟩:=hS o;have s1:=(hu a u (Z0j _)).part (Z0j a) (show n<=min (a+bs) n by omega);exact hl.full s t Q0 (.refl ..) s1
def sortStableL_ok(he:∀x,(enc x).length=7)(hc:CmpOK (WC gl) enc c fid first cap)(hf:f<M0.length)(hn:n<=1000)(D:Nat->α)(M:Mem)(hM:AtA 72 7 f g n enc M0 D M):A0c (WC gl) 74 [.vref f g 7 0 n,.func (.func fid) first cap] M (λ_ M'=>∃E,AtA 72 7 f g n enc M0 E M'/\Mix n 0 n D E/\(A5A c->Srt c 0 n E)):=by
 refine A1c hW func74 rfl rfl rfl rfl rfl rfl ?_
 simp -dsimp
 refine A0v (A0m func120 rfl rfl (C6C gl he hc hf hn D M hM)) ?_
 rintro r M2 h
 simp -dsimp[h]
end
end Go.Abs.StA
end
namespace Go.Abs
open Go.Proofs TryTypes Tryz
abbrev B'(b:Bool):AV:=.val (.bool b)
@[simp] def C2s(M:Mem)(X:A0l):(M++[X])[M.length]?=some X:=by simp
@[simp] def A2x{P:Program}{t bt:TypeId}{cs:List AV}{M:Mem}{o:Nat}:A0M P t (M++[.cells bt cs]) (.ptr M.length o)=if o<=cs.length then A0y P t (cs.drop o)else none:=A0b (C2s M _)
def Kp(oo:Nat)(v:AV)(M M':Mem):Prop:=M.length<=M'.length/\∀i,i<M.length->i≠oo->obj v≠some i->M'[i]?=M[i]?
def C3A(oo:Nat):AV:=.func (.func 73) [] [.ptr oo 0]
section
variable (gl:Nat->AV)
def D4U(a:A0X)(b:Bool)(oo:Nat)(v:AV)(c:List A0X)(M:Mem)(hM:M[oo]?=some (.cells 44 [v]))(hv:A1p 72 7 A0X.row M v c)(hl:c.length<=1000):A0c (WC gl) 73 [.agg a.row,B b,.ptr oo 0] M (λ_ M'=>∃v',M'[oo]?=some (.cells 44 [v'])/\A1p 72 7 A0X.row M' v' (if b then c else c++[a])/\Kp oo v M M'/\(obj v'=obj v\/A1K M.length v')):=by
 rw[A0X.row]
 refine A1c (hQ [10]) func73 rfl rfl rfl rfl rfl rfl ?_
 have m:oo<M.length:=(Z0a.1 hM).1
 have k:∀f,obj v=some f->f≠oo:=λf hf e=>by
  subst e;rcases hv with⟨rfl,_⟩|⟨f',g,n,rfl,hm,_⟩
  .simp at hf
  .simp at hf;subst hf;rw[hM]at hm;simp at hm
 cases b with
 |true=>
  simp -dsimp
  exact⟨v,hM,hv,⟨Z0j _,λ_ _ _ _=>rfl⟩,.inl rfl⟩
 |false=>
  simp -dsimp[A0b hM,A0w,A1e]
  refine A3u (C:=WC gl) (enc:=A0X.row) (e:=72) (sz:=7) (news:=[a]) D8f E0M D9I (λ_=>rfl) hv (by simp[A0D,A0X.row]) (by simp;omega) (by rfl) ?_
  intro v' M' h1 h2 h3 _
  have j:M'[oo]?=some (.cells 44 [v]):=h2.get hM (λe=>k _ e rfl)
  have hs:A0k (some 1) M' (.ptr oo 0) v'=some (M'.set oo (.cells 44 [v'])):=by rw[A0f j,h1.store,h1.cells];simp[A0e]
  have d:oo<M'.length:=(Z0a.1 j).1
  have l:∀f,obj v'=some f->f≠oo:=λf hf e=>by
   subst e;rcases h3 with h3|h3
   .exact k _ (by rw[<-h3];exact hf) rfl
   .have:=h3 _ hf;omega
  simp -dsimp[hs]
  refine⟨v',by simp[d],h1.keep (o:=some oo) (A0d.set _ _ _) (λf hf e=>l f hf (by simpa using e.symm)),⟨by have:=h2.1;simpa using this,λi hi hne hob=>?_⟩,h3⟩
  rw[Z0f Q0]
  exact h2.2 i hi hob
def EvI(oo b:Nat)(M0:Mem)(row:List A0X)(M1:Mem):Prop:=∃v mm,M1[oo]?=some (.cells 44 [v])/\A1p 72 7 A0X.row M1 v (A3D row)/\A2Y I B' M1 b mm/\(∀n,A4Y mm n=if n∈row.map (·.number)then some true else none)/\M0.length<=M1.length/\(∀i,i<M0.length->i≠oo->M1[i]?=M0[i]?)/\A1K M0.length v
def EvI.grow{oo b:Nat}{M0 M1:Mem}{row:List A0X}(h:EvI oo b M0 row M1)(X:Mem):EvI oo b M0 row (M1++X):=by obtain⟨v,mm,h1,h2,h3,h4,h5,h6,h7⟩:=h;refine⟨v,mm,by rw[Z0n (Z0a.1 h1).1];exact h1,h2.keep (A0d.app none M1 X) (λ_ _=>by simp),h3.keep (A0d.app none M1 X) Q1,h4,by simp;omega,λi hi hne=>?_,h7⟩;rw[Z0n Q0];exact h6 i hi hne
def D1x(l:List A1G)(oo:Nat)(M:Mem)(hM:M[oo]?=some (.cells 44 [.val (.slice none 0 0)]))(hl:l.length<=100)(hn:(l.flatMap A1G.acts).length<=1000):A0c (WC gl) 72 [.list 4 (A2G l) .no,.func (.func 73) [] [.ptr oo 0]] M (λ_ M'=>EvI oo M.length M (l.flatMap A1G.acts) M'):=by
 refine A1c (hQ []) func72 rfl rfl rfl rfl rfl rfl ?_
 have ad:oo<M.length:=(Z0a.1 hM).1
 have h0:EvI oo M.length M [] (M++[.map [] 0]):=by refine⟨.val (.slice none 0 0),[],by rw[Z0n ad];exact hM,A1p.nil,A2Y.new M,by simp[A4Y],Q1,λi hi _=>by rw[Z0n hi],by intro f hf;simp at hf⟩
 simp -dsimp
 refine A0K (hQ []) (λT M1=>∃i:Nat,i<=l.length/\T 1=C3A oo/\T 4=.mapr M.length/\T 10=.list 4 (A2G l) .no/\T 11=I l.length/\T 12=I i/\EvI oo M.length M ((l.take i).flatMap A1G.acts) M1) (λT _=>match T 12 with|.val (.int _ i)=>l.length-i.toNat|_=>0) Q2 ?_ ?_
 .exact⟨0,Q0,by simp[C3A],Q1,Q1,Q1,Q1,by simpa using h0⟩
 rintro T M1 ⟨i,i1,t1,t4,a6,a2,w,hE⟩
 by_cases hi:i<l.length
 case neg=>have y:¬(i:Int)<l.length:=Q0;obtain rfl:i=l.length:=Q0;rw[Z3a]at hE;simp -dsimp[t1,t4,a6,a2,w,y,hE]
 have y:(i:Int)<l.length:=Q0
 have w1:=A1Y (i:=i) Q0
 have aj:(l.take (i+1)).flatMap A1G.acts=(l.take i).flatMap A1G.acts++l[i].acts:=by rw[Z0A,Z0i hi,Z0X,Z1k];simp
 have aq:((l.take i).flatMap A1G.acts).length+l[i].acts.length<=1000:=by
  have h1:l.flatMap A1G.acts=(l.take (i+1)).flatMap A1G.acts++(l.drop (i+1)).flatMap A1G.acts:=by rw[<-Z1k,Z1b]
  rw[h1,aj,Z0k,Z0k]at hn;clear w1;omega
 generalize(l.take i).flatMap A1G.acts=row at*
 simp -dsimp[t1,t4,a6,a2,w,hi,y,A1G.row,A0j,A0k,A0e]
 refine A7f (.exit 2) (λT M1=>T 1=C3A oo/\T 4=.mapr M.length/\T 10=.list 4 (A2G l) .no/\T 11=I l.length/\T 12=I i/\EvI oo M.length M (row++l[i].acts) M1) ?_ ?_
 .refine A0K (hQ []) (λT M1=>∃j:Nat,j<=l[i].acts.length/\T 1=C3A oo/\T 4=.mapr M.length/\T 10=.list 4 (A2G l) .no/\T 11=I l.length/\T 12=I i/\T 17=.list 7 (A5p l[i].acts) .no/\T 18=I l[i].acts.length/\T 19=I j/\EvI oo M.length M (row++l[i].acts.take j) M1) (λT _=>match T 19 with|.val (.int _ j)=>l[i].acts.length-j.toNat|_=>0) Q2 ?_ ?_
  .exact⟨0,Q0,by simp[t1],by simp[t4],by simp[a6],by simp[a2],by simp[w],Q1,Q1,Q1,by simpa using hE.grow _⟩
  rintro T M2 ⟨j,j1,u1,u4,u,t,p,a0,a1,a3,hE⟩;by_cases hj:j<l[i].acts.length;case neg=>have a7:¬(j:Int)<l[i].acts.length:=Q0;obtain rfl:j=l[i].acts.length:=Q0;rw[Z3a]at hE;simp -dsimp[u1,u4,u,t,p,a0,a1,a3,a7,hE]
  have a7:(j:Int)<l[i].acts.length:=Q0;have w2:=A1Y (i:=j) Q0;have a4:l[i].acts.take (j+1)=l[i].acts.take j++[l[i].acts[j]]:=by rw[Z0A,Z0i hj,Z0X]
  obtain⟨a,ha⟩:=ex (l[i].acts[j]);have an:(row++l[i].acts.take j).length<=1000:=by rw[Z0k,Z0s];clear w2 w1;omega
  rw[<-ha]at a4;obtain⟨d,a9⟩:∃r,r=row++l[i].acts.take j:=⟨_,rfl⟩;rw[<-a9]at hE an;have x:=hE.grow [.cells 72 a.row];rw[A0X.row]at x;have ae:row++l[i].acts.take (j+1)=d++[a]:=by rw[a4,a9,Z0F]
  clear hE a4;have m:=C2s M2 (.cells 72 a.row);rw[A0X.row]at m;have ak:M.length<=M2.length:=by obtain⟨v,mm,h1,h2,h3,h4,h5,h6,h7⟩:=x;have:=(Z0a.1 h1).1;have:=h3.lt;simp at*;omega
  obtain⟨b8,s⟩:∃b,b=M2.length:=⟨_,rfl⟩;simp -dsimp[u1,u4,u,t,p,a0,a1,a3,hj,a7,<-ha,A0j,A0k,A0e,A0X.row];rw[<-s]at m ak;rw[<-s];obtain⟨M3,a5⟩:=ex (M2++[.cells 72 [I a.number,S a.title,I a.day,I a.start.k,I a.start.day,S a.start.ev,.list 25 (A1r a.items) .no]]);rw[<-a5]at x m;rw[<-a5];clear a5 s;obtain⟨v,mm,h1,h2,h3,h4,h5,h6,h7⟩:=x;have af:=h3.lt;have ah:M.length≠oo:=Q0;have aa:obj v≠some M.length:=λe=>by
   rcases h2 with⟨rfl,_⟩|⟨f',g,ac,rfl,hm,_⟩
   .simp at e
   .simp at e;subst e;obtain⟨es,c,q1,_⟩:=h3;rw[q1]at hm;simp at hm
  have ap:obj v≠some b8:=λe=>by
   rcases h2 with⟨rfl,_⟩|⟨f',g,ac,rfl,hm,_⟩
   .simp at e
   .simp at e;subst e;rw[m]at hm;simp at hm
  obtain⟨ag,ab⟩:=ex (decide (a.number∈d.map (·.number)));have am:A1S prog 197 M3 (.mapr M.length) (I a.number) false=some (B ag):=by
   rw[A2Y.get (P:=prog) (z:=B false) (B8L 197 4 Q2) h3 a.number Q2 false,h4,ab];by_cases c:a.number∈d.map (·.number)
   .simp only[Z0c c];simp[c]
   .simp only[Z0d c];simp[c]
  have o:=D4U gl a ag oo v (A3D d) M3 h1 h2 (by have:=B2m d;omega);have a8:(if ag=true then A3D d else A3D d++[a])=A3D (d++[a]):=by
   rw[A8m,B3G,ab];by_cases c:a.number∈d.map (·.number)
   .rw[Z0c (by simpa using c),Z0c ((B5C _ _).2 c)]
   .rw[Z0d (by simpa using c),Z0d (λh=>c ((B5C _ _).1 h))]
  rw[a8,A0X.row]at o;simp -dsimp[am,C3A];refine A0v (A0m func73 rfl rfl o) ?_;rintro _ M4 ⟨v',k1,k2,k3,k4⟩;have ao:M4[b8]?=some (.cells 72 [I a.number,S a.title,I a.day,I a.start.k,I a.start.day,S a.start.ev,.list 25 (A1r a.items) .no]):=by rw[k3.2 b8 (Z0a.1 m).1 Q0 ap];exact m
  have al:A2Y I B' M4 M.length mm:=by obtain⟨es,c,q1,q2⟩:=h3;exact⟨es,c,by rw[k3.2 _ af ah aa];exact q1,q2⟩
  obtain⟨M5,p1,p2,p3⟩:=A2Y.put (P:=prog) (B8L 197 4 Q2) al a.number true;have ai:∀f,obj v'=some f->f≠M.length:=λf hf e=>by
   subst e;rcases k4 with e|e
   .exact aa (by rw[<-e];exact hf)
   .have:=e _ hf;omega
  simp -dsimp[u1,u4,u,t,p,a0,a1,a3,A0b ao,p1,w2];refine⟨⟨j+1,by clear w1 w2;omega,rfl,?_⟩,by clear w1 w2;omega⟩;rw[ae];refine⟨v',_,p3.get k1 (by simp;exactλe=>ah e),k2.keep p3 (λf hf e=>ai f hf (by simpa using e.symm)),p2,λn=>?_,?_,λq hq hne=>?_,λf hf=>?_⟩
  .rw[B4E,h4];by_cases c:n=a.number
   .simp[c]
   .simp[c]
  .have:=p3.1;have:=k3.1;clear w1 w2;omega
  .rw[p3.2 q (by have:=k3.1;clear w1 w2;omega) (by simp;omega),k3.2 q (by clear w1 w2;omega) hne (λe=>by have:=h7 _ e;omega)];exact h6 q hq hne
  .rcases k4 with e|e
   .exact h7 f (by rw[<-e];exact hf)
   .have:=e _ hf;clear w1 w2;omega
 .rintro T M2 ⟨u1,u4,u,t,p,hE⟩;simp -dsimp[u1,u4,u,t,p,w,w1];exact⟨⟨i+1,Q3,rfl,by rw[aj];exact hE⟩,Q3⟩
end
end Go.Abs
