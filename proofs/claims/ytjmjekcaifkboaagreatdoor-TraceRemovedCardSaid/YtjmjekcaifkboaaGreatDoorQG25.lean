/- The texts CyE, CyF, CyG, ShE, ShF, EgA, EgB, CyK, CyM, CyN, CvC, CvD, CvF, CvG, CvH, CvI, CvJ, CvK, CvL, CvP, CvM, CvN, CvO, CvQ, CvR, CvV, CvW, CsP, CsQ, CsT, CsU, CsW, CaD, CaG, CaH, CaK, CsA, CbU, EgP, CbT, CsL, CbG0, CbG, CbI, CbK0, CbL, CbM, CeA. -/
import Derived.Test.YtjmjekcaifkboaaGreatDoorQG24
import Derived.Laws.RangeAny
import Derived.Laws.RangeString
import Derived.Test.YtjmjekcaifkboaaGreatDoorQG23
set_option linter.all false
set_option maxRecDepth 100000
namespace Go.Abs
open Go.Proofs TryTypes Tryz
def A3r(p:Int->Bool)(s:ByteArray):Nat->Nat->Int
 |0,_=>-1
 |n+1,i=>if p (A2t s i)then i else A3r p s n (i+1)
def A2o(lo hi:Int)(c:Int):Bool:=decide (c<lo)||decide (c>hi)
def B8W(s:ByteArray)(i:Nat)(h:i<s.size):A2t s i=((s[i]'h).toNat:Int):=by have h':i<s.data.size:=h;simp only[A2t,Z4h,Z1g h',Z1m];rfl
def C7s{lo hi:Int}(a:0<lo)(b:hi<128)(s:ByteArray)(pos:Nat)(hp:pos<s.size):A2o lo hi ((Utf8.decode s pos).1:Int)=A2o lo hi (A2t s pos)/\(A2o lo hi (A2t s pos)=false->(Utf8.decode s pos).2=1):=by
 rw[B8W s pos hp]
 by_cases ha:(s[pos]'hp).toNat<128
 .rw[decode_ascii s pos hp ha];exact⟨rfl,λ_=>rfl⟩
 .have:=decode_high s pos hp Q0;have e1:A2o lo hi ((Utf8.decode s pos).1:Int)=true:=by have:((Utf8.decode s pos).1:Int)>hi:=Q0;simp[A2o,this]
  have e2:A2o lo hi ((s[pos]'hp).toNat:Int)=true:=by have:((s[pos]'hp).toNat:Int)>hi:=Q0;simp[A2o,this]
  rw[e1,e2];exact⟨rfl,λe=>by simp at e⟩
section
variable (gl:Nat->AV) (M:Mem)
def D9N(c:Int):A0c (WC gl) 218 [.val (.int .i32 c)] M (λv M'=>v=B (A2o 48 57 c)/\M'=M):=by
 refine A1f hB func218 rfl rfl rfl rfl rfl rfl ?_;by_cases h1:c<48
 .simp -dsimp -implicitDefEqProofs[A2o,h1]
 .simp -dsimp -implicitDefEqProofs[A2o,h1]
def D9B(c:Int):A0c (WC gl) 139 [.val (.int .i32 c)] M (λv M'=>v=B (A2o 65 90 c)/\M'=M):=by
 refine A1f hB func139 rfl rfl rfl rfl rfl rfl ?_;by_cases h1:c<65
 .simp -dsimp -implicitDefEqProofs[A2o,h1]
 .simp -dsimp -implicitDefEqProofs[A2o,h1]
def C2n(g:FuncId)(lo hi:Int)(f:0<lo)(e:hi<128)(s:ByteArray)(hg:∀M c,A2Z (WC gl) g [.val (.int .i32 c)] M (λv M'=>v=B (A2o lo hi c)/\M'=M)):
 A0c (WC gl) 269 [S s,.func (.func g) [] [],B true] M (λv M'=>v=I (A3r (A2o lo hi) s s.size 0)/\Grow M M'):=by
 refine A1f hB func269 rfl rfl rfl rfl rfl rfl ?_
 simp -dsimp -implicitDefEqProofs[B0c]
 refine A0M hB (λT M1=>∃pos,pos<=s.size/\M1=M++[.siter s pos]/\T 1=.func (.func g) [] []/\T 2=B true/\T 10=.ptr M.length 0/\A3r (A2o lo hi) s s.size 0=A3r (A2o lo hi) s (s.size-pos) pos) (λT M1=>match M1[M.length]? with|some (.siter _ pos)=>s.size-pos|_=>0) Q2 ?_ ?_
 .refine⟨0,?_⟩;simp -dsimp -implicitDefEqProofs
 .rintro T M1 ⟨pos,h1,rfl,h2,h3,h4,h5⟩;by_cases hp:pos<s.size
  ·(have hn:A9b (.ptr M.length 0) (M++[.siter s pos])=some (.tuple [.val (.bool true),.val (goInt pos),.val (.int .i32 (Utf8.decode s pos).1)],M++[.siter s (pos+(Utf8.decode s pos).2)]):=by simp[A9b,hp]);have b:A3r (A2o lo hi) s (s.size-pos) pos=if A2o lo hi (A2t s pos)then(pos:Int)else A3r (A2o lo hi) s (s.size-(pos+1)) (pos+1):=by have:s.size-pos=(s.size-(pos+1))+1:=Q0;rw[this];rfl
   obtain⟨a,d⟩:=C7s f e s pos hp;have i:((Utf8.decode s pos).1:Int)=((Utf8.decode s pos).1:Nat):=rfl;simp -dsimp -implicitDefEqProofs[h2,h3,h4,hn];refine A0s (hg _ _) ?_;rintro r M' ⟨rfl,rfl⟩;cases hb:A2o lo hi ((Utf8.decode s pos).1:Int)
   .rw[a]at hb;have hd:=d hb;simp -dsimp -implicitDefEqProofs[h2,h3,h4,hd];refine⟨⟨pos+1,Q0,rfl,by rw[h5,b,hb];rfl⟩,?_⟩;omega
   .rw[a]at hb;simp -dsimp -implicitDefEqProofs[h2,h3,h4];refine⟨?_,.app _ _ _⟩;rw[h5,b,hb];rfl
  ·(have hn:A9b (.ptr M.length 0) (M++[.siter s pos])=some (.tuple [.val (.bool false)],M++[.siter s pos]):=by simp[A9b,hp]);simp -dsimp -implicitDefEqProofs[h2,h3,h4,hn]
   refine⟨?_,.app _ _ _⟩;rw[h5,show s.size-pos=0 by omega];rfl
def B4y(g:FuncId)(lo hi:Int)(a:0<lo)(b:hi<128)(s:ByteArray)(hg:∀M c,A2Z (WC gl) g [.val (.int .i32 c)] M (λv M'=>v=B (A2o lo hi c)/\M'=M)):
 A0c (WC gl) 217 [S s,.func (.func g) [] []] M (λv M'=>v=I (A3r (A2o lo hi) s s.size 0)/\Grow M M'):=by
 refine A1f hB func217 rfl rfl rfl rfl rfl rfl ?_
 simp -dsimp -implicitDefEqProofs
 refine A0s (A0l func269 rfl rfl (C2n gl M g lo hi a b s hg)) ?_
 rintro r M' ⟨rfl,d⟩
 simp -dsimp -implicitDefEqProofs[d]
def B6I(g:FuncId)(lo hi:Int)(a:0<lo)(b:hi<128)(s:ByteArray)(hg:∀M c,A2Z (WC gl) g [.val (.int .i32 c)] M (λv M'=>v=B (A2o lo hi c)/\M'=M)):
 A0c (WC gl) 140 [S s,.func (.func g) [] []] M (λv M'=>v=B (decide (0<=A3r (A2o lo hi) s s.size 0))/\Grow M M'):=by
 refine A1f hB func140 rfl rfl rfl rfl rfl rfl ?_
 simp -dsimp -implicitDefEqProofs
 refine A0s (A0l func217 rfl rfl (B4y gl M g lo hi a b s hg)) ?_
 rintro r M' ⟨rfl,d⟩
 simp -dsimp -implicitDefEqProofs[d]
def B1p(p:Int->Bool)(s:ByteArray):∀n i,A3r p s n i=-1\/((i:Int)<=A3r p s n i/\A3r p s n i<i+n)
 |0,i=>.inl rfl
 |n+1,i=>by
  simp only[A3r];split
  .right;omega
  .rcases B1p p s n (i+1)with h|h
   .exact .inl h
   .right;push_cast at h;omega
def A3t(s:ByteArray):Nat:=let k:=A3r (A2o 48 57) s s.size 0;if k<0 then s.size else k.toNat
def D1d(s:ByteArray):A0c (WC gl) 138 [S s] M (λv M'=>v=.tuple [S (s.extract 0 (A3t s)),S (s.extract (A3t s) s.size)]/\Grow M M'):=by
 refine A1f hB func138 rfl rfl rfl rfl rfl rfl ?_;simp -dsimp -implicitDefEqProofs;refine A0s (A0l func217 rfl rfl (B4y gl M 218 48 57 ZAR ZAR s λM c=>A0l func218 rfl rfl (D9N gl M c))) ?_;rintro r M' ⟨rfl,a⟩;have hr:=B1p (A2o 48 57) s s.size 0;generalize hk:A3r (A2o 48 57) s s.size 0=k at hr;by_cases h0:k<0
 .have hd:A3t s=s.size:=by simp[A3t,hk,h0]
  simp -dsimp -implicitDefEqProofs[h0,a,hd];rfl
 .have hd:A3t s=k.toNat:=by simp[A3t,hk,h0]
  have h1:0<=k:=Q0;have h2:k<=s.size:=Q0;simp -dsimp -implicitDefEqProofs[h0];refine A0X hB (A0B gl) (λ_=>0) (λ_=>0) (by rfl) Q2 ?_;simp -dsimp -implicitDefEqProofs[a,hd,h1,h2]
def C6x(s:ByteArray):A3t s<=s.size:=by have hr:=B1p (A2o 48 57) s s.size 0;simp only[A3t];split<;>omega
def A8N(p:Int->Bool)(s:ByteArray)(d:Nat):∀n i,d+i+n<=s.size->(A3r p (s.extract d s.size) n i<0<->A3r p s n (d+i)<0)
 |0,i,h=>by simp[A3r]
 |n+1,i,h=>by
  simp only[A3r];rw[B1A Q0 Q0];split
  .constructor<;>intro h<;>omega
  .exact A8N p s d n (i+1) Q0
def A1z(s:ByteArray):Bool:=decide (1<=A3t s)&&decide (A3t s<=4)&&!decide (A2t s 0=48)&&decide (s.size-A3t s<=3)&&decide (A3r (A2o 65 90) s (s.size-A3t s) (A3t s)<0)
def B3M(s:ByteArray):A0c (WC gl) 102 [S s] M (λv M'=>v=B (A1z s)/\Grow M M'):=by
 refine A1f hB func102 rfl rfl rfl rfl rfl rfl ?_;simp -dsimp -implicitDefEqProofs;refine A0s (A0l func138 rfl rfl (D1d gl M s)) ?_;rintro r M' ⟨rfl,b⟩;have l:=C6x s;have a:(s.extract 0 (A3t s)).size=A3t s:=ZAB
 have f:(s.extract (A3t s) s.size).size=s.size-A3t s:=ZBG
 have e:1<=A3t s->A2t (s.extract 0 (A3t s)) 0=A2t s 0:=λh=>by rw[B1A Q0 l]
 generalize hd:A3t s=d at*;by_cases c1:1<=d;case neg=>have:¬(1:Int)<=d:=Q0;simp -dsimp -implicitDefEqProofs[a,this,A1z,hd,c1,b]
 have i1:(1:Int)<=d:=Q0;have e:=e c1;by_cases c2:d<=4;case neg=>have:¬(d:Int)<=4:=Q0;simp -dsimp -implicitDefEqProofs[a,this,A1z,hd,c1,i1,c2,b]
 have i2:(d:Int)<=4:=Q0;have g:0<d:=c1;by_cases c3:A2t s 0=48
 .simp -dsimp -implicitDefEqProofs[a,A1z,hd,c1,i1,c2,i2,c3,e,g,b]
 by_cases c4:s.size-d<=3;case neg=>have:¬((s.size-d:Nat):Int)<=3:=Q0;have k:¬s.size<=3+d:=Q0;simp -dsimp -implicitDefEqProofs[a,f,A1z,hd,c1,i1,c2,i2,c3,e,g,this,c4,k,b]
 have i4:((s.size-d:Nat):Int)<=3:=Q0;simp -dsimp -implicitDefEqProofs[a,f,A1z,hd,c1,i1,c2,i2,c3,e,g,i4,c4,b];refine A0s (A0l func140 rfl rfl (B6I gl M' 139 65 90 ZAR ZAR _ λM c=>A0l func139 rfl rfl (D9B gl M c))) ?_;rintro r M2 ⟨rfl,i⟩;have j:Grow M M2:=A0d.trans b i;have hx:=A8N (A2o 65 90) s d (s.size-d) 0 Q0;rw[f];by_cases c5:0<=A3r (A2o 65 90) (s.extract d s.size) (s.size-d) 0
 .have:¬A3r (A2o 65 90) s (s.size-d) d<0:=λh=>by have:=hx.2 ZAJ;omega
  simp -dsimp -implicitDefEqProofs[c5,A1z,hd,c1,c2,c3,c4,this,j]
 .have:A3r (A2o 65 90) s (s.size-d) d<0:=by have:=hx.1 Q0;simpa using this
  simp -dsimp -implicitDefEqProofs[c5,A1z,hd,c1,c2,c3,c4,this,j]
end
def A0O(p:List A1o):List (List AV):=p.map A1o.row
@[simp] def E0f(p:List A1o):(A0O p).length=p.length:=by simp[A0O]
def C8v{x:Int}:A0A prog 78 [(0,I x)]=some (.agg [I x,S ⟨#[]⟩]):=ZAK
section
variable (gl:Nat->AV) (M:Mem)
end
open Go.Proofs TryTypes
def Grow.refl(M:Mem):Grow M M:=A0d.refl _ _
def Grow.trans{A B C:Mem}(h1:Grow A B)(h2:Grow B C):Grow A C:=A0d.trans h1 h2
@[simp] def E0R{p:List A1o}{i:Nat}(h:i<(A0O p).length):(A0O p)[i]=[I (p[i]'ZAJ).k,S (p[i]'ZAJ).lab]:=by simp[A0O,A1o.row]
section
variable (gl:Nat->AV) (M:Mem)
end
def A1o.good(s:A1o):Prop:=inI s.k/\s.lab.size<=maxLen
structure A1J where
 k:Int
 day:Int
 ev:ByteArray
def A1J.row(s:A1J):List AV:=[I s.k,I s.day,S s.ev]
def A1J.good(s:A1J):Prop:=inI s.k/\inI s.day/\s.ev.size<=maxLen
structure A1W where
 kind:Int
 at_:List A1o
 to:List A1o
 where_:Int
 nth:Int
 unit:A0a
 old:List ByteArray
 new:List ByteArray
 lab:ByteArray
 for_:ByteArray
 start:A1J
 act:Int
 item:Int
 day:Int
 ev:ByteArray
def A9x(l:List A1o):Prop:=l.length<=maxLen/\∀s∈l,s.good
def B4i(l:List ByteArray):Prop:=l.length<=maxLen/\∀s∈l,s.size<=maxLen
def A1W.good(h:A1W):Prop:=inI h.kind/\A9x h.at_/\A9x h.to/\inI h.where_/\inI h.nth/\h.unit.good/\B4i h.old/\B4i h.new/\h.lab.size<=maxLen/\h.for_.size<=maxLen/\h.start.good/\inI h.act/\inI h.item/\inI h.day/\h.ev.size<=maxLen
inductive A0H where
 |mk (h:A1W) (by_:List A0H)
def A0H.h:A0H->A1W|.mk h _=>h
def A0H.by_:A0H->List A0H|.mk _ b=>b
def A1W.row(h:A1W)(by_:AV):List AV:=[I h.kind,.list 2 (A0O h.at_) .no,.list 2 (A0O h.to) .no,I h.where_,I h.nth,I h.unit.id.act,I h.unit.id.item,I h.unit.id.n,I h.unit.kind,S h.unit.label,.list 4 (A0i h.unit.head) .no,.list 4 (A0i h.unit.words) .no,.list 8 (A0t h.unit.kids) .no,.list 1 (A0K h.old) .no,.list 1 (A0K h.new) .no,S h.lab,S h.for_,I h.start.k,I h.start.day,S h.start.ev,I h.act,I h.item,I h.day,S h.ev,by_]
mutual
def A0H.row:A0H->List AV
 |.mk h by_=>h.row (.list 25 (A1w by_) .no)
def A1w:List A0H->List (List AV)
 |[]=>[]
 |x::l=>x.row::A1w l
end
def A7d:∀l:List A0H,A1w l=l.map A0H.row
 |[]=>by simp[A1w]
 |x::l=>by simp[A1w,A7d l]
@[simp] def D8F(l:List A0H):(A1w l).length=l.length:=by simp[A7d]
@[simp] def D9O{p:List A0H}{i:Nat}(h:i<(A1w p).length):(A1w p)[i]=(p[i]'ZAJ).row:=by simp[A7d]
def A0H.row_eq(x:A0H):x.row=x.h.row (.list 25 (A1w x.by_) .no):=by obtain⟨h,b⟩:=x;rw[A0H.row];rfl
@[simp] def A0H.row_len(x:A0H):x.row.length=25:=by rw[A0H.row_eq];rfl
@[simp] def A0H.row_take(x:A0H):List.take 25 x.row=x.row:=Z0e Q1
mutual
def A0H.good:A0H->Prop
 |.mk h by_=>h.good/\by_.length<=maxLen/\B7z by_
def B7z:List A0H->Prop
 |[]=>True
 |x::l=>x.good/\B7z l
end
def B2R:∀{l:List A0H},B7z l<->∀x∈l,x.good
 |[]=>by simp[B7z]
 |x::l=>by simp[B7z,B2R (l:=l)]
def A0H.good_iff(x:A0H):x.good<->x.h.good/\x.by_.length<=maxLen/\∀k∈x.by_,k.good:=by obtain⟨h,b⟩:=x;rw[A0H.good,B2R];rfl
def A0H.by_lt{x k:A0H}(h:k∈x.by_):SizeOf.sizeOf k<SizeOf.sizeOf x:=by obtain⟨a,b⟩:=x;have:=Z4N (show k∈b from h);simp only[A0H.mk.sizeOf_spec];omega
structure A0Y where
 number:Int
 title:ByteArray
 day:Int
 start:A1J
 items:List A0H
def A0Y.row(a:A0Y):List AV:=[I a.number,S a.title,I a.day,I a.start.k,I a.start.day,S a.start.ev,.list 25 (A1w a.items) .no]
def A0Y.good(a:A0Y):Prop:=inI a.number/\a.title.size<=maxLen/\inI a.day/\a.start.good/\a.items.length<=maxLen/\∀x∈a.items,x.good
def A5o(l:List A0Y):List (List AV):=l.map A0Y.row
@[simp] def E0H(l:List A0Y):(A5o l).length=l.length:=by simp[A5o]
@[simp] def E0J{p:List A0Y}{i:Nat}(h:i<(A5o p).length):(A5o p)[i]=(p[i]'ZAJ).row:=by simp[A5o]
structure A1p where
 number:Int
 day:Int
 prior:ByteArray
 acts:List A0Y
def A1p.row(g:A1p):List AV:=[I g.number,I g.day,S g.prior,.list 7 (A5o g.acts) .no]
def A1p.good(g:A1p):Prop:=inI g.number/\inI g.day/\g.prior.size<=maxLen/\g.acts.length<=maxLen/\∀a∈g.acts,a.good
def A2f(l:List A1p):List (List AV):=l.map A1p.row
@[simp] def D9X(l:List A1p):(A2f l).length=l.length:=by simp[A2f]
@[simp] def E0q{p:List A1p}{i:Nat}(h:i<(A2f p).length):(A2f p)[i]=(p[i]'ZAJ).row:=by simp[A2f]
def D2t:Sh:=.parts [A4W,.str]
def C2d:Sh:=.parts [A4W,A4W,.str]
def C7h:Sh:=.slice 2 D2t
def C6k:Sh:=.slice 1 .str
def B1d:Sh:=.parts [A4W,C7h,C7h,A4W,A4W,.ref 0,C6k,C6k,.str,.str,C2d,A4W,A4W,A4W,.str,.slice 25 (.ref 1)]
def D8e:Sh:=.parts [A4W,.str,A4W,C2d,.slice 25 (.ref 1)]
def D8g:Sh:=.parts [A4W,A4W,.str,.slice 7 D8e]
def B7G:Sh:=.slice 4 D8g
section
variable {E:A7C} {n:Nat} {r:List AV}
def D6i(h:A0Z E n D2t r):∃s:A1o,r=s.row/\s.good:=by obtain⟨a,b,rfl,h1,h2⟩:=A1B h;obtain⟨c,d,rfl,h3,h4⟩:=A1B h2;obtain rfl:=B1D h4;obtain⟨k,rfl,hk⟩:=A4z h1;obtain⟨s,rfl,hs⟩:=A7E h3;exact⟨⟨k,s⟩,rfl,hk,hs⟩
def C5e(h:A0Z E n C2d r):∃s:A1J,r=s.row/\s.good:=by obtain⟨a,b,rfl,h1,h2⟩:=A1B h;obtain⟨c,d,rfl,h3,h4⟩:=A1B h2;obtain⟨e,f,rfl,h5,h6⟩:=A1B h4;obtain rfl:=B1D h6;obtain⟨k,rfl,hk⟩:=A4z h1;obtain⟨l,rfl,hl⟩:=A4z h3;obtain⟨s,rfl,hs⟩:=A7E h5;exact⟨⟨k,l,s⟩,rfl,hk,hl,hs⟩
def C8A(h:A0Z E n C7h r):∃p:List A1o,r=[.list 2 (A0O p) .no]/\A9x p:=A6s (λr=>D6i) h
def C8C(h:A0Z E n C6k r):∃p:List ByteArray,r=[.list 1 (A0K p) .no]/\B4i p:=A6s (f:=λs=>[S s]) (λr=>A7E) h
def C9G(h0:E.sh 0=B0D)(h1:E.sh 1=B1d):∀(n:Nat) (r:List AV),A0Z E n (.ref 1) r->∃x:A0H,r=x.row/\x.good
 |0,r,h=>by rw[A0Z]at h;exact h.elim
 |n+1,r,h=>by
  have h:=B3G.1 h;rw[h1]at h;obtain⟨a1,b1,rfl,k1,h⟩:=A1B h;obtain⟨a2,b2,rfl,k2,h⟩:=A1B h;obtain⟨a3,b3,rfl,k3,h⟩:=A1B h;obtain⟨a4,b4,rfl,k4,h⟩:=A1B h;obtain⟨a5,b5,rfl,k5,h⟩:=A1B h;obtain⟨a6,b6,rfl,k6,h⟩:=A1B h;obtain⟨a7,b7,rfl,k7,h⟩:=A1B h;obtain⟨a8,b8,rfl,k8,h⟩:=A1B h;obtain⟨a9,b9,rfl,k9,h⟩:=A1B h;obtain⟨af,ab,rfl,e,h⟩:=A1B h;obtain⟨ai,ah,rfl,j,h⟩:=A1B h;obtain⟨ag,al,rfl,v,h⟩:=A1B h;obtain⟨am,ac,rfl,l,h⟩:=A1B h;obtain⟨ad,aa,rfl,q,h⟩:=A1B h;obtain⟨aj,ak,rfl,c,h⟩:=A1B h;obtain⟨ae,a0,rfl,g,h⟩:=A1B h;obtain rfl:=B1D h;obtain⟨x1,rfl,y1⟩:=A4z k1;obtain⟨x2,rfl,y2⟩:=C8A k2;obtain⟨x3,rfl,y3⟩:=C8A k3;obtain⟨x4,rfl,y4⟩:=A4z k4;obtain⟨x5,rfl,y5⟩:=A4z k5;obtain⟨x6,rfl,y6⟩:=C9r h0 n _ k6;obtain⟨x7,rfl,y7⟩:=C8C k7;obtain⟨x8,rfl,y8⟩:=C8C k8;obtain⟨x9,rfl,y9⟩:=A7E k9;obtain⟨w,rfl,b⟩:=A7E e;obtain⟨o,rfl,m⟩:=C5e j;obtain⟨s,rfl,i⟩:=A4z v;obtain⟨f,rfl,p⟩:=A4z l;obtain⟨z,rfl,t⟩:=A4z q;obtain⟨a,rfl,d⟩:=A7E c;obtain⟨y,rfl,u,k⟩:=A6s (λr=>C9G h0 h1 n r) g;refine⟨.mk ⟨x1,x2,x3,x4,x5,x6,x7,x8,x9,w,o,s,f,z,a⟩ y,?_,?_⟩
  .rw[A0H.row,A7d,A0a.row_eq];rfl
  .rw[A0H.good,B2R];exact⟨⟨y1,y2,y3,y4,y5,y6,y7,y8,y9,b,m,i,p,t,d⟩,u,k⟩
def D8y(h0:E.sh 0=B0D)(h1:E.sh 1=B1d)(h:A0Z E n D8e r):∃a:A0Y,r=a.row/\a.good:=by obtain⟨a1,b1,rfl,k1,h⟩:=A1B h;obtain⟨a2,b2,rfl,k2,h⟩:=A1B h;obtain⟨a3,b3,rfl,k3,h⟩:=A1B h;obtain⟨a4,b4,rfl,k4,h⟩:=A1B h;obtain⟨a5,b5,rfl,k5,h⟩:=A1B h;obtain rfl:=B1D h;obtain⟨x1,rfl,y1⟩:=A4z k1;obtain⟨x2,rfl,y2⟩:=A7E k2;obtain⟨x3,rfl,y3⟩:=A4z k3;obtain⟨x4,rfl,y4⟩:=C5e k4;obtain⟨x5,rfl,y5,z5⟩:=A6s (λr=>C9G h0 h1 n r) k5;exact⟨⟨x1,x2,x3,x4,x5⟩,by rw[A0Y.row,A7d];rfl,y1,y2,y3,y4,y5,z5⟩
def D8w(h0:E.sh 0=B0D)(h1:E.sh 1=B1d)(h:A0Z E n D8g r):∃g:A1p,r=g.row/\g.good:=by obtain⟨a1,b1,rfl,k1,h⟩:=A1B h;obtain⟨a2,b2,rfl,k2,h⟩:=A1B h;obtain⟨a3,b3,rfl,k3,h⟩:=A1B h;obtain⟨a4,b4,rfl,k4,h⟩:=A1B h;obtain rfl:=B1D h;obtain⟨x1,rfl,y1⟩:=A4z k1;obtain⟨x2,rfl,y2⟩:=A4z k2;obtain⟨x3,rfl,y3⟩:=A7E k3;obtain⟨x4,rfl,y4,z4⟩:=A6s (λr=>D8y h0 h1) k4;exact⟨⟨x1,x2,x3,x4⟩,rfl,y1,y2,y3,y4,z4⟩
def C9f(h0:E.sh 0=B0D)(h1:E.sh 1=B1d)(h:A0Z E n B7G r):∃l:List A1p,r=[.list 4 (A2f l) .no]/\l.length<=maxLen/\∀g∈l,g.good:=A6s (λr=>D8w h0 h1) h
end
abbrev A0L:=Int×Int
def A1G(x:A0L):List AV:=[I x.1,I x.2]
def A1R(l:List A0L):List (List AV):=l.map A1G
@[simp] def D8x(l:List A0L):(A1R l).length=l.length:=by simp[A1R]
abbrev A2T:Int:=1048577
def A7e(x:A0L):A0L:=(max x.1 0,min x.2 A2T)
def A7t(l:List A0L):List A0L:=(l.map A7e).filter λx=>decide (x.1<x.2)
def A7G(acc:List A0L)(x:A0L):List A0L:=match acc.getLast? with
 |some y=>if x.1<=y.2 then acc.dropLast++[(y.1,max y.2 x.2)]else acc++[x]
 |none=>[x]
def A3J(l:List A0L):List A0L:=(A7t l).foldl A7G []
def Asc(l:List A0L):Prop:=(A7t l).Pairwise λa b=>a.1<b.1
def A5S(l:List A0L):Prop:=(∀x∈l,0<=x.1/\x.1<x.2/\x.2<=A2T)/\l.Pairwise λa b=>a.2<b.1
def bsD(l:List A0L)(d:Int):Nat->Nat->Nat->Nat
 |0,i,_=>i
 |f+1,i,j=>if i<j then(if(l.getD ((i+j)/2) (0,0)).1<d then bsD l d f ((i+j)/2+1) j else bsD l d f i ((i+j)/2))else i
def A8I(l:List A0L)(d:Int):Bool:=
 let a:=bsD l d l.length 0 l.length
 (decide (a<l.length)&&decide ((l.getD a (0,0)).1=d))||(decide (0<a)&&decide (d<(l.getD (a-1) (0,0)).2))
def C6t(x:Int):List Int->List Int
 |[]=>[x]
 |y::l=>if x<=y then x::y::l else y::C6t x l
def A7A:List Int->List Int
 |[]=>[]
 |x::l=>C6t x (A7A l)
def A2X:List Int->List Int
 |[]=>[]
 |[x]=>[x]
 |x::y::l=>if x=y then A2X (y::l)else x::A2X (y::l)
def C4d(a b:List A0L):List Int:=A2X (A7A ((a++b).flatMap λx=>[x.1,x.2]))
def A3X(c:Bool->Bool->Bool)(a b:List A0L):List Int->List A0L
 |x::y::l=>if c (A8I a x) (A8I b x)=true then(x,y)::A3X c a b (y::l)else A3X c a b (y::l)
 |_=>[]
def C1m(c:Bool->Bool->Bool)(a b:List A0L):List A0L:=A3J (A3X c (A3J a) (A3J b) (C4d (A3J a) (A3J b)))
def C7U:List A0L->List A0L->List A0L:=C1m (·&&·)
def C6i:List A0L->List A0L->List A0L:=C1m (·||·)
def B4P(l:List A0L)(day:Int):List A0L:=C7U l [(0,day)]
def C4v(l:List A0L)(day:Int):List A0L:=C6i (B4P l day) [(day,A2T)]
structure EnD where
 act:Int
 item:Int
 day:Int
 it:A0H
def EnD.row(d:EnD):List AV:=I d.act::I d.item::I d.day::d.it.row
@[simp] def EnD.row_len(d:EnD):d.row.length=28:=by simp[EnD.row]
def A2L(l:List EnD):List (List AV):=l.map EnD.row
@[simp] def E0v(l:List EnD):(A2L l).length=l.length:=by simp[A2L]
abbrev EnD.kind(d:EnD):Int:=d.it.h.kind
def B4c(acc:List A0Y)(a:A0Y):List A0Y:=if a.number∈acc.map (·.number)then acc else acc++[a]
def A3m(l:List A0Y):List A0Y:=l.foldl B4c []
def leA(a b:A0Y):Bool:=decide (a.day<b.day)||(decide (a.day=b.day)&&decide (a.number<=b.number))
def C6N(x:A0Y):List A0Y->List A0Y
 |[]=>[x]
 |y::l=>if leA x y=true then x::y::l else y::C6N x l
def B4e:List A0Y->List A0Y
 |[]=>[]
 |x::l=>C6N x (B4e l)
def A2M(l:List A1p):List A0Y:=B4e (A3m (l.flatMap A1p.acts))
def A1a(k:Int):Bool:=decide (0<=k)&&decide (k<=6)
def B0N(a i:Int)(x:A0H):Option A0H:=if x.h.kind=11/\x.h.act=a/\x.h.item=i then(match x.by_ with|y::_=>if A1a y.h.kind=true then some y else none|[]=>none)else none
def D7G(acts:List A0Y)(a i:Int):Option A0H:=(acts.flatMap A0Y.items).foldl (λr x=>match B0N a i x with|some y=>some y|none=>r) none
def A1I(a:A0Y):List EnD:=a.items.zipIdx.map λx=>⟨a.number,(x.2:Int),a.day,x.1⟩
def A8K(acts:List A0Y)(d:EnD):EnD:=match D7G acts d.act d.item with
 |some x=>if A1a d.kind=true then{d with it:=x}else d
 |none=>d
def A3d(l:List A1p):List EnD:=((A2M l).flatMap A1I).map (A8K (A2M l))
def B1I(a s:A1J):A1J:=if s.k≠0 then s else a
def B2P(nm:ByteArray)(l:List EnD):Option Int:=(l.find? λd=>decide (d.kind=10)&&decide (d.it.h.ev=nm)).map λd=>d.it.h.day
def B0Z(s:A1J)(l:List EnD):List A0L:=
 if s.k=1 then C4v [] s.day
 else if s.k=3 then(match B2P s.ev l with|some d=>C4v [] d|none=>[])
 else[]
def B3B(k:Int):Bool:=decide (k=7)||decide (k=8)||decide (k=9)
def B8Q(k:Int)(l:List A0L)(day:Int):List A0L:=if k=8 then B4P l day else C4v l day
def A7q(x:A0H)(a i:Int):Bool:=decide (x.h.act=a)&&(if x.h.kind=11 then decide (x.h.item=i)else B3B x.h.kind&&(decide (x.h.item=i)||decide (x.h.item=-1)))
def A8G(a i:Int)(days:List A0L)(o:EnD):List A0L:=if(B3B o.kind&&A7q o.it a i)=true then B8Q o.kind days o.it.h.day else days
def B1G(s:A1J)(d:EnD)(l:List EnD):List A0L:=if A1a d.kind=true then l.foldl (A8G d.act d.item) (B0Z (B1I s d.it.h.start) l)else[]
def A6D:A1J:=⟨0,0,⟨#[]⟩⟩
def B0A(acts:List A0Y)(n:Int):A1J:=((acts.find? λa=>decide (a.number=n)).map A0Y.start).getD A6D
def A2n(l:List A1p):List (EnD×List A0L):=((A3d l).filter λd=>A1a d.kind).map λd=>(d,B1G (B0A (A2M l) d.act) d (A3d l))
def C2E(purpose:ByteArray)(d:EnD):Bool:=decide (d.it.h.for_=⟨#[]⟩)||decide (d.it.h.for_=purpose)
def onD(day:Int)(purpose:ByteArray)(l:List A1p):List EnD:=((A2n l).filter λx=>C2E purpose x.1&&A8I (A3J x.2) day).map (·.1)
def A5Q(l:List A0L):List Int:=(A3J l).flatMap λx=>if x.2<A2T then[x.1,x.2]else[x.1]
def A5j(l:List A1p):List Int:=A2X (A7A (0::(A2n l).flatMap λx=>A5Q x.2))
def hR:A2r:=⟨λ_=>true,λ_=>false,λd=>d==6||d==41||d==74||d==82⟩
section
variable (gl:Nat->AV) (M:Mem)
end
section
end
@[simp] def E0E{p:List ByteArray}{i:Nat}(h:i<(A0K p).length):(A0K p)[i]=[S (p[i]'ZAJ)]:=by simp[A0K]
def A3K{g n:Nat}(q:Nat×Nat->Bool):∀{b:List (Nat×Nat)},b.lookup g=some n->(b.filter λx=>x.1==g||q x).lookup g=some n
 |[],h=>by simp at h
 |a::l,h=>by
  by_cases c:a.1=g
  ·(have e:(a.1==g||q a)=true:=by simp[c]);rw[Z2s,Z0c e]
   obtain⟨a1,a2⟩:=a;simp only at c;subst c;simpa[List.lookup]using h
  ·(have hl:l.lookup g=some n:=by obtain⟨a1,a2⟩:=a;(have:(g==a1)=false:=by simpa usingλe=>c e.symm);simpa[List.lookup,this]using h);have ih:=A3K q hl;by_cases e:(a.1==g||q a)=true
   .rw[Z2s,Z0c e];obtain⟨a1,a2⟩:=a;(have:(g==a1)=false:=by simpa usingλe=>c e.symm);simpa[List.lookup,this]using ih
   .rw[Z2s,Z0d e];exact ih
def hX:A2r:=⟨λ_=>true,λ_=>false,λd=>d==81||d==88||d==91||d==135⟩
section
variable (gl:Nat->AV) (M:Mem)
end
def A2J(s:ByteArray):Bool:=decide (1<=s.size)&&decide (s.size<=24)&&decide (A3r (A2o 33 126) s s.size 0<0)
def A3o(ws:List A0z):Bool:=decide (ws.length<=256)&&ws.all λw=>A2J w.text
def B2I(s:ByteArray):List (List AV):=s.data.toList.map λb=>[.val (.int .u8 b.toNat)]
@[simp] def E0u(s:ByteArray):(B2I s).length=s.size:=by simp only[B2I,Z0W,Z0X];rfl
@[simp] def E0y{s:ByteArray}{i:Nat}(h:i<(B2I s).length):(B2I s)[i]=[.val (.int .u8 (A2t s i))]:=by
 have h':i<s.size:=ZAJ
 rw[B8W s i h'];simp only[B2I,Z3M,Array.getElem_toList];rfl
def C6y(p:Int->Bool)(s:ByteArray){i:Nat}(h:i<s.size):A3r p s (s.size-i) i=if p (A2t s i)then(i:Int)else A3r p s (s.size-(i+1)) (i+1):=by have:s.size-i=(s.size-(i+1))+1:=Q0;rw[this];rfl
def A2l{α:Type}(p:α->Bool):List α->Nat->Int
 |[],_=>-1
 |x::l,i=>if p x then(i:Int)else A2l p l (i+1)
def A5J{α:Type}(p:α->Bool):∀(l:List α) (i:Nat),decide (0<=A2l p l i)=l.any p
 |[],i=>by simp[A2l]
 |x::l,i=>by
  rw[A2l,Z2Z];cases h:p x
  .rw[Z0d Q1,Z2G];exact A5J p l (i+1)
  .rw[Z0c rfl,Z4R];exact Z0A (Int.natCast_nonneg i)
abbrev A8m(s:ByteArray):List AV:=[S s]
def A1r.at1{α:Type}{e:Nat}{enc:α->List AV}{M:Mem}{v:AV}{l:List α}{P:Program}{t:TypeId}(h:A1r e 1 enc M v l){f:α->AV}(hf:∀x,enc x=[f x])(ha:A2z P t=some false)(hs:A1n P t=some 1){i:Nat}(hi:i<l.length):∃p,A6j (some (some 1)) v (I i)=some p/\A0E P t M p=some (f l[i]):=by
 have he:∀x,(enc x).length=1:=λx=>by rw[hf];rfl
 rcases h with⟨rfl,rfl⟩|⟨f',g,a,rfl,hm,hl⟩
 .simp at hi
 .refine⟨.vptr f' g (i*1),by simp[hi],?_⟩;simp only[A0E,A2g,hm,hl,Z2g,A0h,ha,hs];rw[Z0e ZBD,A3q he,Z0m hi,Z0y,hf];rfl
section
variable (gl:Nat->AV) (M:Mem)
def D9P(c:Int):A0c (WC gl) 316 [.val (.int .u8 c)] M (λv M'=>v=B (A2o 33 126 c)/\M'=M):=by
 refine A1f hB func316 rfl rfl rfl rfl rfl rfl ?_;by_cases h1:c<33
 .simp -dsimp[A2o,h1]
 .simp -dsimp[A2o,h1]
def D6P(s:ByteArray)(hs:s.size<=maxLen):A0c (WC gl) 326 [.list 1 (B2I s) .no,.func (.func 316) [] []] M (λv M'=>v=I (A3r (A2o 33 126) s s.size 0)/\M'=M):=by
 refine A1f hB func326 rfl rfl rfl rfl rfl rfl ?_;have b:s.size<=9223372036854775807:=hs;simp -dsimp;refine A0M hB (λT M1=>∃i:Nat,i<=s.size/\M1=M/\T 0=.list 1 (B2I s) .no/\T 1=.func (.func 316) [] []/\T 7=I s.size/\T 8=I i/\A3r (A2o 33 126) s s.size 0=A3r (A2o 33 126) s (s.size-i) i) (λT M1=>match T 8 with|.val (.int _ i)=>s.size-i.toNat|_=>0) Q2 ?_ ?_
 .exact⟨0,Q0,rfl,Q1,Q1,Q1,Q1,Q1⟩
 .rintro T M1 ⟨i,i1,rfl,t0,t1,t7,t8,ho⟩;by_cases hi:i<s.size
  .have a:(i:Int)<s.size:=Q0;(have w1:IntKind.i64.wrap ((i:Int)+1)=(i+1:Nat):=by rw[A0R Q0 Q0];omega);rw[C6y _ _ hi]at ho;simp -dsimp[t0,t1,t7,t8,hi,a];refine A0s (A0l func316 rfl rfl (D9P gl _ _)) ?_;rintro _ _ ⟨rfl,rfl⟩;cases hp:A2o 33 126 (A2t s i)
   .rw[hp,Z0d Q1]at ho;simp -dsimp[t0,t1,t7,t8,w1];exact⟨⟨i+1,Q3,rfl,ho⟩,Q3⟩
   .rw[hp,Z0c rfl]at ho;simp -dsimp[t0,t1,t7,t8,ho]
  .have a:¬(i:Int)<s.size:=Q0;rw[show s.size-i=0 by omega]at ho;simp -dsimp[t0,t1,t7,t8,a,ho,A3r]
def D5j(s:ByteArray)(hs:s.size<=maxLen):A0c (WC gl) 317 [.list 1 (B2I s) .no,.func (.func 316) [] []] M (λv M'=>v=B (decide (0<=A3r (A2o 33 126) s s.size 0))/\M'=M):=by refine A1f hB func317 rfl rfl rfl rfl rfl rfl ?_;simp -dsimp;refine A0s (A0l func326 rfl rfl (D6P gl M s hs)) ?_;rintro _ _ ⟨rfl,rfl⟩;simp -dsimp
def D2R{h:A2r}{d:Option Tmp}{x:Operand}{t:TypeId}{p:String}{af:Array Edge}{g:Option (Nat×Bool)}{ρ:Operand->AV}{M:Mem}{s:ByteArray}(hx:ρ x=S s)(hs:s.size<2^62):A0W (WC gl) h ⟨d,.convert 9 216 x,t,p,af,g⟩ ρ M=some (.list 1 (B2I s) .no,M):=by
 have a:s.size<4611686018427387904:=by simpa using hs
 simp[A0W,A0J,A1V,A1X,A1c,A7I,hx,A5X,B6Q,B2I,a]
def D6M(s:ByteArray)(hs:s.size<=maxLen):A0c (WC gl) 292 [S s] M (λv M'=>v=B (A2J s)/\M'=M):=by
 refine A1f hB func292 rfl rfl rfl rfl rfl rfl ?_;by_cases h0:s.size=0
 .have he:s=⟨#[]⟩:=B4t.2 h0;have hw:A2J ⟨#[]⟩=false:=by decide
  simp -dsimp[he,hw]
 .have he:¬s=⟨#[]⟩:=λh=>h0 (B4t.1 h);have h1:decide (1<=s.size)=true:=Z0A Q0;by_cases h2:s.size<=24
  .have b:(s.size:Int)<=24:=Q0;(have hw:A2J s=decide (A3r (A2o 33 126) s s.size 0<0):=by simp[A2J,h1,h2]);simp -dsimp[he,b,hw,A5X];rw[D2R gl (s:=s) (by rfl) Q0];simp -dsimp;refine A0s (A0l func317 rfl rfl (D5j gl M s hs)) ?_;rintro _ _ ⟨rfl,rfl⟩;by_cases h3:0<=A3r (A2o 33 126) s s.size 0
   .have a:¬A3r (A2o 33 126) s s.size 0<0:=Q0;rw[Z0I a]at hw;simp -dsimp[h3,a,hw]
   .have a:A3r (A2o 33 126) s s.size 0<0:=Q0;rw[Z0A a]at hw;simp -dsimp[h3,a,hw]
  .have b:¬(s.size:Int)<=24:=Q0;(have hw:A2J s=false:=by simp[A2J,h2]);simp -dsimp[he,b,hw]
def D2N(s:ByteArray)(hs:s.size<=maxLen):A0c (WC gl) 291 [S s] M (λv M'=>v=B (!A2J s)/\M'=M):=by refine A1f hB func291 rfl rfl rfl rfl rfl rfl ?_;simp -dsimp;refine A0s (A0l func292 rfl rfl (D6M gl M s hs)) ?_;rintro _ _ ⟨rfl,rfl⟩;simp -dsimp
def D7k(l:List ByteArray)(hl:l.length<=3000)(hs:∀s∈l,s.size<=maxLen)(v:AV)(hv:A1r 9 1 A8m M v l):A0c (WC gl) 315 [v,.func (.func 291) [] []] M (λr M'=>r=I (A2l (λs=>!A2J s) l 0)/\M'=M):=by
 refine A1f hB func315 rfl rfl rfl rfl rfl rfl ?_;have b:A3k prog 48 v=some l.length:=hv.len (e':=9) Q1;simp -dsimp[b];refine A0M hB (λT M1=>∃i:Nat,i<=l.length/\M1=M/\T 0=v/\T 1=.func (.func 291) [] []/\T 7=I l.length/\T 8=I i/\A2l (λs=>!A2J s) l 0=A2l (λs=>!A2J s) (l.drop i) i) (λT M1=>match T 8 with|.val (.int _ i)=>l.length-i.toNat|_=>0) Q2 ?_ ?_
 .exact⟨0,Q0,rfl,Q1,Q1,Q1,Q1,Q1⟩
 .rintro T M1 ⟨i,i1,rfl,t0,t1,t7,t8,ho⟩;by_cases hi:i<l.length
  .have a:(i:Int)<l.length:=Q0;have w1:=A1O (i:=i) Q0;obtain⟨p,p1,p2⟩:=hv.at1 (P:=prog) (t:=9) (f:=S) (λ_=>rfl) Q1 Q1 hi;have hd:l.drop i=l[i]::l.drop (i+1):=Z0m hi;rw[hd,A2l]at ho;simp -dsimp[t0,t1,t7,t8,hi,a,p1,p2];refine A0s (A0l func291 rfl rfl (D2N gl _ l[i] (hs _ (Z0s hi)))) ?_;rintro _ _ ⟨rfl,rfl⟩;cases hp:A2J l[i]
   .rw[hp,Z0c (by rfl)]at ho;simp -dsimp[t0,t1,t7,t8,ho]
   .rw[hp,Z0d Q1]at ho;simp -dsimp[t0,t1,t7,t8,w1];exact⟨⟨i+1,Q3,rfl,ho⟩,Q3⟩
  .have a:¬(i:Int)<l.length:=Q0;rw[show l.drop i=[]from Z0v Q0]at ho;simp -dsimp[t0,t1,t7,t8,a,ho,A2l]
def D5e(l:List ByteArray)(hl:l.length<=3000)(hs:∀s∈l,s.size<=maxLen)(v:AV)(hv:A1r 9 1 A8m M v l):A0c (WC gl) 290 [v,.func (.func 291) [] []] M (λr M'=>r=B (l.any λs=>!A2J s)/\M'=M):=by refine A1f hB func290 rfl rfl rfl rfl rfl rfl ?_;simp -dsimp;refine A0s (A0l func315 rfl rfl (D7k gl M l hl hs v hv)) ?_;rintro _ _ ⟨rfl,rfl⟩;rw[<-A5J _ l 0];simp -dsimp
def C0j(l:List ByteArray)(hl:l.length<=3000)(hs:∀s∈l,s.size<=maxLen)(v:AV)(hv:A1r 9 1 A8m M v l):A0c (WC gl) 258 [v] M (λr M'=>r=B (decide (l.length<=256)&&l.all A2J)/\M'=M):=by
 refine A1f hB func258 rfl rfl rfl rfl rfl rfl ?_;have a:A3k prog 48 v=some l.length:=hv.len (e':=9) Q1;by_cases h1:l.length<=256
 .have b:(l.length:Int)<=256:=Q0;simp -dsimp[a,b,h1];refine A0s (A0l func290 rfl rfl (D5e gl M l hl hs v hv)) ?_;rintro _ _ ⟨rfl,rfl⟩;have:(l.any λs=>!A2J s)=!l.all A2J:=by rw[Z3z]
  rw[this];simp -dsimp[h1]
 .have b:¬(l.length:Int)<=256:=Q0;simp -dsimp[a,b,h1]
end
def A1q(l:List A0z):List ByteArray:=l.map A0z.text
def B0I:List (List Int):=[[1,2],[2],[3,4,7],[3,4,7],[5],[6],[],[]]
def A4p(p k:Int):Bool:=decide (0<=p)&&decide (p<8)&&(B0I.getD p.toNat []).contains k
def D0O(l:List A0z):(A1q l).all A2J=l.all λw=>A2J w.text:=by simp[A1q,List.all_map];rfl
def hQ(l:List Nat):A2r:=⟨λ_=>true,λ_=>false,λd=>l.contains d⟩
@[simp] def E6t{l:List Nat}:(hQ l).imm=λ_=>true:=(rfl)
@[simp] def E5k{l:List Nat}:(hQ l).own=λ_=>false:=(rfl)
@[simp] def E5E{l:List Nat}:(hQ l).vec=λd=>l.contains d:=(rfl)
section
variable (gl:Nat->AV) (M:Mem)
def D1H{own vec:Bool}{K:AV->Mem->Prop}{tg:Tag K}{v:AV}{M:Mem}{l:List ByteArray}{s:ByteArray}{o:Own}(hv:A1r 9 1 A8m M v l)(hl:l.length<=1000000000)(a:vec=true) (hk:∀v' M',A1r 9 1 A8m M' v' (l++[s])->A0d (obj v) M M'->(obj v'=obj v\/A1L M.length v')->K v' M'):A3s (WC gl) own vec 48 48 v (.list 1 [[S s]] o) M K tg:=by
 refine A3B (C:=WC gl) (enc:=A8m) (e:=9) (sz:=1) (news:=[s]) B7u C3S D3I (λ_=>rfl) hv ZDC ZAB a ?_
 intro v' M' h1 h2 h3 _
 exact hk v' M' h1 h2 h3
def A3f{M M1 M2:Mem}{v v':AV}{X:List A0m}(h1:Grow M M1)(hl:A1L M.length v)(h2:A0d (obj v) (M1++X) M2)(h3:obj v'=obj v\/A1L (M1++X).length v'):Grow M M2/\A1L M.length v':=by
 refine⟨⟨?_,λi hi _=>?_⟩,λf hf=>?_⟩
 .have:=h1.1;have:=h2.1;simp at this;omega
 .rw[h2.2 i (by have:=h1.1;simp;omega) (λe=>by have:=hl _ e;omega),Z0o (by have:=h1.1;omega)];exact h1.2 i hi Q1
 .rcases h3 with e|e
  .exact hl f (by rw[<-e];exact hf)
  .have:=e f hf;have:=h1.1;simp at*;omega
def D4s(ws:List A0z)(o:Own)(hl:ws.length<=100000000)(hs:∀w∈ws,w.text.size<=maxLen):A0c (WC gl) 325 [.list 4 (A0i ws) o] M (λv M'=>v=B (A3o ws)/\M'=M):=by
 have key:A0c (WC gl) 325 [.list 4 (A0i ws) o] M (λv M'=>(∃x,v=.val x/\x=.bool (A3o ws))/\Grow M M'):=by
  refine A1f (hQ [16]) func325 rfl rfl rfl rfl rfl rfl ?_;simp -dsimp;refine A0M (hQ [16]) (λT M1=>∃i:Nat,i<=ws.length/\T 0=.list 4 (A0i ws) o/\T 6=.list 4 (A0i ws) o/\T 7=I ws.length/\T 8=I i/\A1r 9 1 A8m M1 (T 3) (A1q (ws.take i))/\Grow M M1/\A1L M.length (T 3)) (λT M1=>match T 8 with|.val (.int _ i)=>ws.length-i.toNat|_=>0) Q2 ?_ ?_
  .exact⟨0,Q0,Q1,Q1,Q1,Q1,by simpa[A1q]using A1r.nil,A0d.refl _ _,by simp[A1L]⟩
  .rintro T M1 ⟨i,i1,t0,t6,t7,t8,hv,hg,hL⟩;by_cases hi:i<ws.length
   .have a:(i:Int)<ws.length:=Q0;(have w1:IntKind.i64.wrap ((i:Int)+1)=(i+1:Nat):=by rw[A0R Q0 Q0];omega);generalize d:T 3=ov at*;(have e:(M1++[A0m.cells 259 [S ws[i].text,I ws[i].act,I ws[i].item,I ws[i].at_]])[M1.length]?=some (A0m.cells 259 [S ws[i].text,I ws[i].act,I ws[i].item,I ws[i].at_]):=by simp);have c:A1r 9 1 A8m (M1++[A0m.cells 259 [S ws[i].text,I ws[i].act,I ws[i].item,I ws[i].at_]]) ov (A1q (ws.take i)):=hv.keep (A0d.app none M1 _) Q1;(have ht:A1q (ws.take (i+1))=A1q (ws.take i)++[ws[i].text]:=by rw[A1q,A1q,Z0z,Z0g hi,Z1f];rfl);simp -dsimp[t0,t6,t7,t8,hi,a,d,A0j,A0k,A0e,A0z.row,A0b e,A0x,A1g];refine D1H gl c (by simp[A1q];omega) rfl ?_;intro v' M' h1 h2 h3;obtain⟨k1,k2⟩:=A3f hg hL h2 h3;simp -dsimp[t0,t6,t7,t8,w1];exact⟨⟨i+1,Q3,rfl,by rw[ht];exact h1,k1,k2⟩,Q3⟩
   .have a:¬(i:Int)<ws.length:=Q0;rw[Z0e Q0]at hv;by_cases h3:ws.length<=256
    .have b:(ws.length:Int)<=256:=Q0;simp -dsimp[t0,t6,t7,t8,a,b];refine A0s (A0l func258 rfl rfl (C0j gl M1 (A1q ws) (by simp[A1q];omega) (by simpa[A1q]using hs) (T 3) hv)) ?_;rintro _ _ ⟨rfl,rfl⟩;rw[D0O];simp -dsimp[A3o,A1q,hg]
    .have b:¬(ws.length:Int)<=256:=Q0;simp -dsimp[t0,t6,t7,t8,a,b,A3o,hg,h3]
 have:=B1u (Q:=λx=>x=.bool (A3o ws)) key;exact this.mono ZAT
end
def A9q(l:List Int):List (List AV):=l.map λx=>[I x]
@[simp] def E0M(l:List Int):(A9q l).length=l.length:=by simp[A9q]
@[simp] def E0I{p:List Int}{i:Nat}(h:i<(A9q p).length):(A9q p)[i]=[I (p[i]'ZAJ)]:=by simp[A9q]
def A1t:AV:=.cptr (B0I.map λl=>.list 1 (A9q l) .no)
def A9j:List ByteArray:=[⟨#[98,111,111,107]⟩,⟨#[112,97,114,116]⟩,⟨#[115,101,99,116,105,111,110]⟩,⟨#[112,97,114,97,103,114,97,112,104]⟩,⟨#[116,97,98,108,101]⟩,⟨#[114,111,119]⟩,⟨#[99,101,108,108]⟩,⟨#[110,111,116,101]⟩]
def A1E:AV:=.cptr (A9j.map S)
section
variable (gl:Nat->AV) (M:Mem)
def C9K(l:List Int)(o:Own)(hl:l.length<=3000)(x:Int):A0c (WC gl) 307 [.list 1 (A9q l) o,I x] M (λv M'=>v=I (A2l (λy=>decide (x=y)) l 0)/\M'=M):=by
 refine A1f hB func307 rfl rfl rfl rfl rfl rfl ?_;simp -dsimp;refine A0M hB (λT M1=>∃i:Nat,i<=l.length/\M1=M/\T 0=.list 1 (A9q l) o/\T 1=I x/\T 7=I l.length/\T 8=I i/\A2l (λy=>decide (x=y)) l 0=A2l (λy=>decide (x=y)) (l.drop i) i) (λT M1=>match T 8 with|.val (.int _ i)=>l.length-i.toNat|_=>0) Q2 ?_ ?_
 .exact⟨0,Q0,rfl,Q1,Q1,Q1,Q1,Q1⟩
 .rintro T M1 ⟨i,i1,rfl,t0,t1,t7,t8,ho⟩;by_cases hi:i<l.length
  .have a:(i:Int)<l.length:=Q0;have w1:=A1O (i:=i) Q0;have hd:l.drop i=l[i]::l.drop (i+1):=Z0m hi;rw[hd,A2l]at ho;by_cases hp:x=l[i]
   .rw[Z0A hp,Z0c rfl]at ho;simp -dsimp[t0,t1,t7,t8,hi,a,hp.symm,ho]
   .rw[Z0I hp,Z0d Q1]at ho;simp -dsimp[t0,t1,t7,t8,hi,a,hp,w1];exact⟨⟨i+1,Q3,rfl,ho⟩,Q3⟩
  .have a:¬(i:Int)<l.length:=Q0;rw[show l.drop i=[]from Z0v Q0]at ho;simp -dsimp[t0,t1,t7,t8,a,ho,A2l]
def C2q(l:List Int)(o:Own)(hl:l.length<=3000)(x:Int):A0c (WC gl) 281 [.list 1 (A9q l) o,I x] M (λv M'=>v=B (l.contains x)/\M'=M):=by
 refine A1f hB func281 rfl rfl rfl rfl rfl rfl ?_;simp -dsimp;refine A0s (A0l func307 rfl rfl (C9K gl M l o hl x)) ?_;rintro _ _ ⟨rfl,rfl⟩;have:l.contains x=l.any λy=>decide (x=y):=by rw[List.contains_eq_any_beq];congr 1
 rw[this,<-A5J _ l 0];simp -dsimp
def D8T:C2e prog 325=some (8,100):=Q2
def D8X:C2e prog 214=some (8,9):=Q2
def D1T{h:A2r}{d:Option Tmp}{y:Operand}{t:TypeId}{p:String}{af:Array Edge}{g:Option (Nat×Bool)}{ρ:Operand->AV}{M:Mem}{k:Int}(h0:ρ (.global 2)=A1t)(hy:ρ y=I k)(k0:0<=k)(k8:k<8):A0W (WC gl) h ⟨d,.indexAddr 325 (.global 2) y,t,p,af,g⟩ ρ M=some (.cptr ((B0I.map λl=>AV.list 1 (A9q l) .no).drop k.toNat),M):=by simp[A0W,A0J,A1V,A1X,A1c,h0,hy,A1t,D8T,k0,k8]
def D1R{h:A2r}{d:Option Tmp}{y:Operand}{t:TypeId}{p:String}{af:Array Edge}{g:Option (Nat×Bool)}{ρ:Operand->AV}{M:Mem}{k:Int}(h0:ρ (.global 8)=A1E)(hy:ρ y=I k)(k0:0<=k)(k8:k<8):A0W (WC gl) h ⟨d,.indexAddr 214 (.global 8) y,t,p,af,g⟩ ρ M=some (.cptr ((A9j.map S).drop k.toNat),M):=by simp[A0W,A0J,A1V,A1X,A1c,h0,hy,A1E,D8X,k0,k8]
def C4T{e:Option (Option Nat)}{x i:AV}{cs:List AV}(h:x=.cptr cs):A6j e x i=none:=by subst h;unfold A6j;split<;>simp_all
def B2E(hg:gl 2=A1t)(p k:Int):A0c (WC gl) 236 [I p,I k] M (λv M'=>v=B (A4p p k)/\M'=M):=by
 refine A1f hB func236 rfl rfl rfl rfl rfl rfl ?_;by_cases h0:0<=p;case neg=>
  have b:¬p>=0:=h0;have e:A4p p k=false:=by simp[A4p,h0]
  simp -dsimp[h0,b,e]
 have b:p>=0:=h0;by_cases h1:p<8;case neg=>
  have e:A4p p k=false:=by simp[A4p,h1]
  simp -dsimp[h0,b,h1,e]
 have hn:∀e,A6j e (gl 2) (I p)=none:=λe=>C4T hg;simp -dsimp[h0,b,h1,hn];rw[D1T gl (k:=p) (by exact hg) (by rfl) h0 h1];have hlt:p.toNat<B0I.length:=by show p.toNat<8;omega
 have hd:(B0I.map λl=>AV.list 1 (A9q l) .no).drop p.toNat=.list 1 (A9q B0I[p.toNat]) .no::(B0I.map λl=>AV.list 1 (A9q l) .no).drop (p.toNat+1):=by rw[Z0m (by simpa using hlt),Z3M]
 have a:∀l∈B0I,l.length<=3000:=ZAR
 have e:A4p p k=B0I[p.toNat].contains k:=by simp only[A4p,Z0A h0,Z0A h1,Z0U,Z1l,Z0g hlt,Z1m]
 rw[e];simp -dsimp[hd];refine A0s (A0l func281 rfl rfl (C2q gl M _ .no (a _ (Z0s hlt)) k)) ?_;rintro _ _ ⟨rfl,rfl⟩;simp -dsimp
def A4r(k:Int):ByteArray:=if 0<=k/\k<8 then A9j.getD k.toNat .empty else⟨#[]⟩
def A6r(k:Int):A4r k=⟨#[]⟩<->¬(0<=k/\k<8):=by
 unfold A4r;constructor
 .intro h hk;rw[Z0c hk]at h;have:∀i:Fin 8,A9j.getD i.val .empty≠⟨#[]⟩:=by decide
  exact this ⟨k.toNat,Q0⟩ h
 .intro h;rw[Z0d h]
def B1f(hg:gl 8=A1E)(k:Int):A0c (WC gl) 323 [I k] M (λv M'=>v=S (A4r k)/\M'=M):=by
 refine A1f hB func323 rfl rfl rfl rfl rfl rfl ?_;by_cases h0:k<0
 .have e:A4r k=⟨#[]⟩:=(A6r k).2 Q0;simp -dsimp[h0,e]
 by_cases h1:8<=k
 .have a:k>=8:=h1;have e:A4r k=⟨#[]⟩:=(A6r k).2 Q0;simp -dsimp[h0,h1,a,e]
 have a:¬k>=8:=h1;have hn:∀e,A6j e (gl 8) (I k)=none:=λe=>C4T hg;simp -dsimp[h0,h1,a,hn];rw[D1R gl (k:=k) (by exact hg) (by rfl) Q0 Q0];have hlt:k.toNat<A9j.length:=by show k.toNat<8;omega
 have hd:(A9j.map S).drop k.toNat=S A9j[k.toNat]::(A9j.map S).drop (k.toNat+1):=by rw[Z0m (by simpa using hlt),Z3M]
 have e:A4r k=A9j[k.toNat]:=by rw[A4r,Z0c Q0,Z1l,Z0g hlt];rfl
 rw[e];simp -dsimp[hd]
end
section
mutual
def A3T{A:Type}(p:A0a->Bool)(stp:A->A0a->A):A0a->A->Bool×A
 |.mk id k l h w ks,a=>if p (.mk id k l h w ks)then A4k p stp ks (stp a (.mk id k l h w ks))else(false,stp a (.mk id k l h w ks))
def A4k{A:Type}(p:A0a->Bool)(stp:A->A0a->A):List A0a->A->Bool×A
 |[],a=>(true,a)
 |u::l,a=>if(A3T p stp u a).1 then A4k p stp l (A3T p stp u a).2 else(false,(A3T p stp u a).2)
end
section
variable (gl:Nat->AV)
end
end
abbrev C2Q(x:Int×ByteArray):AV:=.agg [I x.1,S x.2]
abbrev C9b(x:IdD):AV:=.agg x.row
def D4Z:prog.stoodInHeld 353=false:=Q2
def D7g:prog.stoodInHeld 28=false:=Q2
def D7y{a b:ByteArray}:(a.data==b.data)=decide (a=b):=by
 by_cases h:a=b
 .subst h;simp
 .rw[Z0I h];refine Z1R.2 λe=>h ?_;cases a;cases b;simp only at e;rw[e]
def D6q(a:ByteArray):(a==a)=true:=by show(a.data==a.data)=true;simp
def D1W{x y:Int}(h:¬x=y):(x==y)=false:=Z1R.2 h
def C1n:B2z prog 351 353 4 C2Q:=by
 refine⟨Q2,Q2,λk=>?_,λa b=>?_,λa=>⟨.agg #[.int .i64 a.1,.string a.2],by simp[A7Z],?_⟩⟩
 .simp[A4P,A0h,underlying353]
 .obtain⟨x,s⟩:=a;obtain⟨y,t⟩:=b;simp[B0m,A2P,A0h,D4Z];rw[D7y];by_cases h1:x=y
  .subst h1;by_cases h2:s=t
   .subst h2;simp
   .simp[h2]
  .simp[h1,D1W h1]
 .simp[Instr.sameBits,D6q]
def C9h(t e:TypeId)(c:A8r prog t=some (28,e)):B2z prog t 28 e C9b:=by
 refine⟨c,Q2,λk=>?_,λa b=>?_,λa=>⟨.agg #[.int .i64 a.act,.int .i64 a.item,.int .i64 a.n],by simp[A7Z,IdD.row],?_⟩⟩
 .simp[A4P,A0h,IdD.row]
 .obtain⟨x,y,z⟩:=a;obtain⟨x',y',z'⟩:=b;simp[B0m,A2P,A0h,D7g,IdD.row];by_cases h1:x=x'
  .subst h1;by_cases h2:y=y'
   .subst h2;by_cases h3:z=z'
    .subst h3;simp
    .simp[h3,D1W h3]
   .simp[h2,D1W h2]
  .simp[h1,D1W h1]
 .simp[Instr.sameBits]
@[simp] def E2G{a:Int}{b:ByteArray}:A0A prog 353 [(0,I a),(1,S b)]=some (.agg [I a,S b]):=by
 simp[A0A,A1l,putCells,A0e]
@[simp] def A6t:A0A prog 28 []=some (.agg [I 0,I 0,I 0]):=by
 simp[A0A,A1l]
def B5g{K:Type}[DecidableEq K](c:K):∀A2B:List K,A5i (A2B.map λx=>(x,true)) c=if(A2B.any λy=>decide (y=c))then some true else none
 |[]=>rfl
 |x::l=>by
  rw[Z0x,A5i,Z2Z];by_cases h:c=x
  .subst h;simp
  .rw[Z0d h,Z0I (λe=>h e.symm),Z2G];exact B5g c l
def B4S{K:Type}[DecidableEq K](c:K):∀A2B:List K,(A2B.any λy=>decide (y=c))=false->B2q (A2B.map λx=>(x,true)) c true=(A2B++[c]).map λx=>(x,true)
 |[],_=>rfl
 |x::l,h=>by
  rw[Z2Z,Z3V]at h;have h1:¬c=x:=λe=>by subst e;simp at h
  rw[Z0x,B2q,Z0d h1,B4S c l h.2];rfl
def B9T(u:A0a):Bool:=if u.kind=0 then decide (u.label.size=0)&&decide (u.head.length+u.words.length=0)else decide (0<=u.kind/\u.kind<8)&&A1z u.label&&A3o u.head&&A3o u.words
def A8D(kind:Int):List A0a->List (Int×ByteArray)->Bool
 |[],_=>true
 |k::ks,A2B=>A4p kind k.kind&&!(A2B.any λy=>decide (y=(k.kind,k.label)))&&A8D kind ks (A2B++[(k.kind,k.label)])
def A9c(u:A0a):Bool:=B9T u&&A8D u.kind u.kids []&&decide (u.kids.length<=64)
def A0a.lim(u:A0a):Prop:=u.head.length<=100000000/\u.words.length<=100000000/\u.kids.length<=3000/\u.label.size<=1000
section
variable (gl:Nat->AV) (M:Mem)
set_option maxHeartbeats 1000000 in
def D4J(am:gl 2=A1t)(ae:gl 8=A1E)(u:A0a)(hg:u.good)(hl:u.lim):A0c (WC gl) 312 [.agg u.row] M (λv M'=>v=B (A9c u)/\Grow M M'):=by
 obtain⟨id,kind,lab,hd,ws,ks⟩:=u;obtain⟨_,_,_,_,ak,_,an,_,ap⟩:=(A0a.good_iff _).1 hg;obtain⟨a4,a3,af,ab⟩:=hl;have a4:hd.length<=100000000:=a4;have a3:ws.length<=100000000:=a3;have af:ks.length<=3000:=af;have ab:lab.size<=1000:=ab;have ac:(A0a.mk id kind lab hd ws ks).row=[I id.act,I id.item,I id.n,I kind,S lab,.list 4 (A0i hd) .no,.list 4 (A0i ws) .no,.list 8 (A0t ks) .no]:=ZDD
 have a5:A9c (.mk id kind lab hd ws ks)=(B9T (.mk id kind lab hd ws ks)&&A8D kind ks []&&decide (ks.length<=64)):=rfl;have b:B9T (.mk id kind lab hd ws ks)=if kind=0 then decide (lab.size=0)&&decide (hd.length+ws.length=0)else decide (0<=kind/\kind<8)&&A1z lab&&A3o hd&&A3o ws:=rfl;rw[ac];obtain⟨R,hR⟩:=ex (A9c (.mk id kind lab hd ws ks));rw[<-hR];have a:B9T (.mk id kind lab hd ws ks)=false->R=false:=λh=>by rw[hR,a5,h];rfl
 refine A1f hW func312 rfl rfl rfl rfl rfl rfl ?_;by_cases k0:kind=0;case' pos=>
  rw[Z0c k0]at b;by_cases h1:lab=⟨#[]⟩;case neg=>have a8:¬lab.size=0:=λe=>h1 (B4t.2 e);have:=a (by rw[b,Z0I a8,Z0K]);simp -dsimp -implicitDefEqProofs[Z2u k0,h1,this,A0d.refl]
  have a8:lab.size=0:=B4t.1 h1;have wz:IntKind.i64.wrap ((hd.length:Int)+(ws.length:Int))=(hd.length:Int)+(ws.length:Int):=A0R Q0 Q0;by_cases h2:hd.length+ws.length=0;case neg=>have l:(0:Int)<(hd.length:Int)+(ws.length:Int):=Q0;have a6:(hd.length:Int)+(ws.length:Int)>0:=l;have:=a (by rw[b,Z0I h2,Z2V]);simp -dsimp -implicitDefEqProofs[Z2u k0,Z2u h1,wz,l,a6,this,A0d.refl]
  have l:¬(0:Int)<(hd.length:Int)+(ws.length:Int):=Q0;have a6:¬(hd.length:Int)+(ws.length:Int)>0:=l;have p:B9T (.mk id kind lab hd ws ks)=true:=by rw[b,Z0A a8,Z0A h2];rfl
  have g:Grow M M:=A0d.refl _ _;simp -dsimp -implicitDefEqProofs[Z2u k0,Z2u h1,wz,l,a6]
 case' neg=>
  rw[Z0d k0]at b;by_cases h1:0<=kind/\kind<8;case neg=>have e:A4r kind=⟨#[]⟩:=(A6r kind).2 h1;have:=a (by rw[b,Z0I h1];rfl);simp -dsimp -implicitDefEqProofs[k0];refine A0s (A0l func323 rfl rfl (B1f gl M ae kind)) ?_;rintro _ _ ⟨rfl,rfl⟩;simp -dsimp -implicitDefEqProofs[e,this,A0d.refl]
  have e:¬A4r kind=⟨#[]⟩:=λq=>(A6r kind).1 q h1;rw[Z0A h1,Z0U]at b;simp -dsimp -implicitDefEqProofs[k0];refine A0s (A0l func323 rfl rfl (B1f gl M ae kind)) ?_;rintro _ M0 ⟨rfl,rfl⟩;simp -dsimp -implicitDefEqProofs[e];refine A0s (A0l func102 rfl rfl (B3M gl M0 lab)) ?_;rintro _ M ⟨rfl,g⟩;cases h2:A1z lab;case false=>have:=a (by rw[b,h2];rfl);simp -dsimp -implicitDefEqProofs[this,g]
  rw[h2,Z0U]at b;simp -dsimp -implicitDefEqProofs;refine A0s (A0l func325 rfl rfl (D4s gl M hd .no a4 (λw hw=>(ak w hw).1))) ?_;rintro _ M ⟨rfl,rfl⟩;cases h3:A3o hd;case false=>have:=a (by rw[b,h3];rfl);simp -dsimp -implicitDefEqProofs[this,g]
  rw[h3,Z0U]at b;simp -dsimp -implicitDefEqProofs;refine A0s (A0l func325 rfl rfl (D4s gl M ws .no a3 (λw hw=>(an w hw).1))) ?_;rintro _ M ⟨rfl,rfl⟩;cases h4:A3o ws;case false=>have:=a (by rw[b,h4]);simp -dsimp -implicitDefEqProofs[this,g]
  have p:B9T (.mk id kind lab hd ws ks)=true:=by rw[b,h4]
  simp -dsimp -implicitDefEqProofs
 all_goals
  have d:R=(A8D kind ks []&&decide (ks.length<=64)):=by rw[hR,a5,p,Z0U]
  have a2:=λ{X:Mem} (h:Grow M X)=>g.trans h
  clear a a5 b hR p
  refine A0M hW (λT M1=>∃i:Nat,i<=ks.length/\T 1=.cptr [I id.act,I id.item,I id.n,I kind,S lab,.list 4 (A0i hd) .no,.list 4 (A0i ws) .no,.list 8 (A0t ks) .no]/\T 3=.mapr M.length/\T 47=.list 8 (A0t ks) .no/\T 48=I ks.length/\T 49=I i/\Grow M M1/\
   ∃A2B,A3n C2Q B M1 M.length (A2B.map λx=>(x,true))/\A8D kind ks []=A8D kind (ks.drop i) A2B)
   (λT M1=>match T 49 with|.val (.int _ i)=>ks.length-i.toNat|_=>0) Q2 ?_ ?_
  .exact⟨0,Q0,Q1,Q1,Q1,Q1,Q1,A0d.app none M _,[],A3n.new M,Q1⟩
  .rintro T M2 ⟨i,i1,t1,t3,a1,a0,s,a7,A2B,ah,ho⟩;by_cases hi:i<ks.length
   .have r:(i:Int)<ks.length:=Q0;have w1:=A1O (i:=i) Q0;have aj:ks.drop i=ks[i]::ks.drop (i+1):=Z0m hi;rw[aj,A8D]at ho;obtain⟨X,hX⟩:=ex (ks[i]);(have al:ks[i].row=[I X.id.act,I X.id.item,I X.id.n,I X.kind,S X.label,.list 4 (A0i X.head) .no,.list 4 (A0i X.words) .no,.list 8 (A0t X.kids) .no]:=by rw[<-hX];exact X.row_eq);rw[<-hX]at ho;(have ag:(M2++[A0m.cells 31 [I X.id.act,I X.id.item,I X.id.n,I X.kind,S X.label,.list 4 (A0i X.head) .no,.list 4 (A0i X.words) .no,.list 8 (A0t X.kids) .no]])[M2.length]?=some (A0m.cells 31 [I X.id.act,I X.id.item,I X.id.n,I X.kind,S X.label,.list 4 (A0i X.head) .no,.list 4 (A0i X.words) .no,.list 8 (A0t X.kids) .no]):=by simp);simp -dsimp -implicitDefEqProofs[t1,t3,a1,a0,s,hi,r,A0j,A0k,A0e,AV.storable,AV.cells,al,A0b ag];obtain⟨c,hc⟩:=ex ((X.kind,X.label):Int×ByteArray);(have ai:AV.agg [I X.kind,S X.label]=C2Q c:=by rw[hc]);generalize t:M2++[A0m.cells 31 [I X.id.act,I X.id.item,I X.id.n,I X.kind,S X.label,.list 4 (A0i X.head) .no,.list 4 (A0i X.words) .no,.list 8 (A0t X.kids) .no],A0m.cells 353 [I X.kind,S X.label]]=M3;(have a9:M3[M2.length+1]?=some (A0m.cells 353 [I X.kind,S X.label]):=by rw[<-t];simp);(have aa:M3[M2.length]?=some (A0m.cells 31 [I X.id.act,I X.id.item,I X.id.n,I X.kind,S X.label,.list 4 (A0i X.head) .no,.list 4 (A0i X.words) .no,.list 8 (A0t X.kids) .no]):=by rw[<-t];simp);(have ad:Grow M2 M3:=by rw[<-t];exact A0d.app none _ _);have m:=ah.keep ad Q1;have f:=a7.trans ad;clear t ag;simp -dsimp -implicitDefEqProofs[t1,A0b aa];refine A0s (A0l func236 rfl rfl (B2E gl M3 am kind X.kind)) ?_;rintro _ _ ⟨rfl,rfl⟩;cases hn:A4p kind X.kind;(case false=>rw[hn,Z0K,Z0K]at ho;rw[ho,Z0K]at d;simp -dsimp -implicitDefEqProofs[t1,d,a2 f]);rw[hn,Z0U]at ho;have o:=m.get C1n c (z:=B false) Q2 false;rw[<-ai]at o;rw[B5g]at o;rw[<-hc]at ho;simp -dsimp -implicitDefEqProofs[t3,A0b a9,o];cases hs:A2B.any λy=>decide (y=c);(case true=>rw[hs,Z3j,Z0K]at ho;rw[ho,Z0K]at d;simp -dsimp -implicitDefEqProofs[t1,d,a2 f]);rw[hs,Z3v,Z0U]at ho;obtain⟨M4,p1,p2,p3⟩:=m.put C1n c true;rw[B4S c A2B hs]at p2;rw[<-ai]at p1;(have ao:Grow M M4:=by refine⟨Z0J f.1 p3.1,λj hj _=>?_⟩;rw[p3.2 j (by have:=f.1;omega) ZAB];exact f.2 j hj Q1);simp -dsimp -implicitDefEqProofs[t3,A0b a9,p1,t1,a1,a0,s,w1];exact⟨⟨i+1,Q3,rfl,ao,A2B++[c],p2,ho⟩,Q3⟩
   .have r:¬(i:Int)<ks.length:=Q0;rw[show ks.drop i=[]from Z0v Q0,A8D]at ho;rw[ho,Z0U]at d;by_cases h64:ks.length<=64
    .have k:(ks.length:Int)<=64:=Q0;rw[Z0A h64]at d;simp -dsimp -implicitDefEqProofs[t1,a1,a0,s,r,k,d,a2 a7]
    .have k:¬(ks.length:Int)<=64:=Q0;rw[Z0I h64]at d;simp -dsimp -implicitDefEqProofs[t1,a1,a0,s,r,k,d,a2 a7]
end
def A2R(u:A0a):Bool:=decide (0<=u.kind/\u.kind<=7)&&decide (u.kids.length<=64)&&A3o u.head&&A3o u.words&&(if u.kind=0 then decide (u.label.size=0)&&decide (u.head.length=0)&&decide (u.words.length=0)else A1z u.label)
def A9f(a b:A0a):Bool:=decide (a.kind=b.kind)&&decide (a.label=b.label)
mutual
def A1u:A0a->Bool
 |.mk id k l h w ks=>A2R (.mk id k l h w ks)&&A4o k ks []
def A4o(kind:Int):List A0a->List A0a->Bool
 |[],_=>true
 |k::ks,before=>A4p kind k.kind&&A1u k&&!(before.any λa=>A9f a k)&&A4o kind ks (before++[k])
end
mutual
def A0a.lims:A0a->Prop
 |.mk id k l h w ks=>(A0a.mk id k l h w ks).lim/\A5e ks
def A5e:List A0a->Prop
 |[]=>True
 |k::ks=>k.lims/\A5e ks
end
def A4l:∀{l:List A0a},A5e l<->∀u∈l,u.lims
 |[]=>by simp[A5e]
 |u::l=>by simp[A5e,A4l (l:=l)]
section
variable (gl:Nat->AV)
end
mutual
def A0y:A0a->Nat
 |.mk _ _ _ _ _ ks=>1+A0I ks
def A0I:List A0a->Nat
 |[]=>0
 |k::ks=>A0y k+A0I ks
end
mutual
def A1m:A0a->Nat
 |.mk _ _ _ _ _ ks=>A1P ks
def A1P:List A0a->Nat
 |[]=>0
 |k::ks=>max (1+A1m k) (A1P ks)
end
mutual
def A0V:A0a->List IdD
 |.mk id _ _ _ _ ks=>id::A2Y ks
def A2Y:List A0a->List IdD
 |[]=>[]
 |k::ks=>A0V k++A2Y ks
end
mutual
def B9B:∀u:A0a,A1m u<A0y u
 |.mk _ _ _ _ _ ks=>by rw[A1m,A0y];have:=C1c ks;omega
def C1c:∀ks:List A0a,A1P ks<=A0I ks
 |[]=>by rw[A1P,A0I];exact Z0j _
 |k::ks=>by rw[A1P,A0I];have:=B9B k;have:=C1c ks;omega
end
mutual
def A3P:∀u:A0a,(A0V u).length=A0y u
 |.mk _ _ _ _ _ ks=>by rw[A0V,A0y,Z0r,B8m ks];omega
def B8m:∀ks:List A0a,(A2Y ks).length=A0I ks
 |[]=>by rw[A2Y,A0I];rfl
 |k::ks=>by rw[A2Y,A0I,Z0k,A3P k,B8m ks]
end
def A8q(u:A0a):0<A0y u:=by obtain⟨a,b,c,d,e,f⟩:=u;rw[A0y];omega
def A3O:∀{ks:List A0a} {k:A0a},k∈ks->A0y k<=A0I ks
 |[],_,h=>by simp at h
 |x::ks,k,h=>by
  rw[A0I];rcases Z0p.1 h with rfl|h
  .omega
  .have:=A3O h;omega
def A2D:∀ks:List A0a,ks.length<=A0I ks
 |[]=>by simp[A0I]
 |k::ks=>by rw[A0I,Z0r];have:=A8q k;have:=A2D ks;omega
def C4c{ks:List A0a}{i:Nat}(h:i<ks.length):A1P (ks.drop i)=max (1+A1m ks[i]) (A1P (ks.drop (i+1))):=by rw[Z0m h,A1P]
section
variable (gl:Nat->AV)
def B8f:∀(u:A0a) (M:Mem),u.good->A0y u<=3000->A0c (WC gl) 240 [.agg u.row] M (λv M'=>(∃x,v=.val x/\x=.int .i64 (A1m u))/\M'=M)
 |.mk id kind lab hd ws ks,M,hg,hc=>by
  refine B1u ?_;obtain⟨_,_,t,_,r,_,w,_,c⟩:=(A0a.good_iff _).1 hg;have c:∀k∈ks,k.good:=c;have s:1+A0I ks<=3000:=ZDP
  have q:=A2D ks;have m:(A0a.mk id kind lab hd ws ks).row=[I id.act,I id.item,I id.n,I kind,S lab,.list 4 (A0i hd) .no,.list 4 (A0i ws) .no,.list 8 (A0t ks) .no]:=ZDD
  have o:A1m (.mk id kind lab hd ws ks)=A1P ks:=by rw[A1m]
  rw[m,o];refine A1f hW func240 rfl rfl rfl rfl rfl rfl ?_;simp -dsimp;refine A0M hW (λT M1=>∃i:Nat,i<=ks.length/\T 7=.list 8 (A0t ks) .no/\T 8=I ks.length/\T 9=I i/\Grow M M1/\∃d:Nat,T 3=I d/\d<=3000/\A1P ks=max d (A1P (ks.drop i))) (λT M1=>match T 9 with|.val (.int _ i)=>ks.length-i.toNat|_=>0) Q2 ?_ ?_
  .exact⟨0,Q0,Q1,Q1,Q1,A0d.refl _ _,0,Q1,Q0,Q1⟩
  .rintro T M1 ⟨i,i1,t7,t8,t9,l,d,t3,d1,ho⟩;by_cases hi:i<ks.length
   .have f:(i:Int)<ks.length:=Q0;have w1:=A1O (i:=i) Q0;have b:ks[i]∈ks:=Z0s hi;rw[C4c hi]at ho;have z:=A3O b;have y:=B9B ks[i];(have p:(M1++[A0m.cells 31 ks[i].row])[M1.length]?=some (A0m.cells 31 ks[i].row):=by simp);have j:Grow M (M1++[A0m.cells 31 ks[i].row]):=l.trans (A0d.app none _ _);simp -dsimp[t3,t7,t8,t9,hi,f,A0j,A0k,A0e,AV.storable,AV.cells,A0b p];have:=A0a.kid_lt (u:=.mk id kind lab hd ws ks) b;refine A0s (A0l func240 rfl rfl (B8f ks[i] _ (c _ b) Q0)) ?_;rintro _ _ ⟨⟨_,rfl,rfl⟩,rfl⟩;generalize A1m ks[i]=dk at*;(have w2:IntKind.i64.wrap (1+(dk:Int))=((1+dk:Nat):Int):=by rw[A0R Q0 Q0];omega);obtain⟨e,he⟩:=ex (1+dk);rw[<-he]at w2 ho;by_cases hm:d<e
    .have a:(d:Int)<e:=Q0;have g:(e:Int)>d:=a;simp -dsimp[t3,t7,t8,t9,w1,w2,A7J,a,g];exact⟨⟨i+1,Q3,rfl,j,e,rfl,Q0,Q0⟩,Q3⟩
    .have a:¬(d:Int)<e:=Q0;have g:¬(e:Int)>d:=a;simp -dsimp[t3,t7,t8,t9,w1,w2,A7J,a,g];exact⟨⟨i+1,Q3,rfl,j,d,rfl,Q0,Q0⟩,Q3⟩
   .have f:¬(i:Int)<ks.length:=Q0;rw[show ks.drop i=[]from Z0v Q0,A1P,Nat.max_zero]at ho;simp -dsimp[t3,t7,t8,t9,f,ho,l]
termination_by u=>SizeOf.sizeOf u
end
section
variable (gl:Nat->AV)
def A9E{A:Type}(fid:FuncId)(first cap:List AV)(p:A0a->Bool)(b:A->A0a->A)(J:Mem->A->Prop)(K:A->A0a->Prop)(KL:A->List A0a->Prop)(t:∀a u,K a u->KL (b a u) u.kids)(y:∀a k ks,KL a (k::ks)->K a k)(r:∀a k ks,KL a (k::ks)->(A3T p b k a).1=true->KL (A3T p b k a).2 ks)(hJ:∀M a X,J M a->J (M++[.cells 31 X]) a)
 (hv:∀u a M,u.good->K a u->J M a->A2Z (WC gl) fid (first++.agg u.row::cap) M (λv M'=>v=B (p u)/\J M' (b a u))):
 ∀(u:A0a) (a:A) (M:Mem),u.good->K a u->J M a->A0c (WC gl) 241 [.agg u.row,.func (.func fid) first cap] M (λv M'=>v=B (A3T p b u a).1/\J M' (A3T p b u a).2)
 |.mk id kind lab hd ws ks,a,M,hg,hka,hj=>by
  obtain⟨_,_,_,_,_,_,_,hk,l⟩:=(A0a.good_iff _).1 hg;have l:∀k∈ks,k.good:=l;have a3:KL (b a (.mk id kind lab hd ws ks)) ks:=t _ _ hka;have a5:ks.length<=9223372036854775807:=hk;have w:(A0a.mk id kind lab hd ws ks).row=[I id.act,I id.item,I id.n,I kind,S lab,.list 4 (A0i hd) .no,.list 4 (A0i ws) .no,.list 8 (A0t ks) .no]:=ZDD
  have d:A3T p b (.mk id kind lab hd ws ks) a=if p (.mk id kind lab hd ws ks)then A4k p b ks (b a (.mk id kind lab hd ws ks))else(false,b a (.mk id kind lab hd ws ks)):=by rw[A3T]
  have s:=hv _ a M hg hka hj;rw[w]at s|-;refine A1f hW func241 rfl rfl rfl rfl rfl rfl ?_;simp -dsimp;refine A0s s ?_;rintro _ M1 ⟨rfl,q⟩;cases hp:p (.mk id kind lab hd ws ks);case false=>rw[hp,Z0d Q1]at d;rw[d];simp -dsimp[q]
  rw[hp,Z0c rfl]at d;rw[d];generalize b a (.mk id kind lab hd ws ks)=a1 at*;simp -dsimp;refine A0M hW (λT M1=>∃i:Nat,i<=ks.length/\T 1=.func (.func fid) first cap/\T 12=.list 8 (A0t ks) .no/\T 13=I ks.length/\T 14=I i/\∃a2,J M1 a2/\KL a2 (ks.drop i)/\A4k p b ks a1=A4k p b (ks.drop i) a2) (λT M1=>match T 14 with|.val (.int _ i)=>ks.length-i.toNat|_=>0) Q2 ?_ ?_
  .exact⟨0,Q0,Q1,Q1,Q1,Q1,a1,q,by simpa using a3,Q1⟩
  .rintro T M2 ⟨i,i1,t1,g,e,f,a2,z,c,ho⟩;by_cases hi:i<ks.length
   .have m:(i:Int)<ks.length:=Q0;(have w1:IntKind.i64.wrap ((i:Int)+1)=(i+1:Nat):=by rw[A0R Q0 Q0];omega);have j:ks[i]∈ks:=Z0s hi;have o:ks.drop i=ks[i]::ks.drop (i+1):=Z0m hi;rw[o]at c;rw[o,A4k]at ho;(have a4:(M2++[A0m.cells 31 ks[i].row])[M2.length]?=some (A0m.cells 31 ks[i].row):=by simp);simp -dsimp[t1,g,e,f,hi,m,A0j,A0k,A0e,AV.storable,AV.cells,A0b a4];have:=A0a.kid_lt (u:=.mk id kind lab hd ws ks) j;refine A0s (A0l func241 rfl rfl (A9E fid first cap p b J K KL t y r hJ hv ks[i] a2 _ (l _ j) (y _ _ _ c) (hJ _ _ _ z))) ?_;rintro _ M3 ⟨rfl,x⟩;have a0:=r _ _ _ c;cases hp:(A3T p b ks[i] a2).1
    .rw[hp,Z0d Q1]at ho;rw[ho];simp -dsimp[t1,g,e,f,x]
    .rw[hp,Z0c rfl]at ho;simp -dsimp[t1,g,e,f,w1];exact⟨⟨i+1,Q3,rfl,_,x,a0 hp,ho⟩,Q3⟩
   .have m:¬(i:Int)<ks.length:=Q0;rw[show ks.drop i=[]from Z0v Q0,A4k]at ho;rw[ho];simp -dsimp[t1,g,e,f,m,z]
termination_by u=>SizeOf.sizeOf u
end
mutual
def B0B:∀(u:A0a) (a:Nat),A3T (λ_=>true) (λ(a:Nat) _=>a+1) u a=(true,a+A0y u)
 |.mk _ _ _ _ _ ks,a=>by rw[A3T,Z0c rfl,B2K ks,A0y];congr 1;omega
def B2K:∀(ks:List A0a) (a:Nat),A4k (λ_=>true) (λ(a:Nat) _=>a+1) ks a=(true,a+A0I ks)
 |[],a=>by rw[A4k,A0I];rfl
 |k::ks,a=>by rw[A4k,B0B k a,Z0c rfl,B2K ks,A0I];congr 1;omega
end
mutual
def B2W:∀(u:A0a) (a:List IdD),A3T (λ_=>true) (λ(a:List IdD) u=>a++[u.id]) u a=(true,a++A0V u)
 |.mk id _ _ _ _ ks,a=>by rw[A3T,Z0c rfl,B5I ks,A0V];show(true,a++[id]++A2Y ks)=_;rw[Z0F];rfl
def B5I:∀(ks:List A0a) (a:List IdD),A4k (λ_=>true) (λ(a:List IdD) u=>a++[u.id]) ks a=(true,a++A2Y ks)
 |[],a=>by rw[A4k,A2Y,Z1b]
 |k::ks,a=>by rw[A4k,B2W k a,Z0c rfl,B5I ks,A2Y,Z0F]
end
def A6h(u:A0a):A0y u=1+A0I u.kids:=by obtain⟨a,b,c,d,e,f⟩:=u;rw[A0y];rfl
section
variable (gl:Nat->AV)
def D1h(u:A0a)(o:Nat)(n:Nat)(hn:n<=3000)(M:Mem)(hM:M[o]?=some (.cells 3 [I n])):A0c (WC gl) 242 [.agg u.row,.ptr o 0] M (λv M'=>v=B true/\M'=M.set o (.cells 3 [I (n+1:Nat)])):=by refine A1f hB func242 rfl rfl rfl rfl rfl rfl ?_;have w1:=A1O (i:=n) Q0;have hlt:o<M.length:=(Z0a.1 hM).1;obtain⟨e,he⟩:=ex (n+1);rw[<-he]at w1;rw[<-he];simp -dsimp[A0b hM,A0f hM,w1,A0e]
def B9G(u:A0a)(M:Mem)(hg:u.good)(hc:A0y u<=3000):A0c (WC gl) 164 [.agg u.row] M (λv M'=>v=I (A0y u)/\M'=M):=by
 have key:A0c (WC gl) 164 [.agg u.row] M (λv M'=>(∃x,v=.val x/\x=.int .i64 (A0y u))/\Grow M M'):=by
  refine A1f hB func164 rfl rfl rfl rfl rfl rfl ?_;have b:(M++[A0m.cells 3 [I 0]])[M.length]?=some (A0m.cells 3 [I 0]):=ZBG
  simp -dsimp[A0j,A0k,A0e];refine A0s (A0l func241 rfl rfl (A9E gl 242 [] [.ptr M.length 0] (λ_=>true) (λ(a:Nat) _=>a+1) (λM1 a=>M1[M.length]?=some (.cells 3 [I a])/\Grow M M1) (λa u=>a+A0y u<=3000) (λa ks=>a+A0I ks<=3000) ?_ ?_ ?_ ?_ ?_ u 0 _ hg Q0 ⟨b,A0d.app none _ _⟩)) ?_
  .intro a u h;have:=A6h u;omega
  .intro a k ks h;rw[A0I]at h;omega
  .intro a k ks h _;rw[A0I]at h;rw[B0B];show a+A0y k+A0I ks<=3000;omega
  .rintro M1 a X ⟨h1,h2⟩;exact⟨by rw[Z0o (Z0a.1 h1).1];exact h1,h2.trans (A0d.app none _ _)⟩
  .rintro u a M1 d hk ⟨h1,h2⟩;have c:=A8q u;refine(A0l func242 rfl rfl (D1h gl u M.length a Q0 M1 h1)).mono ?_;rintro _ _ ⟨rfl,rfl⟩;have hlt:M.length<M1.length:=(Z0a.1 h1).1;exact⟨rfl,ZDE,⟨ZAB,λj hj _=>by rw[Z0f Q0];exact h2.2 j hj Q1⟩⟩
  .rintro _ M1 ⟨rfl,h1,h2⟩;rw[B0B]at h1|-;simp only[Z0P]at h1;simp -dsimp[A0b h1,h2]
 exact(B1u key).mono ZAT
end
@[simp] def IdD.row_len(x:IdD):x.row.length=3:=(rfl)
def A0o{cs:List AV}:(AV.agg cs).storable=true:=rfl
def A0n{cs:List AV}:(AV.agg cs).cells=cs:=rfl
def D5c(M:Mem)(l:List IdD)(v:AV)(M':Mem):Prop:=A1r 28 3 IdD.row M' v l/\Grow M M'/\A1L M.length v
section
variable (gl:Nat->AV)
def D7n(u:A0a)(o:Nat)(M:Mem)(v:AV)(l:List IdD)(hl:l.length<=3000)(hM:M[o]?=some (.cells 73 [v]))(hv:A1r 28 3 IdD.row M v l)(c:obj v≠some o):A0c (WC gl) 243 [.agg u.row,.ptr o 0] M (λr M'=>r=B true/\∃v' M1,M'=M1.set o (.cells 73 [v'])/\A1r 28 3 IdD.row M1 v' (l++[u.id])/\A0d (obj v) M M1/\(obj v'=obj v\/A1L M.length v')):=by
 refine A1f (hQ [8]) func243 rfl rfl rfl rfl rfl rfl ?_
 rw[u.row_eq]
 simp -dsimp[A0b hM,A0x,A1g,A0o,A0n]
 refine A3B (C:=WC gl) (enc:=IdD.row) (e:=28) (sz:=3) (news:=[u.id]) C8x D3R D3w (λ_=>rfl) hv (by simp[A0D,IdD.row]) ZAB rfl ?_
 intro v' M1 h1 h2 h3 _
 have b:=h2.get hM c
 have a:A0k (some 1) M1 (.ptr o 0) v'=some (M1.set o (.cells 73 [v'])):=by rw[A0f b,h1.cells,Z0c ⟨h1.store,Q1,rfl⟩];rfl
 simp -dsimp[a]
 exact⟨v',M1,rfl,h1,h2,h3⟩
def D4i(u:A0a)(M:Mem)(hg:u.good)(hc:A0y u<=3000):A0c (WC gl) 165 [.agg u.row] M (D5c M (A0V u)):=by
 refine A1f hW func165 rfl rfl rfl rfl rfl rfl ?_;have d:(M++[A0m.cells 73 [.val (.slice none 0 0)]])[M.length]?=some (A0m.cells 73 [.val (.slice none 0 0)]):=ZBG
 simp -dsimp[A0j,A0k,A0e];refine A0s (A0l func241 rfl rfl (A9E gl 243 [] [.ptr M.length 0] (λ_=>true) (λ(a:List IdD) u=>a++[u.id])
  (λM1 a=>∃v,M1[M.length]?=some (.cells 73 [v])/\A1r 28 3 IdD.row M1 v a/\obj v≠some M.length/\A1L M.length v/\Grow M M1)
  (λa u=>a.length+A0y u<=3000) (λa ks=>a.length+A0I ks<=3000) ?_ ?_ ?_ ?_ ?_ u [] _ hg (by simpa using hc) ⟨_,d,.nil,Q1,by simp[A1L],A0d.app none _ _⟩)) ?_
 .intro a u h;have:=A6h u;simp;omega
 .intro a k ks h;rw[A0I]at h;omega
 .intro a k ks h _;rw[A0I]at h;rw[B2W];simp only[Z0k,A3P];omega
 .rintro M1 a X ⟨v,h1,h2,h3,h4,h5⟩;exact⟨v,by rw[Z0o (Z0a.1 h1).1];exact h1,h2.keep (A0d.app none _ _) Q1,h3,h4,h5.trans (A0d.app none _ _)⟩
 .rintro u a M1 i hk ⟨v,h1,h2,h3,h4,h5⟩;have g:=A8q u;refine(A0l func243 rfl rfl (D7n gl u M.length M1 v a Q0 h1 h2 h3)).mono ?_;rintro _ _ ⟨rfl,v',M2,rfl,k1,k2,k3⟩;have hlt:M.length<M1.length:=(Z0a.1 h1).1;have c:M.length<M2.length:=by have:=k2.1;omega
  have b:obj v'≠some M.length:=by
   rcases k3 with e|e
   .rw[e];exact h3
   .intro q;have:=e _ q;omega
  refine⟨rfl,v',by simp[c],k1.keep (A0d.set M2 M.length _) (λf hf e=>b (by rw[hf,<-e])),b,λf hf=>?_,⟨ZAB,λj hj _=>?_⟩⟩
  .rcases k3 with e|e
   .exact h4 f (by rw[<-e];exact hf)
   .have:=e f hf;omega
  .rw[Z0f Q0,k2.2 j Q0 (λe=>by have:=h4 _ e;omega)];exact h5.2 j hj Q1
 .rintro _ M1 ⟨rfl,v,h1,h2,h3,h4,h5⟩;rw[B2W]at h2|-;simp only[Z1y]at h2;simp -dsimp[A0b h1,D5c,h2,h4,h5]
end
section
variable {K:Type} [DecidableEq K]
def A9r(S:List K):List K->List K
 |[]=>S
 |x::r=>A9r (if S.any (λy=>decide (y=x))then S else S++[x]) r
def C5r:List K->List K->Bool
 |[],_=>true
 |x::r,b=>!(b.any λy=>decide (y=x))&&C5r r (b++[x])
def C2O{S:List K}{x:K}:(S.any λy=>decide (y=x))=decide (x∈S):=by rw[Z2k];simp
def A9z:∀(r S:List K) (x:K),x∈A9r S r<->x∈S\/x∈r
 |[],S,x=>by simp[A9r]
 |y::r,S,x=>by
  rw[A9r,A9z r];simp only[C2O,Z0n];by_cases h:y∈S
  .rw[Z0c h];simp only[Z0p];constructor
   .rintro(h1|h1)<;>simp[h1]
   .rintro(h1|rfl|h1)
    .exact .inl h1
    .exact .inl h
    .exact .inr h1
  .rw[Z0d h];simp only[Z0N,Z0p,Z1H,Z2R];exact or_assoc
def C4a:∀(r S:List K),(A9r S r).length<=S.length+r.length
 |[],S=>by simp[A9r]
 |y::r,S=>by rw[A9r];have:=C4a r (if S.any (λz=>decide (z=y))then S else S++[y]);split at this<;>simp_all<;>omega
def C1v:∀(r S:List K),(A9r S r).length=S.length+r.length<->C5r r S=true
 |[],S=>by simp[A9r,C5r]
 |y::r,S=>by
  rw[A9r,C5r];cases h:S.any λz=>decide (z=y)
  .rw[Z0d Q1];have:=C1v r (S++[y]);rw[Z3v,Z0U,<-this];simp only[Z0k,Z0r,Z1p];omega
  .rw[Z0c rfl];have:=C4a r S;simp only[Z3j,Z0K,Z1I,iff_false,Z0r];omega
def B8Y:∀(r S:List K),S.Nodup->(A9r S r).Nodup
 |[],S,h=>by simpa[A9r]using h
 |y::r,S,h=>by
  rw[A9r];refine B8Y r _ ?_;rw[C2O];split
  .exact h
  .rename_i hn;(have hn:y∉S:=by simpa using hn);refine Z2D.2 ⟨h,Q1,?_⟩;intro a ha b hb e;simp only[Z0p,Z1H,Z2R]at hb;subst hb;subst e;exact hn ha
omit [DecidableEq K]in
def C9W{l:List K}{z:K}(hn:l.Nodup)(hz:∀x∈l,x=z)(hm:z∈l):l.length=1:=by
 match l,hn,hz,hm with
 |[],_,_,hm=>simp at hm
 |[x],_,_,_=>rfl
 |x::y::l,hn,hz,_=>have h1:=hz x Q1;have h2:=hz y Q1;subst h1;subst h2;simp at hn
omit [DecidableEq K]in
def D6e{l:List K}{z:K}(h1:l.length=1)(hm:z∈l):∀x∈l,x=z:=by
 match l,h1 with
 |[y],_=>intro x hx;simp at hx hm;rw[hx,hm]
def D5a{l:List K}{z:K}(hl:l≠[]):(z∈l/\(A9r [] l).length=1)<->∀x∈l,x=z:=by
 constructor
 .rintro⟨hm,h1⟩ x hx;exact D6e h1 ((A9z l [] z).2 (.inr hm)) x ((A9z l [] x).2 (.inr hx))
 .intro h;obtain⟨a,r,rfl⟩:=Z3l hl;have hm:z∈a::r:=by rw[<-h a Q1];simp
  exact⟨hm,C9W (B8Y _ _ .nil) (λx hx=>h x (by simpa using(A9z _ [] x).1 hx)) ((A9z _ [] z).2 (.inr hm))⟩
end
def idZ:IdD:=⟨0,0,0⟩
def C2g(u:A0a):Bool:=(decide (idZ∈A0V u)&&decide ((A9r [] (A0V u)).length=1))||(decide ((A9r [] (A0V u)).length=(A0V u).length)&&(decide (u.kind=0)==decide (u.id=idZ)))
def D9G(u:A0a):Bool:=(A0V u).all (λx=>decide (x=idZ))||((decide (u.id=idZ)==decide (u.kind=0))&&C5r (A0V u) [])
def D6B(u:A0a):A0V u≠[]:=by obtain⟨a,b,c,d,e,f⟩:=u;rw[A0V];simp
def D2g(u:A0a):C2g u=D9G u:=by have h1:=D5a (l:=A0V u) (z:=idZ) (D6B u);have h2:=C1v (A0V u) ([]:List IdD);simp only[Z1p,Z0P]at h2;rw[Z2k];simp only[C2g,D9G,Z1V,Z0h,Z0n,Z0D,Z3t];rw[h1,h2,and_comm,@eq_comm _ (decide (u.kind=0))]
def A3n.len{K V:Type}{d:K->AV}{a:V->AV}{M:Mem}{b:Nat}{l:List (K×V)}(h:A3n d a M b l){P:Program}{t kt et:TypeId}(ht:P.underlying t=some (.map kt et)):A4N P t M (.mapr b)=some l.length:=by obtain⟨es,c,h1,h2⟩:=h;have:=congrArg List.length h2;simp only[Z0W]at this;simp[A4N,ht,h1,this]
def A9D{P:Program}{t:TypeId}{b:Nat}:A3k P t (.mapr b)=none:=rfl
@[simp] def C1p:prog.eqGuardType prog.depth 28=false:=Q2
def C2D(a b:IdD):A1K prog .eql 28 (.agg [I a.act,I a.item,I a.n]) (.agg [I b.act,I b.item,I b.n])=some (B (decide (a=b))):=by
 have h0:A3v prog .eql 28 (.agg [I a.act,I a.item,I a.n]) (.agg [I b.act,I b.item,I b.n])=none:=by simp[A3v,A3Z]
 have:=(C9h 354 4 Q2).eq a b;simp only[C9b,IdD.row]at this;simp only[A1K,h0,A4B,C1p,this];rfl
def C8K(a:IdD):A1K prog .eql 28 (.agg [I a.act,I a.item,I a.n]) (.agg [I 0,I 0,I 0])=some (B (decide (a=idZ))):=C2D a idZ
def C4U{K:Type}[DecidableEq K](c:K):∀A2B:List K,(A2B.any λy=>decide (y=c))=true->B2q (A2B.map λx=>(x,true)) c true=A2B.map λx=>(x,true)
 |[],h=>by simp at h
 |x::l,h=>by
  rw[Z0x,B2q];by_cases e:c=x
  .subst e;simp
  .rw[Z0d e];rw[Z2Z,Z0I (λq=>e q.symm),Z2G]at h;rw[C4U c l h]
section
variable (gl:Nat->AV)
def D9i(u:A0a)(M:Mem)(hg:u.good)(hc:A0y u<=3000):A0c (WC gl) 313 [.agg u.row] M (λv M'=>v=B (C2g u)/\M'=M):=by
 have key:A0c (WC gl) 313 [.agg u.row] M (λv M'=>(∃x,v=.val x/\x=.bool (C2g u))/\Grow M M'):=by
  refine A1f hW func313 rfl rfl rfl rfl rfl rfl ?_;have q:=D4i gl u M hg hc;rw[u.row_eq]at q|-;have af:=A3P u;simp -dsimp -implicitDefEqProofs;refine A0s (A0l func165 rfl rfl q) ?_;rintro v M1 ⟨hv,a6,hL⟩;have c:A3k prog 73 v=some (A0V u).length:=hv.len (e':=28) Q1;have a8:A1r 28 3 IdD.row (M1++[.map [] 0]) v (A0V u):=hv.keep (A0d.app none M1 _) Q1;have a9:obj v≠some M1.length:=λe=>by have:=hv.lt e;omega
  simp -dsimp -implicitDefEqProofs[c];refine A0M hW (λT M2=>∃i:Nat,i<=(A0V u).length/\T 1=.cptr [I u.id.act,I u.id.item,I u.id.n,I u.kind,S u.label,.list 4 (A0i u.head) .no,.list 4 (A0i u.words) .no,.list 8 (A0t u.kids) .no]/\T 3=v/\T 4=.mapr M1.length/\T 11=v/\T 12=I (A0V u).length/\T 13=I i/\Grow M M2/\A1r 28 3 IdD.row M2 v (A0V u)/\
   ∃s,A3n C9b B M2 M1.length (s.map λx=>(x,true))/\A9r [] (A0V u)=A9r s ((A0V u).drop i))
   (λT M1=>match T 13 with|.val (.int _ i)=>(A0V u).length-i.toNat|_=>0) Q2 ?_ ?_
  .exact⟨0,Q0,Q1,Q1,Q1,Q1,Q1,Q1,a6.trans (A0d.app none _ _),a8,[],A3n.new M1,Q1⟩
  .rintro T M2 ⟨i,i1,t1,t3,t4,a2,a1,a0,d,a4,s,l,ho⟩;by_cases hi:i<(A0V u).length
   .have m:(i:Int)<(A0V u).length:=Q0;have w1:=A1O (i:=i) Q0;obtain⟨p,p1,_,p2,_⟩:=a4.at_ (P:=prog) (t:=28) (λ_=>rfl) Q1 Q1 hi;have hd:=Z0m hi;rw[hd,A9r]at ho;obtain⟨x,hx⟩:=ex ((A0V u)[i]);rw[<-hx]at ho p2;have ab:x.row=[I x.act,I x.item,I x.n]:=rfl;rw[ab]at p2;(have ae:(M2++[A0m.cells 28 [I x.act,I x.item,I x.n]])[M2.length]?=some (A0m.cells 28 [I x.act,I x.item,I x.n]):=by simp);have a3:=l.keep (A0d.app none M2 [A0m.cells 28 [I x.act,I x.item,I x.n]]) Q1;have w:Grow M (M2++[A0m.cells 28 [I x.act,I x.item,I x.n]]):=d.trans (A0d.app none _ _);have ad:=a4.keep (A0d.app none M2 [A0m.cells 28 [I x.act,I x.item,I x.n]]) Q1;obtain⟨M4,q1,q2,q3⟩:=a3.put (C9h 354 4 Q2) x true;have a7:A2b prog 354 (M2++[A0m.cells 28 [I x.act,I x.item,I x.n]]) (.mapr M1.length) (.agg [I x.act,I x.item,I x.n]) (B true)=some M4:=q1;(have ac:Grow M M4:=by refine⟨Z0J w.1 q3.1,λj hj _=>?_⟩;rw[q3.2 j (by have:=w.1;omega) (by have:=a6.1;simp;omega)];exact w.2 j hj Q1);have aa:=ad.keep q3 (λf hf e=>a9 (by rw[hf,<-e]));simp -dsimp -implicitDefEqProofs[t1,t3,t4,a2,a1,a0,hi,m,p1,p2,A0j,A0k,A0e,A0o,A0n,A0b ae,a7,w1];refine⟨⟨i+1,Q3,rfl,ac,aa,if s.any (λy=>decide (y=x))then s else s++[x],?_,ho⟩,Q3⟩;cases hs:s.any λy=>decide (y=x)
    .rw[B4S x s hs]at q2;rw[Z0d Q1];exact q2
    .rw[Z0c rfl];have:B2q (s.map λx=>(x,true)) x true=s.map λx=>(x,true):=C4U x s hs;rw[this]at q2;exact q2
   .have m:¬(i:Int)<(A0V u).length:=Q0;rw[show(A0V u).drop i=[]from Z0v Q0,A9r]at ho;have hz:(s.any λy=>decide (y=idZ))=decide (idZ∈A0V u):=by rw[C2O,<-ho,Z2k];simp only[Z0n,A9z,Z1H,false_or]
    (have hR:C2g u=((decide (idZ∈A0V u)&&decide (s.length=1))||(decide (s.length=(A0V u).length)&&(decide (u.kind=0)==decide (u.id=idZ)))):=by rw[<-ho];rfl);obtain⟨R,a5⟩:=ex (C2g u)
    rw[<-a5]at hR|-;clear a5;have r:=l.get (C9h 354 4 Q2) idZ (z:=B false) Q2 false;rw[B5g,hz]at r;have a:A1Y prog 354 M2 (.mapr M1.length) (.agg [I 0,I 0,I 0]) false=some (B (decide (idZ∈A0V u))):=by refine r.trans ?_;cases decide (idZ∈A0V u)<;>rfl
    (have g:A4N prog 354 M2 (.mapr M1.length)=some s.length:=by rw[l.len (kt:=28) (et:=4) Q1];simp);cases hzz:decide (idZ∈A0V u)
    .rw[hzz]at a hR;rw[Z0K,Z2G]at hR;simp -dsimp -implicitDefEqProofs[t1,t3,t4,a2,a1,a0,m,a];refine A0X hW (A0B gl) (λk=>if k=3\/k=8 then 2 else 0) (λ_=>0) (by rfl) Q2 ?_;by_cases h2:s.length=(A0V u).length
     .have b:(s.length:Int)=((A0V u).length:Int):=Q0;rw[Z0A h2,Z0U]at hR;simp -dsimp -implicitDefEqProofs[t1,t3,t4,g,A9D,c,Z2u b,C8K];exact⟨by rw[hR];rfl,d⟩
     .have b:¬(s.length:Int)=((A0V u).length:Int):=Q0;rw[Z0I h2,Z0K]at hR;simp -dsimp -implicitDefEqProofs[t1,t3,t4,g,A9D,c,b,hR,d]
    .rw[hzz]at a hR;rw[Z0U]at hR;simp -dsimp -implicitDefEqProofs[t1,t3,t4,a2,a1,a0,m,a];refine A0X hW (A0B gl) (λk=>if k=3\/k=8 then 2 else 0) (λ_=>0) (by rfl) Q2 ?_;by_cases h1:s.length=1
     .have o:(s.length:Int)=1:=Q0;rw[Z0A h1,Z4R]at hR;simp -dsimp -implicitDefEqProofs[t1,t3,t4,g,A9D,c,Z2u o,Z2u h1,hR,d]
     have o:¬(s.length:Int)=1:=Q0;rw[Z0I h1,Z2G]at hR;by_cases h2:s.length=(A0V u).length
     .have b:(s.length:Int)=((A0V u).length:Int):=Q0;rw[Z0A h2,Z0U]at hR;simp -dsimp -implicitDefEqProofs[t1,t3,t4,g,A9D,c,h1,o,Z2u b,C8K];exact⟨by rw[hR];rfl,d⟩
     .have b:¬(s.length:Int)=((A0V u).length:Int):=Q0;rw[Z0I h2,Z0K]at hR;simp -dsimp -implicitDefEqProofs[t1,t3,t4,g,A9D,c,h1,o,b,hR,d]
 exact(B1u key).mono ZAT
end
mutual
def A2j:A0a->List A0a
 |.mk id k l h w ks=>.mk id k l h w ks::A3F ks
def A3F:List A0a->List A0a
 |[]=>[]
 |k::ks=>A2j k++A3F ks
end
mutual
def A5D:∀u:A0a,(A2j u).map A0a.id=A0V u
 |.mk id _ _ _ _ ks=>by rw[A2j,A0V,Z0x,B3V ks];rfl
def B3V:∀ks:List A0a,(A3F ks).map A0a.id=A2Y ks
 |[]=>by rw[A3F,A2Y];rfl
 |k::ks=>by rw[A3F,A2Y,Z1f,A5D k,B3V ks]
end
section
variable (gl:Nat->AV)
end
def A4V(u:A0a):Bool:=(A3T A9c (λ(_:Unit) _=>()) u ()).1
def B0z(u:A0a):Bool:=A4V u&&decide (A1m u<=8)&&decide (A0y u<=1024)&&C2g u
def Fit(u:A0a):Prop:=u.good/\u.lims/\A0y u<=3000
def A4c(u:A0a)(h:u.lims):u.lim/\A5e u.kids:=by obtain⟨a,b,c,d,e,f⟩:=u;rw[A0a.lims]at h;exact h
section
variable (gl:Nat->AV)
theorem B8Z(i:gl 2=A1t)(e:gl 8=A1E)(u:A0a)(M:Mem)(hf:Fit u):A0c (WC gl) 286 [.agg u.row] M (λv M'=>v=B (B0z u)/\M'=M):=by
 obtain⟨hg,hl,hc⟩:=hf;have key:A0c (WC gl) 286 [.agg u.row] M (λv M'=>(∃x,v=.val x/\x=.bool (B0z u))/\Grow M M'):=by
  refine A1f hB func286 rfl rfl rfl rfl rfl rfl ?_;have hR:B0z u=(A4V u&&decide (A1m u<=8)&&decide (A0y u<=1024)&&C2g u):=rfl;simp -dsimp;refine A0s (A0l func241 rfl rfl (A9E gl 312 [] [] A9c (λ(_:Unit) _=>()) (λM1 _=>Grow M M1) (λ_ u=>u.lims) (λ_ ks=>A5e ks) ?_ ?_ ?_ ?_ ?_ u () M hg hl (A0d.refl _ _))) ?_
  .intro a u h;exact(A4c u h).2
  .intro a k ks h;rw[A5e]at h;exact h.1
  .intro a k ks h _;rw[A5e]at h;exact h.2
  .intro M1 a X h;exact h.trans (A0d.app none _ _)
  .intro u a M1 f g b;refine(A0l func312 rfl rfl (D4J gl M1 i e u f (A4c u g).1)).mono ?_;rintro _ _ ⟨rfl,h⟩;exact⟨rfl,b.trans h⟩
  .rintro _ M1 ⟨rfl,b⟩;have j:(A3T A9c (λ(_:Unit) _=>()) u ()).1=A4V u:=rfl;rw[j];cases h1:A4V u;(case false=>rw[h1]at hR;simp only[Z0K]at hR;simp -dsimp[hR,b]);rw[h1,Z0U]at hR;simp -dsimp;refine A0s (A0l func240 rfl rfl (B8f gl u M1 hg hc)) ?_;rintro _ _ ⟨⟨_,rfl,rfl⟩,rfl⟩;by_cases h2:A1m u<=8;(case neg=>have c:¬(A1m u:Int)<=8:=Q0;rw[Z0I h2]at hR;simp only[Z0K]at hR;simp -dsimp[c,hR,b]);have c:(A1m u:Int)<=8:=Q0;rw[Z0A h2,Z0U]at hR;simp -dsimp[c];refine A0s (A0l func164 rfl rfl (B9G gl u _ hg hc)) ?_;rintro _ _ ⟨rfl,rfl⟩;by_cases h3:A0y u<=1024;(case neg=>have d:¬(A0y u:Int)<=1024:=Q0;rw[Z0I h3]at hR;simp only[Z0K]at hR;simp -dsimp[d,hR,b]);have d:(A0y u:Int)<=1024:=Q0;rw[Z0A h3,Z0U]at hR;simp -dsimp[d];refine A0s (A0l func313 rfl rfl (D9i gl u _ hg hc)) ?_;rintro _ _ ⟨rfl,rfl⟩;simp -dsimp[hR,b]
 exact(B1u key).mono ZAT
end
def D0f(id:IdD)(k:Int)(l:ByteArray)(h w:List A0z)(ks:List A0a):A4V (.mk id k l h w ks)=(A9c (.mk id k l h w ks)&&ks.all A4V):=by
 have hl:∀ks:List A0a,(A4k A9c (λ(_:Unit) _=>()) ks ()).1=ks.all A4V:=by
  intro ks;induction ks with
  |nil=>rw[A4k];rfl
  |cons k ks ih=>
   rw[A4k,Z2Q];have:(A3T A9c (λ(_:Unit) _=>()) k ()).1=A4V k:=rfl;rw[this];cases A4V k
   .rfl
   .rw[Z0c rfl,Z0U];exact ih
 rw[A4V,A3T];cases A9c (.mk id k l h w ks)
 .rfl
 .rw[Z0c rfl,Z0U];exact hl ks
def C5s(u:A0a):(B9T u&&decide (u.kids.length<=64))=A2R u:=by
 unfold B9T A2R;by_cases k0:u.kind=0
 .rw[Z0c k0,Z0c k0,Z2k];simp only[Z0h,Z0n];constructor
  .rintro⟨⟨h1,h2⟩,h3⟩;have hh:u.head=[]:=Z0w Q0;have hw:u.words=[]:=Z0w Q0;rw[hh,hw];exact⟨⟨⟨⟨Q0,h3⟩,rfl⟩,rfl⟩,⟨h1,rfl⟩,rfl⟩
  .rintro⟨⟨⟨⟨_,h3⟩,_⟩,_⟩,⟨h1,h4⟩,h5⟩;exact⟨⟨h1,Q0⟩,h3⟩
 .rw[Z0d k0,Z0d k0,Z2k];simp only[Z0h,Z0n];constructor
  .rintro⟨⟨⟨⟨h1,h2⟩,h3⟩,h4⟩,h5⟩;exact⟨⟨⟨⟨Q0,h5⟩,h3⟩,h4⟩,h2⟩
  .rintro⟨⟨⟨⟨h1,h5⟩,h3⟩,h4⟩,h2⟩;exact⟨⟨⟨⟨Q0,h2⟩,h3⟩,h4⟩,h5⟩
def B7d(kind:Int):∀(ks b:List A0a),(∀k∈ks,A4V k=A1u k)->(A8D kind ks (b.map λu=>(u.kind,u.label))&&ks.all A4V)=A4o kind ks b
 |[],_,_=>by rw[A8D,A4o];rfl
 |k::ks,b,h=>by
  have ih:=B7d kind ks (b++[k]) λx hx=>h x (by simp[hx]);rw[Z1f]at ih;have ih:(A8D kind ks (b.map (λu=>(u.kind,u.label))++[(k.kind,k.label)])&&ks.all A4V)=A4o kind ks (b++[k]):=ih;rw[A8D,A4o,<-ih,Z2Q,h k Q1];have ha:((b.map λu=>(u.kind,u.label)).any λy=>decide (y=(k.kind,k.label)))=b.any λa=>A9f a k:=by rw[List.any_map];congr 1;funext a;simp only[Function.comp,A9f,Z0i,Z4B]
  rw[ha];cases A4p kind k.kind<;>cases A1u k<;>cases(b.any λa=>A9f a k)<;>simp
def B1P:∀u:A0a,A4V u=A1u u
 |.mk id k l h w ks=>by
  have ih:∀x∈ks,A4V x=A1u x:=λx hx=>by have:=A0a.kid_lt (u:=.mk id k l h w ks) hx;exact B1P x
  have h1:=B7d k ks [] ih;have h2:=C5s (.mk id k l h w ks);rw[D0f,A1u,<-h1,<-h2];show(B9T (.mk id k l h w ks)&&A8D k ks []&&decide (ks.length<=64)&&ks.all A4V)=(B9T (.mk id k l h w ks)&&decide (ks.length<=64)&&(A8D k ks []&&ks.all A4V));cases B9T (.mk id k l h w ks)<;>cases A8D k ks []<;>cases decide (ks.length<=64)<;>simp
termination_by u=>SizeOf.sizeOf u
mutual
def A0N(x:IdD):A0a->Option A0a
 |.mk id k l h w ks=>if id=x then some (.mk id k l h w ks)else A6R x ks
def A6R(x:IdD):List A0a->Option A0a
 |[]=>none
 |k::ks=>match A0N x k with
  |some v=>some v
  |none=>A6R x ks
end
def zU:List AV:=[I 0,I 0,I 0,I 0,S ⟨#[]⟩,.val (.slice none 0 0),.val (.slice none 0 0),.val (.slice none 0 0)]
def A4F:Option A0a->List AV
 |some u=>u.row
 |none=>zU
def A2G(n:Nat)(l:List A0z):A4n n (A0i l):=by
 induction l with
 |nil=>simp[A0i,A4n]
 |cons w l ih=>simp only[A0i,Z0x,A4n];exact⟨by simp[A0z.row,A1i,bdd],ih⟩
mutual
def A1F(n:Nat):∀u:A0a,A1i n u.row
 |.mk id k l h w ks=>by rw[A0a.row];simp only[A1i,bdd,Z1A,Z2J];exact⟨A2G n h,A2G n w,A9s n ks⟩
def A9s(n:Nat):∀l:List A0a,A4n n (A0t l)
 |[]=>by rw[A0t];simp[A4n]
 |u::l=>by rw[A0t];exact⟨A1F n u,A9s n l⟩
end
def D0h(n:Nat)(o:Option A0a):A1i n (A4F o):=by
 cases o with
 |none=>simp[A4F,zU,A1i,bdd]
 |some u=>exact A1F n u
def A1N{C:Ctx}{f:FuncId}{args:List AV}{M:Mem}{r:AV}(hb:∀n,bdd n r)(h:A0c C f args M (λv M'=>v=r/\Grow M M')):A0c C f args M (λv M'=>v=r/\M'=M):=by
 refine h.cut ?_;rintro _ M' ⟨rfl,hg⟩;refine⟨M'.drop M.length,?_,hb _,rfl,rfl⟩;have ht:M'.take M.length=M:=by
  apply Z1W;intro i;rw[Z0B];split
  .rename_i hi;exact hg.2 i hi Q1
  .rename_i hi;exact(Z1J Q0).symm
 have:=Z1j M.length M';rw[ht]at this;exact this.symm
@[simp] def E3z:A0A prog 31 []=some (.agg zU):=by
 simp[A0A,A1l];rfl
def A0u{M:Mem}{b:Nat}{t:TypeId}{cs:List AV}(h:b<M.length):A2g (M.set b (.cells t cs)) (.ptr b 0)=some cs:=by simp[A2g,h]
def A0w{M M1:Mem}{b:Nat}{X:A0m}(h:Grow M M1)(hb:M.length<=b):Grow M (M1.set b X):=⟨by simpa using h.1,λi hi _=>by rw[Z0f Q0];exact h.2 i hi Q1⟩
@[simp] def E6r:zU.length=8:=(rfl)
@[simp] def E2T:List.take 8 zU=zU:=(rfl)
section
variable (gl:Nat->AV)
end
def D9d:A9n prog 31=some (.agg zU):=by simp[A9n];rfl
section
variable (gl:Nat->AV)
end
section
variable (gl:Nat->AV)
def E2S:A9n prog 3=some (I 0):=Q2
end
section
mutual
def A9C(x:IdD):∀u:A0a,A0N x u=(A2j u).find? λv=>decide (v.id=x)
 |.mk id k l h w ks=>by
  rw[A0N,A2j,Z3W];have a:(A0a.mk id k l h w ks).id=id:=rfl;rw[a];by_cases c:id=x
  .rw[Z0c c,Z0A c]
  .rw[Z0d c,Z0I c];exact C1H x ks
def C1H(x:IdD):∀ks:List A0a,A6R x ks=(A3F ks).find? λv=>decide (v.id=x)
 |[]=>by rw[A6R,A3F];rfl
 |k::ks=>by rw[A6R,A3F,List.find?_append,A9C x k,C1H x ks];cases(A2j k).find? (λv=>decide (v.id=x))<;>rfl
end
def B0M:A1b prog 100=some 3:=Q2
section
variable (gl:Nat->AV)
end
end
def E0W(s:ByteArray):ByteArray:=if s.size=0 then s else if D8C (A2t s (s.size-1))then s.extract 0 (s.size-1)else s
def D8E(s:ByteArray):Bool:=decide (s.size=0)||!D8C (A2t s (s.size-1))
def A4i:A1o:=⟨0,⟨#[]⟩⟩
def B6P{α:Type}{o:Option α}(h:∀x,o≠some x):o=none:=by
 cases o with
 |none=>rfl
 |some x=>exact absurd rfl (h x)
def E1c:List ByteArray->List ByteArray
 |[]=>[]
 |s::r=>E0W s::(if D8E s then E1c r else[])
def A2B(l:List ByteArray)(at_:Nat)(en:Bool):List ByteArray:=if en=true then[]else E1c (l.drop at_)
section
variable (gl:Nat->AV)
@[simp] def E0g{k:Int}{t:ByteArray}:A0A prog 78 [(0,I k),(1,S t)]=some (.agg [I k,S t]):=ZAK
end
section
variable (gl:Nat->AV)
@[simp] def E0b{k:Int}:A0A prog 78 [(0,I k)]=some (.agg [I k,S ⟨#[]⟩]):=ZAK
end
abbrev A0C:AV:=.val (.slice none 0 0)
section
variable (gl:Nat->AV)
end
def hL:A2r:=⟨λd=>!(d==20),λ_=>true,λ_=>false⟩
section
variable (gl:Nat->AV)
end
section
end
section
end
section
end
def A0c.dataX{C:Ctx}{f:FuncId}{args:List AV}{M:Mem}{X:AV}(h:A0c C f args M (λv M'=>Grow M M'/\Still M' M.length (bdd M.length) [v] [X])):A0c C f args M (λd M'=>d=X/\M'=M):=A0c.data (Q:=λd=>d=X) (h.mono λ_ _ h=>⟨h.1,X,h.2,rfl⟩)
def C5I(n:Nat)(x:A1o):A1i n x.row:=by simp[A1o.row,A1i,bdd]
def C7m(n:Nat)(x:IdD):A1i n x.row:=by simp[IdD.row,A1i,bdd]
def A3i{α:Type}{M:Mem}{n e sz:Nat}{enc:α->List AV}{v:AV}{l:List α}(he:∀x,(enc x).length=sz)(hb:∀n x,A1i n (enc x))(h:A1r e sz enc M v l)(hn:A1L n v):Still M n (bdd n) [v] [.list sz (l.map enc) .no]:=Still.rows he (λx c hc=>A8A (hb n x) hc) h hn .nil
where
 A8A {n:Nat}:∀{cs:List AV} {c:AV},A1i n cs->c∈cs->bdd n c
  |d::cs,c,h,hc=>by
   simp only[A1i]at h;rcases Z0p.1 hc with rfl|hc
   .exact h.1
   .exact A8A h.2 hc
abbrev A7x(l:List IdD):List (List AV):=l.map IdD.row
def C4H(x:A0L):A7G [] x=[x]:=rfl
def C2P(A:List A0L)(y x:A0L):A7G (A++[y]) x=if x.1<=y.2 then A++[(y.1,max y.2 x.2)]else A++[y]++[x]:=by simp[A7G]
def D0C{l:List A0L}{x:A0L}(h:x∈A7t l):0<=x.1/\x.1<x.2/\x.2<=A2T:=by simp only[A7t,Z1o,Z0C,Z0n]at h;obtain⟨⟨y,_,rfl⟩,h2⟩:=h;simp only[A7e]at h2|-;omega
def B2e:∀(K c:List A0L),A5S c->(∀x∈K,0<=x.1/\x.1<x.2/\x.2<=A2T)->K.Pairwise (λa b=>a.1<b.1)->(∀y,c.getLast?=some y->∀x∈K,y.1<x.1)->A5S (K.foldl A7G c)
 |[],c,h,_,_,_=>h
 |x::K,c,h,hK,hp,hl=>by
  rw[Z1c]at hp;rw[Z1U];have hx:=hK x Q1;rcases Z3d c with rfl|⟨A,y,rfl⟩
  .rw[C4H];refine B2e K [x] ⟨λz hz=>by rw[Z0L.1 hz];exact hx,Q1⟩ (λz hz=>hK z ZDS) hp.2 λy hy z hz=>?_;simp only[Z3A,Z0b]at hy;subst hy;exact hp.1 z hz
  .rw[Z4I]at h hl|-;have e:y.1<x.1:=hl y Q1 x Q1;have hy:=h.1 y Q1;obtain⟨hA,_,d⟩:=Z3i.1 h.2;rw[C2P];split
   .refine B2e K _ ⟨λz hz=>?_,?_⟩ (λz hz=>hK z ZDS) hp.2 λw hw z hz=>?_
    .rcases Z0N.1 hz with hz|hz
     .exact h.1 z (Z2A _ hz)
     .rw[Z0L.1 hz];simp only;omega
    .rw[Z3i];exact⟨hA,Q1,λa ha b hb=>by rw[Z0L.1 hb];exact d a ha y Q1⟩
    .simp only[List.getLast?_append,Z3A,Z4G,Z0b]at hw;subst hw;have:=hp.1 z hz;simp only;omega
   .rename_i hc;refine B2e K _ ⟨λz hz=>?_,?_⟩ (λz hz=>hK z ZDS) hp.2 λw hw z hz=>?_
    .rcases Z0N.1 hz with hz|hz
     .exact h.1 z hz
     .rw[Z0L.1 hz];exact hx
    .rw[Z3i];refine⟨h.2,Q1,λa ha b hb=>?_⟩;rw[Z0L.1 hb];rcases Z0N.1 ha with ha|ha
     .have:=d a ha y Q1;omega
     .rw[Z0L.1 ha];omega
    .simp only[List.getLast?_append,Z3A,Z4G,Z0b]at hw;subst hw;exact hp.1 z hz
def A7N{l:List A0L}(h:Asc l):A5S (A3J l):=B2e _ [] ⟨Q1,.nil⟩ (λx hx=>D0C hx) h Q1
def A5S.asc{l:List A0L}(h:A5S l):l.Pairwise λa b=>a.1<b.1:=by have h1:=h.1;have h2:=h.2;rw[Z1G]at h2|-;intro i j hi hj c;have:=h2 i j hi hj c;have:=h1 l[i] (Z0s hi);omega
def C8t{l:List A0L}(h0:∀x∈l,0<=x.1)(h:l.Pairwise λa b=>a.1<b.1):Asc l:=by unfold Asc A7t;refine List.Pairwise.filter _ ?_;rw[Z2E];refine h.imp_of_mem λ{a b} ha hb hab=>?_;have:=h0 a ha;have:=h0 b hb;simp only[A7e];omega
def B6Y(x:A0L):Asc [x]:=by
 unfold Asc;have:(A7t [x]).length<=1:=by have:=Z1q (λx:A0L=>decide (x.1<x.2)) ([x].map A7e);simpa[A7t]using this
 match h:A7t [x]with
 |[]=>exact .nil
 |[a]=>simp
 |a::b::l=>rw[h]at this;simp at this
def A5S.asc'{l:List A0L}(h:A5S l):Asc l:=C8t (λx hx=>(h.1 x hx).1) h.asc
def C0B:∀(l:List A0L) (k:Int),A5S l->0<=k->k<=A2T+1->(∀x∈l,k<=x.1)->(2*l.length:Nat)<=A2T+1-k
 |[],k,_,h0,h1,_=>by simp;omega
 |x::l,k,h,h0,h1,hk=>by have h2:=h.2;rw[Z1c]at h2;have hx:=h.1 x Q1;have a:=hk x Q1;have:=C0B l (x.2+1) ⟨λz hz=>h.1 z ZDS,h2.2⟩ Q0 Q0 (λz hz=>by have:=h2.1 z hz;omega);simp only[Z0r];omega
def A4U{l:List A0L}(h:A5S l):l.length<=524289:=by have hF:A2T=1048577:=rfl;have:=C0B l 0 h Q0 Q0 (λx hx=>(h.1 x hx).1);omega
def B8u:∀{l:List Int},l.Pairwise (·<=·)->(A2X l).Pairwise (·<·)/\(∀x∈A2X l,x∈l)
 |[],_=>by simp[A2X]
 |[x],_=>by simp[A2X]
 |x::y::l,h=>by
  rw[Z1c]at h;obtain⟨i1,i2⟩:=B8u h.2;rw[A2X];split
  .exact⟨i1,λz hz=>Z1v _ (i2 z hz)⟩
  .rename_i hne;refine⟨Z1c.2 ⟨λz hz=>?_,i1⟩,λz hz=>?_⟩
   .have a:=i2 z hz;have c:=h.1 y Q1;rcases Z0p.1 a with rfl|b
    .omega
    .have:=(Z1c.1 h.2).1 z b;omega
   .rcases Z0p.1 hz with rfl|hz
    .simp
    .exact Z1v _ (i2 z hz)
def B3p(c:Bool->Bool->Bool)(a b:List A0L):∀l:List Int,l.Pairwise (·<·)->(A3X c a b l).Pairwise (λx y=>x.1<y.1)/\∀x∈A3X c a b l,x.1∈l
 |[],_=>by simp[A3X]
 |[x],_=>by simp[A3X]
 |x::y::l,h=>by
  rw[Z1c]at h;obtain⟨i1,i2⟩:=B3p c a b (y::l) h.2;rw[A3X];split
  .refine⟨Z1c.2 ⟨λz hz=>h.1 _ (i2 z hz),i1⟩,λz hz=>?_⟩;rcases Z0p.1 hz with rfl|hz
   .simp
   .exact Z1v _ (i2 z hz)
  .exact⟨i1,λz hz=>Z1v _ (i2 z hz)⟩
def B9C(c:Bool->Bool->Bool)(a b:List A0L):∀l:List Int,(A3X c a b l).length<=l.length
 |[]=>by simp[A3X]
 |[x]=>by simp[A3X]
 |x::y::l=>by
  have:=B9C c a b (y::l);rw[A3X];split
  .simp only[Z0r]at this|-;omega
  .simp only[Z0r]at this|-;omega
def C9u(a b:AV):Prop:=∀f,obj a=some f->obj b≠some f
structure Arr {α:Type} (e sz:Nat) (enc:α->List AV) (n:Nat) (M:Mem) (v:AV) (l:List α):Prop where
 own:A1r e sz enc M v l
 lat:A1L n v
section
variable {α β:Type} {e e2 sz sz2 n:Nat} {enc:α->List AV} {enc2:β->List AV} {M M':Mem} {v v' u:AV} {l news:List α} {r:List β}
def Arr.nil:Arr e sz enc n M (.val (.slice none 0 0)) []:=⟨.nil,λf h=>by simp at h⟩
def Arr.keep(h:Arr e sz enc n M v l)(hk:Grow M M'):Arr e sz enc n M' v l:=⟨h.own.keep hk Q1,h.lat⟩
def Arr.later(h:Arr e sz enc n M v l)(hn:n<=M.length)(h3:obj v'=obj v\/A1L M.length v'):A1L n v':=λf hf=>by
 rcases h3 with h3|h3
 .exact h.lat f (h3▸hf)
 .have:=h3 f hf;omega
def Arr.grow{M0:Mem}(h:Arr e sz enc M0.length M v l)(hg:Grow M0 M)(hk:A0d (obj v) M M'):Grow M0 M':=⟨Z0J hg.1 hk.1,λi hi _=>by rw[hk.2 i (by have:=hg.1;omega) (λe=>by have:=h.lat _ e;omega)];exact hg.2 i hi Q1⟩
end
section
end
def D5b(n:Nat)(s:ByteArray):A1i n (A8m s):=by simp[A8m,A1i,bdd]
section
end
section
end
def D5Y(u:A0a):Bool:=if u.kind=0 then decide (u.label.size=0)&&decide (u.head.length=0)&&decide (u.words.length=0)else decide (0<u.kind/\u.kind<=7)&&A1z u.label&&A3o u.head&&A3o u.words
mutual
def D9o(d:Nat):A0a->Bool
 |.mk id k l h w ks=>!decide (8<d)&&!(decide (0<d)&&decide (k=0))&&D5Y (.mk id k l h w ks)&&decide (ks.length<=64)&&D5w k d ks []
def D5w(kind:Int)(d:Nat):List A0a->List A0a->Bool
 |[],_=>true
 |k::ks,before=>A4p kind k.kind&&D9o (d+1) k&&!(before.any λa=>A9f a k)&&D5w kind d ks (before++[k])
end
def B6K(t:ByteArray):ByteArray:=if A2t t 0=124\/A2t t 0=92 then⟨#[92]⟩++t else t
def B1b(s:ByteArray)(ws:List A0z):ByteArray:=ws.foldl (λs w=>s++⟨#[32]⟩++B6K w.text) s
def C3R(a b c:ByteArray):a++b++c=a++(b++c):=by apply ByteArray.ext;simp[ByteArray.data_append,Array.append_assoc]
def B4n:Nat->ByteArray
 |0=>⟨#[]⟩
 |d+1=>B4n d++⟨#[32,32]⟩
def A9w:List ByteArray:=[⟨#[98,111,111,107]⟩,⟨#[112,97,114,116]⟩,⟨#[115,101,99,116,105,111,110]⟩,⟨#[112,97,114,97,103,114,97,112,104]⟩,⟨#[116,97,98,108,101]⟩,⟨#[114,111,119]⟩,⟨#[99,101,108,108]⟩,⟨#[110,111,116,101]⟩]
def B2C(u:A0a)(d:Nat):ByteArray:=B4n d++A9w.getD u.kind.toNat ⟨#[]⟩
def A8O(u:A0a)(d:Nat):ByteArray:=if u.kind=0 then B2C u d else B2C u d++(⟨#[32]⟩++u.label)
def A7s(u:A0a)(d:Nat):ByteArray:=if u.head.length=0 then A8O u d else B1b (A8O u d++⟨#[58]⟩) u.head
def A6P(u:A0a)(d:Nat):ByteArray:=if u.words.length=0 then A7s u d else B1b (A7s u d++⟨#[32,124]⟩) u.words
mutual
def A5Z(d:Nat):A0a->List ByteArray
 |.mk id k l h w ks=>A6P (.mk id k l h w ks) d::A6e (d+1) ks
def A6e(d:Nat):List A0a->List ByteArray
 |[]=>[]
 |k::ks=>A5Z d k++A6e d ks
end
def A6K(l:List ByteArray):Nat:=(l.map λs=>s.size+1).foldr (·+·) 0
@[simp] def B1t(s:ByteArray)(l:List ByteArray):A6K (s::l)=s.size+1+A6K l:=(rfl)
@[simp] def D8R:A6K []=0:=(rfl)
def C7a(a b:List ByteArray):A6K (a++b)=A6K a+A6K b:=by
 induction a with
 |nil=>simp
 |cons s a ih=>simp[ih];omega
def D4U(t:ByteArray):(B6K t).size<=t.size+1:=by
 have e:(⟨#[92]⟩:ByteArray).size=1:=rfl;unfold B6K;split
 .rw[Z0M,e];omega
 .omega
def A9F:∀(ws:List A0z) (s:ByteArray),(∀w∈ws,w.text.size<=24)->(B1b s ws).size<=s.size+26*ws.length
 |[],s,_=>by simp[B1b]
 |w::ws,s,h=>by have h1:=A9F ws (s++⟨#[32]⟩++B6K w.text) λx hx=>h x (by simp[hx]);have h2:=h w Q1;have h3:=D4U w.text;have e:B1b s (w::ws)=B1b (s++⟨#[32]⟩++B6K w.text) ws:=rfl;have e2:(⟨#[32]⟩:ByteArray).size=1:=rfl;rw[e];simp only[Z0M,Z0r,e2]at h1|-;omega
def B3a:∀d,(B4n d).size=2*d
 |0=>rfl
 |d+1=>by have e2:(⟨#[32,32]⟩:ByteArray).size=2:=rfl;rw[B4n,Z0M,B3a d,e2];omega
section
variable {α β:Type} {sz sz2 n q:Nat} {enc:α->List AV} {enc2:β->List AV} {M M':Mem} {v v' u:AV} {l l':List α} {r:List β}
end
def A4E.setq{n q:Nat}{A B:Mem}(h:A4E n A B){X:A0m}(hq:n<=q):A4E n A (B.set q X):=⟨by simpa using h.1,λi hi=>by rw[Z0f Q0];exact h.2 i hi⟩
def A4E.grow{n:Nat}{M A B:Mem}(h:A4E n A B)(hg:Grow M A)(hn:M.length<=n):Grow M B:=⟨Z0J hg.1 h.1,λi hi _=>by rw[h.2 i Q0];exact hg.2 i hi Q1⟩
abbrev ouC(k:Int)(lab:ByteArray)(hv wv kv:AV):A0m:=.cells 31 [I 0,I 0,I 0,I k,S lab,hv,wv,kv]
abbrev z8:A0m:=ouC 0 ⟨#[]⟩ A0C A0C A0C
section
variable (gl:Nat->AV)
end
def A4H(n:Nat)(w:A0z):A1i n w.row:=by simp[A0z.row,A1i,bdd]
section
variable (gl:Nat->AV)
end
def D8r(w:A0z):Prop:=w.act=0/\w.item=0/\w.at_=0
mutual
def B7h:A0a->Prop
 |.mk id _ _ h w ks=>id=idZ/\(∀x∈h,D8r x)/\(∀x∈w,D8r x)/\B7w ks
def B7w:List A0a->Prop
 |[]=>True
 |k::ks=>B7h k/\B7w ks
end
mutual
def C4I:∀u:A0a,B7h u->∀x∈A0V u,x=idZ
 |.mk id _ _ _ _ ks,h,x,hx=>by
  rw[B7h]at h;rw[A0V]at hx;rcases Z0p.1 hx with rfl|hx
  .exact h.1
  .exact C1G ks h.2.2.2 x hx
def C1G:∀ks:List A0a,B7w ks->∀x∈A2Y ks,x=idZ
 |[],_,x,hx=>by rw[A2Y]at hx;simp at hx
 |k::ks,h,x,hx=>by
  rw[B7w]at h;rw[A2Y]at hx;rcases Z0N.1 hx with hx|hx
  .exact C4I k h.1 x hx
  .exact C1G ks h.2 x hx
end
def D1D{u:A0a}(h:B7h u):C2g u=true:=by rw[D2g];unfold D9G;rw[show(A0V u).all (λx=>decide (x=idZ))=true from Z0D.2 λx hx=>Z0A (C4I u h x hx)];rfl
def B0O(u:A0a):Bool:=A1u u&&decide (A1m u<=8)&&decide (A0y u<=1024)
def B9I{u:A0a}(h:B7h u):B0z u=B0O u:=by rw[B0z,D1D h,Bool.and_true,B1P];rfl
def A7H:A0a->A0a
 |.mk _ k l h w _=>.mk idZ k l h w []
def C9M{u:A0a}(h:A2R u=true):B0O (A7H u)=true:=by
 obtain⟨a,b,c,d,e,f⟩:=u;have h2:A2R (.mk idZ b c d e [])=true:=by unfold A2R at h|-;simp only[Z0h,Z0n]at h|-;exact⟨⟨⟨⟨h.1.1.1.1,by simp[A0a.kids]⟩,h.1.1.2⟩,h.1.2⟩,h.2⟩
 simp only[A7H,B0O,A1u,A4o,h2,A1m,A1P,A0y,A0I];rfl
def C4V(u:A0a):Int:=if B0O u=true then if 16384<A6K (A5Z 0 u)then 6 else 0 else 1
def A3G{α:Type}(e sz:Nat)(enc:α->List AV)(n:Nat)(M:Mem)(v:AV)(l:List α):Prop:=(v=.list sz [] .no/\l=[])\/Arr e sz enc n M v l
section
variable {α:Type} {e sz n:Nat} {enc:α->List AV} {M M':Mem} {v:AV} {l:List α}
def A3G.store(h:A3G e sz enc n M v l):v.storable=true:=by
 rcases h with⟨rfl,rfl⟩|h
 .rfl
 .exact h.own.store
def A3G.cells(h:A3G e sz enc n M v l):v.cells=[v]:=by
 rcases h with⟨rfl,rfl⟩|h
 .rfl
 .exact h.own.cells
def A3G.len(h:A3G e sz enc n M v l){P:Program}{t e':TypeId}(ht:P.underlying t=some (.slice e')):A3k P t v=some l.length:=by
 rcases h with⟨rfl,rfl⟩|h
 .simp[A3k,ht]
 .exact h.own.len ht
def A3G.keep(h:A3G e sz enc n M v l)(hk:Grow M M'):A3G e sz enc n M' v l:=by
 rcases h with h|h
 .exact .inl h
 .exact .inr (h.keep hk)
def A3G.stay(h:A3G e sz enc n M v l)(hk:∀f,obj v=some f->M'[f]?=M[f]?):A3G e sz enc n M' v l:=by
 rcases h with h|⟨h1,h2⟩
 .exact .inl h
 .refine .inr ⟨?_,h2⟩;rcases h1 with h1|⟨f,g,a,rfl,hm,hl⟩
  .exact .inl h1
  .exact .inr ⟨f,g,a,rfl,by rw[hk f rfl];exact hm,hl⟩
def A3G.still(h:A3G e sz enc n M v l)(he:∀x,(enc x).length=sz)(hb:∀n x,A1i n (enc x)){cs ds:List AV}(hr:Still M n (bdd n) cs ds):Still M n (bdd n) (v::cs) (.list sz (l.map enc) .no::ds):=by
 rcases h with⟨rfl,rfl⟩|h
 .exact .same (by simp[bdd,A4n]) hr
 .exact Still.append (a:=[v]) (b:=[.list sz (l.map enc) .no]) (A3i he hb h.own h.lat) hr
end
def A3G.lat{α:Type}{e sz n:Nat}{enc:α->List AV}{M:Mem}{v:AV}{l:List α}(h:A3G e sz enc n M v l):A1L n v:=by
 rcases h with⟨rfl,rfl⟩|h
 .intro f hf;simp[obj]at hf
 .exact h.lat
def A3G.lt{α:Type}{e sz n:Nat}{enc:α->List AV}{M:Mem}{v:AV}{l:List α}(h:A3G e sz enc n M v l){f:Nat}(hf:obj v=some f):f<M.length:=by
 rcases h with⟨rfl,rfl⟩|h
 .simp[obj]at hf
 .exact h.own.lt hf
def A3G.weak{α:Type}{e sz n m:Nat}{enc:α->List AV}{M:Mem}{v:AV}{l:List α}(h:A3G e sz enc n M v l)(hm:m<=n):A3G e sz enc m M v l:=by
 rcases h with h|⟨h1,h2⟩
 .exact .inl h
 .exact .inr ⟨h1,λf hf=>by have:=h2 f hf;omega⟩
def Arr.stay{α:Type}{e sz n:Nat}{enc:α->List AV}{M M':Mem}{v:AV}{l:List α}(h:Arr e sz enc n M v l)(hk:∀f,obj v=some f->M'[f]?=M[f]?):Arr e sz enc n M' v l:=by
 obtain⟨h1,h2⟩:=h;refine⟨?_,h2⟩;rcases h1 with h1|⟨f,g,a,rfl,hm,hl⟩
 .exact .inl h1
 .exact .inr ⟨f,g,a,rfl,by rw[hk f rfl];exact hm,hl⟩
abbrev A3C(u:A0a)(kv:AV):List AV:=[I u.id.act,I u.id.item,I u.id.n,I u.kind,S u.label,.list 4 (A0i u.head) .no,.list 4 (A0i u.words) .no,kv]
def B9Y(ks:List A0a)(kv:AV):Prop:=kv=.list 8 (A0t ks) .no\/(ks=[]/\kv=A0C)
def B9Y.len{ks:List A0a}{kv:AV}(h:B9Y ks kv):A3k prog 25 kv=some ks.length:=by rcases h with rfl|⟨rfl,rfl⟩<;>simp
def B9Y.store{ks:List A0a}{kv:AV}(h:B9Y ks kv):kv.storable=true:=by rcases h with rfl|⟨rfl,rfl⟩<;>rfl
def B9Y.cells{ks:List A0a}{kv:AV}(h:B9Y ks kv):kv.cells=[kv]:=by rcases h with rfl|⟨rfl,rfl⟩<;>rfl
structure D3c (M:Mem) (u:A0a) (hv wv kv:AV) (M':Mem):Prop where
 grow:Grow M M'
 h:A3G 259 4 A0z.row M.length M' hv u.head
 w:A3G 259 4 A0z.row M.length M' wv u.words
 k:Arr 31 8 A0a.row M.length M' kv u.kids
 a12:C9u hv wv
 a13:C9u hv kv
 a23:C9u wv kv
abbrev D3U(u:A0a)(hv wv kv:AV):List AV:=[I u.id.act,I u.id.item,I u.id.n,I u.kind,S u.label,hv,wv,kv]
def D3c.still{M M':Mem}{u:A0a}{hv wv kv:AV}(h:D3c M u hv wv kv M'):Grow M M'/\Still M' M.length (bdd M.length) [.agg (D3U u hv wv kv)] [.agg u.row]:=by refine⟨h.grow,?_⟩;rw[u.row_eq,A3h];exact .agg (.same trivial (.same trivial (.same trivial (.same trivial (.same trivial (h.h.still (λ_=>rfl) A4H (h.w.still (λ_=>rfl) A4H (A3i A0a.row_len A1F h.k.own h.k.lat)))))))) .nil
def hCp:A2r:=⟨λd=>d !=1,λ_=>false,λd=>d==25⟩
@[simp] def E4K:hCp.imm=λd=>d !=1:=(rfl)
@[simp] def E3j:hCp.own=λ_=>false:=(rfl)
@[simp] def E4o:hCp.vec=λd=>d==25:=(rfl)
section
variable (gl:Nat->AV)
def C1z(l:List A0z)(M:Mem)(hl:l.length<=1000000000):A0c (WC gl) 211 [.list 4 (A0i l) .no] M (λv M'=>A1r 259 4 A0z.row M' v l/\Grow M M'/\A1L M.length v):=by
 refine A1f hW func211 rfl rfl rfl rfl rfl rfl ?_;have tail:∀(K:AV->Mem->Prop) (tg:Tag K),(∀v M',(A1r 259 4 A0z.row M' v l/\Grow M M'/\A1L M.length v)->K v M')->A3s (WC gl) (A2e hW.own (some 7)) (A2e hW.vec (some 7)) 29 29 (.vref M.length 0 4 0 0) (.list 4 (A0i l) .no) (M++[.vec 259 4 [] 0 [(0,0)]]) K tg:=by intro K tg hk;have ho:A1r 259 4 A0z.row (M++[.vec 259 4 [] 0 [(0,0)]]) (.vref M.length 0 4 0 0) []:=.inr ⟨M.length,0,[(0,0)],rfl,Q1,ZAQ⟩;refine A3B (C:=WC gl) (enc:=A0z.row) (e:=259) (sz:=4) (news:=l) B9K C8M C2M (λ_=>rfl) ho (by simp[A0D,A0i,List.flatMap]) ZAB rfl ?_;intro v' M' h1 h2 h3 _;obtain⟨r1,r2⟩:=A3f (X:=[]) (A0d.app none M [.vec 259 4 [] 0 [(0,0)]]) (v:=.vref M.length 0 4 0 0) (λf hf=>by simp at hf;omega) ZAU ZBR;exact hk _ _ ⟨h1,r1,r2⟩
 cases l with
 |nil=>
  simp -dsimp[A0i];rw[A5B (.inl rfl) underlying29];intro b;cases b
  .simp -dsimp[A1C,A1g];refine tail _ _ λv M' h=>?_;simp -dsimp;exact h
  .simp -dsimp;exact⟨.nil,A0d.refl _ _,λf h=>by simp at h⟩
 |cons a l=>simp -dsimp[A0i,A1C,A1g];refine tail _ _ λv M' h=>?_;simp -dsimp;exact h
def B7L(l:List A0z)(M:Mem)(hl:l.length<=1000000000):∃r M1,A0c (WC gl) 211 [.list 4 (A0i l) .no] M (λv M'=>v=r/\M'=M1)/\Grow M M1/\A3G 259 4 A0z.row M.length M1 r l/\M1.length<=M.length+1:=by
 by_cases h:l=[]
 .exact⟨_,_,A0c.still (enc:=A0z.row) (λ_=>rfl) A4H (C1z gl l M hl),Grow.refl _,.inl ⟨by rw[h];rfl,h⟩,Q0⟩
 .exact⟨_,_,A0c.repack (enc:=A0z.row) (λ_=>rfl) A4H h (C1z gl l M hl),A0d.app none _ _,.inr ⟨.inr ⟨M.length,0,[(0,l.length)],rfl,Q1,ZAQ⟩,λf hf=>by simp at hf;omega⟩,Q1⟩
set_option maxHeartbeats 1000000 in
def B5q:∀(u:A0a) (kv:AV) (M:Mem),B9Y u.kids kv->u.good->u.lims->A0y u<=3000->
 A0c (WC gl) 126 [.agg (A3C u kv)] M (λv M'=>∃hv wv kw,v=.agg (D3U u hv wv kw)/\D3c M u hv wv kw M')
 |.mk id kind lab hd ws ks,kv,M,t,hg,hlm,hc=>by
  obtain⟨_,_,bl,_,be,_,bg,bc,ae⟩:=(A0a.good_iff _).1 hg;have ae:∀k∈ks,k.good:=ae;obtain⟨⟨aq,al,bm,-⟩,ag⟩:=A4c _ hlm;have aq:hd.length<=100000000:=aq;have al:ws.length<=100000000:=al;have ag:=A4l.1 ag;have bk:1+A0I ks<=3000:=ZDP
  have au:=A2D ks;have t:B9Y ks kv:=t;have b1:A3C (.mk id kind lab hd ws ks) kv=[I id.act,I id.item,I id.n,I kind,S lab,.list 4 (A0i hd) .no,.list 4 (A0i ws) .no,kv]:=rfl;have b2:∀a b c,D3U (.mk id kind lab hd ws ks) a b c=[I id.act,I id.item,I id.n,I kind,S lab,a,b,c]:=λ_ _ _=>rfl;rw[b1];simp only[b2];refine A1f hCp func126 rfl rfl rfl rfl rfl rfl ?_;obtain⟨b,hb⟩:=ex (M.length);obtain⟨M1,r⟩:=ex (M++[A0m.cells 31 [I id.act,I id.item,I id.n,I kind,S lab,.list 4 (A0i hd) .no,.list 4 (A0i ws) .no,kv],z8]);have a4:M1[b]?=some (A0m.cells 31 [I id.act,I id.item,I id.n,I kind,S lab,.list 4 (A0i hd) .no,.list 4 (A0i ws) .no,kv]):=by rw[r,hb];simp
  have an:M1[b+1]?=some z8:=by rw[r,hb];simp[Z0Z]
  have a3:Grow M M1:=by rw[r];exact A0d.app none _ _
  have b7:M1.length=b+2:=by rw[r,hb];simp
  have bi:=t.store;have bj:=t.cells;simp -dsimp[A0j];rw[<-r,<-hb];clear r;obtain⟨hv,M2,b0,l,d,b8⟩:=B7L gl hd M1 Q0;obtain⟨wv,M3,ax,s,o,ba⟩:=B7L gl ws M2 Q0;have a2:=l.get a4 Q1;have a5:=s.get a2 Q1;have aa:M2[b]?=M1[b]?:=by rw[a4,a2]
  have a9:M3[b]?=M2[b]?:=by rw[a2,a5]
  have a8:b<M3.length:=(Z0a.1 a5).1;have ab:A0k (some 1) M3 (.ptr b 5) hv=some (M3.set b (.cells 31 [I id.act,I id.item,I id.n,I kind,S lab,hv,.list 4 (A0i ws) .no,kv])):=by rw[A0f a5,d.cells,Z0c ⟨d.store,Q1,rfl⟩];rfl
  have ac:(M3.set b (.cells 31 [I id.act,I id.item,I id.n,I kind,S lab,hv,.list 4 (A0i ws) .no,kv]))[b]?=some (.cells 31 [I id.act,I id.item,I id.n,I kind,S lab,hv,.list 4 (A0i ws) .no,kv]):=by simp[a8]
  have ad:A0k (some 1) (M3.set b (.cells 31 [I id.act,I id.item,I id.n,I kind,S lab,hv,.list 4 (A0i ws) .no,kv])) (.ptr b 6) wv=some (M3.set b (.cells 31 [I id.act,I id.item,I id.n,I kind,S lab,hv,wv,kv])):=by rw[A0f ac,o.cells,Z0c ⟨o.store,Q1,rfl⟩,Z2q];rfl
  refine A7r hCp (A0B gl) (λk=>if k=1\/k=4 then 1 else if k=2\/k=5\/k=7\/k=9 then 2 else 0) (λ_=>b) (λ_ k=>k==7||k==9) (λk=>if k=7\/k=9 then[]else[b]) (by intro i k _ h;simp at h;simp[h]) (by rfl) Q2 ?_;simp -dsimp[A0b a4,A1e,A5t];refine A5R (A0l func211 rfl rfl b0) ?_;refine⟨by simpa using aa,?_⟩;simp -dsimp[A0b a2,A1e,A5t];refine A5R (A0l func211 rfl rfl ax) ?_;refine⟨by simpa using a9,?_⟩;simp -dsimp[ab,ad];obtain⟨M4,w⟩:=ex (M3.set b (.cells 31 [I id.act,I id.item,I id.n,I kind,S lab,hv,wv,kv]));have p:∀f,f≠b->M4[f]?=M3[f]?:=λf hf=>by rw[w,Z0f (λe=>hf e.symm)]
  have ay:M4[b]?=some (.cells 31 [I id.act,I id.item,I id.n,I kind,S lab,hv,wv,kv]):=by rw[w];simp[a8]
  have b5:M4[b+1]?=some z8:=by rw[p _ Q0];exact s.get (l.get an Q1) Q1
  have bf:M4.length=M3.length:=by rw[w];simp
  have e1:=((d.keep s).stay (M':=M4) (λf hf=>p f (by have:=d.lat f hf;omega))).weak (m:=M.length) (by have:=a3.1;omega);have e2:=(o.stay (M':=M4) (λf hf=>p f (by have:=o.lat f hf;have:=l.1;omega))).weak (m:=M.length) (by have:=a3.1;have:=l.1;omega);have ap:C9u hv wv:=λf h1 h2=>by have:=d.lt h1;have:=o.lat f h2;omega
  have a1:Grow M M4:=⟨by have:=a3.1;have:=l.1;have:=s.1;omega,λj hj _=>by rw[p j Q0];exact((a3.trans l).trans s).2 j hj Q1⟩;have a6:=d.lat;have a7:=o.lat;have bd:=d.store;have bb:=l.1;have b9:b+2<=M4.length:=by have:=s.1;omega
  rw[<-w];clear w ab ad ac a5 a2 aa a9 a4 an b0 ax d o;have au:=t.len;simp -dsimp[A0b ay,au];refine A0M hCp (λT M5=>∃i:Nat,i<=ks.length/\T 1=.ptr b 0/\T 2=.ptr (b+1) 0/\T 15=kv/\T 16=I ks.length/\T 17=I i/\Grow M4 M5/\Arr 31 8 A0a.row M4.length M5 (T 3) (ks.take i)) (λT M1=>match T 17 with|.val (.int _ i)=>ks.length-i.toNat|_=>0) Q2 ?_ ?_
  .refine⟨0,Q0,Q1,Q1,Q1,Q1,Q1,A0d.refl _ _,?_⟩;simp -dsimp;exact .nil
  rintro T M5 ⟨i,i1,t1,t2,y,x,a0,g,hf⟩;generalize am:T 3=ov at*;by_cases hi:i<ks.length;case neg=>
   have af:¬(i:Int)<ks.length:=Q0;rw[Z0e Q0]at hf;have av:=g.get ay Q1;have ak:=g.get b5 Q1;have ao:b<M5.length:=(Z0a.1 av).1;have aw:b+1<M5.length:=(Z0a.1 ak).1;(have az:A0k (some 1) M5 (.ptr b 7) ov=some (M5.set b (.cells 31 [I id.act,I id.item,I id.n,I kind,S lab,hv,wv,ov])):=by rw[A0f av,hf.own.cells,Z0c ⟨hf.own.store,Q1,rfl⟩];rfl);(have b3:(M5.set b (.cells 31 [I id.act,I id.item,I id.n,I kind,S lab,hv,wv,ov]))[b]?=some (.cells 31 [I id.act,I id.item,I id.n,I kind,S lab,hv,wv,ov]):=by simp[ao]);(have b6:(M5.set b (.cells 31 [I id.act,I id.item,I id.n,I kind,S lab,hv,wv,ov]))[b+1]?=some z8:=by rw[Z0f Q0];exact ak);simp -dsimp[t1,t2,y,x,a0,af,am,az,A0b b3,A0f b6,A0u,aw];refine⟨hv,wv,ov,⟨rfl,rfl,rfl⟩,?_⟩;(have hs:∀X Y f,f≠b->f≠b+1->((M5.set b X).set (b+1) Y)[f]?=M5[f]?:=λX Y f h1 h2=>by rw[Z0f Q0,Z0f Q0]);refine⟨⟨by have:=a1.1;have:=g.1;simp;omega,λj hj _=>by rw[hs _ _ j Q0 Q0];exact(a1.trans g).2 j hj Q1⟩,?_,?_,?_,ap,?_,?_⟩
   .exact(e1.keep g).stay λf h=>hs _ _ f (by have:=a6 f h;omega) (by have:=a6 f h;omega)
   .exact(e2.keep g).stay λf h=>hs _ _ f (by have:=a7 f h;omega) (by have:=a7 f h;omega)
   .have ar:=hf.stay (M':=(M5.set b (.cells 31 [I id.act,I id.item,I id.n,I kind,S lab,hv,wv,ov])).set (b+1) (.cells 31 [I id.act,I id.item,I id.n,I kind,S lab,hv,wv,ov])) (λf h=>hs _ _ f (by have:=hf.lat f h;omega) (by have:=hf.lat f h;omega));exact⟨ar.own,λf h=>by have:=ar.lat f h;have:=a1.1;omega⟩
   .intro f h1 h2;have:=e1.lt h1;have:=hf.lat f h2;omega
   .intro f h1 h2;have:=e2.lt h1;have:=hf.lat f h2;omega
  have af:(i:Int)<ks.length:=Q0;have w1:=A1O (i:=i) Q0;have q:ks[i]∈ks:=Z0s hi;have bh:=A3O q;rcases t with rfl|⟨rfl,_⟩;case inr=>simp at hi
  obtain⟨M6,aj⟩:=ex (M5++[A0m.cells 31 ks[i].row]);have ai:Grow M5 M6:=by rw[aj];exact A0d.app none _ _
  have b4:M6[M5.length]?=some (A0m.cells 31 ks[i].row):=by rw[aj];simp
  have:=A0a.kid_lt (u:=.mk id kind lab hd ws ks) q;have z:=A0c.dataX ((B5q ks[i] (.list 8 (A0t ks[i].kids) .no) M6 (.inl rfl) (ae _ q) (ag _ q) Q0).mono λv M' ⟨hv,wv,kw,e,h⟩=>by subst e;exact h.still);rw[show A3C ks[i] (.list 8 (A0t ks[i].kids) .no)=ks[i].row from(ks[i].row_eq).symm]at z;have ah:=hf.keep ai;simp -dsimp[t1,t2,y,x,a0,hi,af,A0j,A0k,A0e,AV.storable,AV.cells];rw[<-aj];simp -dsimp[t1,t2,y,x,a0,A0b b4];refine A0s (A0l func126 rfl rfl z) ?_;rintro _ M6 ⟨rfl,rfl⟩;simp -dsimp[t1,t2,y,x,a0,am,A0x,A1g,AV.storable,AV.cells];refine A3B (C:=WC gl) (enc:=A0a.row) (e:=31) (sz:=8) (news:=[ks[i]]) A8p B2D B1H A0a.row_len ah.own ZDC ZAB rfl ?_;intro v' M7 q1 q2 q3 _;simp -dsimp[t1,t2,y,x,a0,w1];refine⟨⟨i+1,Q3,rfl,ah.grow (g.trans ai) q2,?_⟩,Q3⟩;rw[Z1s hi];exact⟨q1,ah.later (g.trans ai).1 q3⟩
termination_by u=>SizeOf.sizeOf u
end
section
def hSt:A2r:=⟨λd=>d !=1,λ_=>false,λ_=>false⟩
@[simp] def E2V:hSt.imm=λd=>d !=1:=(rfl)
@[simp] def E2W:hSt.vec=λ_=>false:=(rfl)
def C2l:A1b prog 348=some 29:=Q2
attribute [simp] underlying348 C2l
def D2z{n m:Nat}{M:Mem}{hv wv:AV}{a b:List A0z}(h:A3G 259 4 A0z.row n M hv a)(w:A3G 259 4 A0z.row m M wv b):A0x prog 348 2 [(0,hv),(1,wv)]=some (.list 1 [[hv],[wv]] .full):=by rcases h with⟨rfl,_⟩|⟨⟨rfl,_⟩|⟨f,g,hist,rfl,_,_⟩,_⟩<;>rcases w with⟨rfl,_⟩|⟨⟨rfl,_⟩|⟨f2,g2,c,rfl,_,_⟩,_⟩<;>simp[A0x,C2l,A1g]
def C4o:A0A prog 257 []=some (.agg [I 0,I 0,I 0]):=by simp[A0A,A1l]
def A2K(w:A0z):A0z:=⟨w.text,0,0,0⟩
mutual
def A2u:A0a->A0a
 |.mk _ k l h w ks=>.mk idZ k l (h.map A2K) (w.map A2K) (A3I ks)
def A3I:List A0a->List A0a
 |[]=>[]
 |k::ks=>A2u k::A3I ks
end
def A8s:∀ks:List A0a,A3I ks=ks.map A2u
 |[]=>by simp[A3I]
 |k::ks=>by simp[A3I,A8s ks]
def A7Q{α:Type}(f:α->α)(i:Nat)(l:List α):List α:=(l.take i).map f++l.drop i
section
variable {α:Type} {f:α->α} {i:Nat} {l:List α}
@[simp] def B3A:(A7Q f i l).length=l.length:=by simp[A7Q];omega
@[simp] def D9Y:A7Q f 0 l=l:=by simp[A7Q]
@[simp] def D2J:A7Q f l.length l=l.map f:=by simp[A7Q]
def C5G(h:i<l.length):(A7Q f i l)[i]'ZAJ=l[i]:=by simp[A7Q,List.getElem_append,Z1F (Z4t h)]
def C5D(h:i<l.length):(A7Q f i l).set i (f l[i])=A7Q f (i+1) l:=by
 unfold A7Q;rw[Z3Q _ _ ZAB,show i-((l.take i).map f).length=0 by simp;omega]
 conv=>lhs;rw[Z0m h]
 rw[Z4f,Z1s h,Z1f,Z0F];rfl
end
def D0i{n:Nat}{M:Mem}{v:AV}{l:List A0z}(h:Arr 259 4 A0z.row n M v l){i:Nat}(hi:i<l.length):∃f g M',v=.vref f g 4 0 l.length/\A0k (some 3) M (.vptr f g (i*4+1)) (.agg [I 0,I 0,I 0])=some M'/\Arr 259 4 A0z.row n M' v (l.set i (A2K l[i]))/\M'.length=M.length/\∀j,j≠f->M'[j]?=M[j]?:=by
 obtain⟨h1,h2⟩:=h
 rcases h1 with⟨rfl,rfl⟩|⟨f,g,a,rfl,hm,hl⟩
 .simp at hi
 have hlt:f<M.length:=(Z0a.1 hm).1
 have b:A0e (l.flatMap A0z.row) (i*4+1) [I 0,I 0,I 0]=(l.set i (A2K l[i])).flatMap A0z.row:=by
  rw[Z2r,Z0c hi,Z1n,Z0y];have e1:(l.take i).flatMap A0z.row=(l.flatMap A0z.row).take (i*4):=(A7b (enc:=A0z.row) (sz:=4) (λ_=>rfl) _ _).symm;have e2:(l.drop (i+1)).flatMap A0z.row=(l.flatMap A0z.row).drop ((i+1)*4):=(A3q (enc:=A0z.row) (sz:=4) (λ_=>rfl) _ _).symm;have e3:(l.flatMap A0z.row).take (i*4+1)=(l.flatMap A0z.row).take (i*4)++[S l[i].text]:=by rw[List.take_add,A3q (enc:=A0z.row) (sz:=4) (λ_=>rfl),Z0m hi,Z0y];rfl
  rw[e1,e2,A0e,e3];simp only[Z0F,Z0Q,Z1y,Z0r,Z1p];rw[show(i+1)*4=i*4+1+(0+1+1+1)by omega];rfl
 refine⟨f,g,M.set f (.vec 259 4 ((l.set i (A2K l[i])).flatMap A0z.row) g (A0Q 4 g (i*4+1) a)),rfl,?_,⟨.inr ⟨f,g,A0Q 4 g (i*4+1) a,Q1,ZDE,?_⟩,h2⟩,Q1,λj hj=>Z0f Q0⟩
 .simp only[A0k,hm,hl];rw[Z0c ZAB];simp only[AV.cells];rw[b]
 .unfold A0Q;rw[Z1Q];exact A3K _ hl
def D0H{n:Nat}{M:Mem}{v:AV}{l:List A0a}(h:Arr 31 8 A0a.row n M v l){i:Nat}(hi:i<l.length)(y:A0a):∃f g M',v=.vref f g 8 0 l.length/\A0E prog 31 M (.vptr f g (i*8))=some (.agg l[i].row)/\A0k (some 8) M (.vptr f g (i*8)) (.agg y.row)=some M'/\Arr 31 8 A0a.row n M' v (l.set i y)/\M'.length=M.length/\∀j,j≠f->M'[j]?=M[j]?:=by
 obtain⟨h1,h2⟩:=h
 have b:=h1.at_ (P:=prog) (t:=31) A0a.row_len D2q D0r hi
 rcases h1 with⟨rfl,rfl⟩|⟨f,g,a,rfl,hm,hl⟩
 .simp at hi
 have hlt:f<M.length:=(Z0a.1 hm).1
 have c:=B0X (enc:=A0a.row) A0a.row_len l i y hi
 refine⟨f,g,M.set f (.vec 31 8 ((l.set i y).flatMap A0a.row) g (A0Q 8 g (i*8) a)),rfl,?_,?_,⟨.inr ⟨f,g,A0Q 8 g (i*8) a,Q1,ZDE,?_⟩,h2⟩,Q1,λj hj=>Z0f Q0⟩
 .obtain⟨p,e1,_,e2,_⟩:=b;simp[hi]at e1;rw[<-e1]at e2;exact e2
 .simp only[A0k,hm,hl];rw[Z0c ZCB];simp only[AV.cells];rw[c]
 .unfold A0Q;rw[Z1Q];exact A3K _ hl
mutual
def B3i:∀u:A0a,B7h (A2u u)
 |.mk id k l h w ks=>by
  rw[A2u,B7h];refine⟨rfl,λx hx=>?_,λx hx=>?_,B6n ks⟩
  .obtain⟨y,_,rfl⟩:=Z0C.1 hx;exact⟨rfl,rfl,rfl⟩
  .obtain⟨y,_,rfl⟩:=Z0C.1 hx;exact⟨rfl,rfl,rfl⟩
def B6n:∀ks:List A0a,B7w (A3I ks)
 |[]=>by rw[A3I,B7w];trivial
 |k::ks=>by rw[A3I,B7w];exact⟨B3i k,B6n ks⟩
end
mutual
def B1g:∀u:A0a,A0y (A2u u)=A0y u
 |.mk id k l h w ks=>by rw[A2u,A0y,A0y,B4p ks]
def B4p:∀ks:List A0a,A0I (A3I ks)=A0I ks
 |[]=>by rw[A3I]
 |k::ks=>by rw[A3I,A0I,A0I,B1g k,B4p ks]
end
mutual
def B6g:∀u:A0a,A1m (A2u u)=A1m u
 |.mk id k l h w ks=>by rw[A2u,A1m,A1m,B3C ks]
def B3C:∀ks:List A0a,A1P (A3I ks)=A1P ks
 |[]=>by rw[A3I]
 |k::ks=>by rw[A3I,A1P,A1P,B6g k,B3C ks]
end
def D1I(l:List A0z):A3o (l.map A2K)=A3o l:=by simp only[A3o,Z0W,List.all_map];rfl
def B2b(u:A0a):(A2u u).kind=u.kind/\(A2u u).label=u.label/\(A2u u).head=u.head.map A2K/\(A2u u).words=u.words.map A2K/\(A2u u).kids=u.kids.map A2u:=by obtain⟨a,b,c,d,e,f⟩:=u;rw[A2u,A8s];exact⟨rfl,rfl,rfl,rfl,rfl⟩
def C3t(u:A0a):A2R (A2u u)=A2R u:=by obtain⟨h1,h2,h3,h4,h5⟩:=B2b u;simp only[A2R,h1,h2,h3,h4,h5,Z0W,D1I]
def D4G(a b:A0a):A9f (A2u a) (A2u b)=A9f a b:=by simp only[A9f,(B2b a).1,(B2b a).2.1,(B2b b).1,(B2b b).2.1]
mutual
def B6z:∀u:A0a,A1u (A2u u)=A1u u
 |.mk id k l h w ks=>by have h1:=C3t (.mk id k l h w ks);have h2:=B3O ks k [];rw[A2u]at h1;rw[A2u,A1u,A1u,h1];rw[Z1N]at h2;rw[h2]
def B3O:∀(ks:List A0a) (p:Int) (b:List A0a),A4o p (A3I ks) (b.map A2u)=A4o p ks b
 |[],p,b=>by rw[A3I,A4o,A4o]
 |k::ks,p,b=>by have h2:=B3O ks p (b++[k]);rw[Z1f,List.map_singleton]at h2;rw[A3I,A4o,A4o,(B2b k).1,B6z k,h2,List.any_map];congr 3;simp only[Z4m,D4G]
end
def B6s(u:A0a):B0O (A2u u)=B0O u:=by simp only[B0O,B6z,B6g,B1g]
def B5N{l:List A0z}(h:∀w∈l,w.good):∀w∈l.map A2K,w.good:=by intro w hw;obtain⟨y,hy,rfl⟩:=Z0C.1 hw;exact⟨(h y hy).1,by simp[A2K,inI],by simp[A2K,inI],by simp[A2K,inI]⟩
mutual
def B9U:∀u:A0a,u.good->(A2u u).good
 |.mk id k l h w ks,hg=>by rw[A0a.good]at hg;obtain⟨g1,g2,g3,g4,g5,g6,g7,g8,g9⟩:=hg;rw[A2u,A0a.good];exact⟨by simp[IdD.good,idZ,inI],g2,g3,by simpa using g4,B5N g5,by simpa using g6,B5N g7,by rw[A8s];simpa using g8,B5U ks g9⟩
def B5U:∀ks:List A0a,B2A ks->B2A (A3I ks)
 |[],_=>by rw[A3I,B2A];trivial
 |k::ks,hg=>by rw[B2A]at hg;rw[A3I,B2A];exact⟨B9U k hg.1,B5U ks hg.2⟩
end
section
variable (gl:Nat->AV)
set_option maxHeartbeats 1000000 in
def B8D:∀(u:A0a) (kv:AV) (M:Mem),B9Y u.kids kv->u.good->u.lims->A0y u<=3000->
 A0c (WC gl) 309 [.agg (A3C u kv)] M (λv M'=>v=.agg (A2u u).row/\M'=M)
 |.mk id kind lab hd ws ks,kv,M,ae,hg,hlm,hc=>by
  obtain⟨_,_,c1,_,bs,_,bt,bq,ap⟩:=(A0a.good_iff _).1 hg;have ap:∀k∈ks,k.good:=ap;obtain⟨⟨b8,b3,c2,-⟩,aw⟩:=A4c _ hlm;have b8:hd.length<=100000000:=b8;have b3:ws.length<=100000000:=b3;have aw:=A4l.1 aw;have c0:1+A0I ks<=3000:=ZDP
  have bw:=A2D ks;have ae:B9Y ks kv:=ae;refine A0c.dataX ?_;have b1:A3C (.mk id kind lab hd ws ks) kv=[I id.act,I id.item,I id.n,I kind,S lab,.list 4 (A0i hd) .no,.list 4 (A0i ws) .no,kv]:=rfl;have bg:∀a b c,D3U (.mk id kind lab hd ws ks) a b c=[I id.act,I id.item,I id.n,I kind,S lab,a,b,c]:=λ_ _ _=>rfl;rw[b1];refine A1f hSt func309 rfl rfl rfl rfl rfl rfl ?_;obtain⟨b,hb⟩:=ex (M.length);obtain⟨M1,a5⟩:=ex (M++[A0m.cells 31 [I id.act,I id.item,I id.n,I kind,S lab,.list 4 (A0i hd) .no,.list 4 (A0i ws) .no,kv],z8]);have aa:M1[b]?=some (A0m.cells 31 [I id.act,I id.item,I id.n,I kind,S lab,.list 4 (A0i hd) .no,.list 4 (A0i ws) .no,kv]):=by rw[a5,hb];simp
  have b6:M1[b+1]?=some z8:=by rw[a5,hb];simp[Z0Z]
  have bb:Grow M M1:=by rw[a5];exact A0d.app none _ _
  have bo:M1.length=b+2:=by rw[a5,hb];simp
  have bx:=ae.store;have bz:=ae.cells;have ah:=B5q gl (.mk id kind lab hd ws ks) kv M1 ae hg hlm hc;rw[b1]at ah;simp only[bg]at ah;simp -dsimp[A0j];rw[<-a5,<-hb];clear a5;simp -dsimp[A0b aa];refine A0s (A0l func126 rfl rfl ah) ?_;rintro _ M2 ⟨hv,wv,kw,rfl,af,e1,e2,e3,b9,bf,ba⟩;have e1:A3G 259 4 A0z.row M1.length M2 hv hd:=e1;have e2:A3G 259 4 A0z.row M1.length M2 wv ws:=e2;have e3:Arr 31 8 A0a.row M1.length M2 kw ks:=e3;have ab:=af.get aa Q1;have b2:=af.get b6 Q1;have ao:b<M2.length:=(Z0a.1 ab).1;obtain⟨M3,ad⟩:=ex (M2.set b (.cells 31 [I 0,I 0,I 0,I kind,S lab,hv,wv,kw]));have a4:∀f,f≠b->M3[f]?=M2[f]?:=λf hf=>by rw[ad,Z0f (λe=>hf e.symm)]
  have a2:M3[b]?=some (.cells 31 [I 0,I 0,I 0,I kind,S lab,hv,wv,kw]):=by rw[ad];simp[ao]
  have az:M3[b+1]?=some z8:=by rw[a4 _ Q0];exact b2
  have bp:M3.length=M2.length:=by rw[ad];simp
  have f1:=e1.stay (M':=M3) (λf h=>a4 f (by have:=e1.lat f h;omega));have f2:=e2.stay (M':=M3) (λf h=>a4 f (by have:=e2.lat f h;omega));have f3:=e3.stay (M':=M3) (λf h=>a4 f (by have:=e3.lat f h;omega));obtain⟨N3,aj⟩:=ex (M2.set b (.cells 31 [I id.act,I id.item,I id.n,I kind,S lab,hv,wv,kw]));have bc:N3[b]?=some (.cells 31 [I id.act,I id.item,I id.n,I kind,S lab,hv,wv,kw]):=by rw[aj];simp[ao]
  have a9:N3.set b (.cells 31 [I 0,I 0,I 0,I kind,S lab,hv,wv,kw])=M3:=by rw[aj,Z2q,ad]
  simp -dsimp[A0f ab];rw[<-aj];have b0:=D2z f1 f2;simp -dsimp[A6t,A0f bc,a9,A0b a2,b0];have b5:∀M5,(∀j,j<b->M5[j]?=M3[j]?)->M3.length<=M5.length->Grow M M5:=λM5 h1 h2=>⟨by have:=bb.1;have:=af.1;omega,λj hj _=>by rw[h1 j Q0,a4 j Q0];exact(bb.trans af).2 j hj Q1⟩;have br:b+2<=M3.length:=by have:=af.1;omega
  clear b0 a9 ad aj bc a4 ab b2 ah aa b6;refine A6V (.exit 0) (λT M5=>T 1=.ptr b 0/\T 2=.ptr (b+1) 0/\M5[b]?=some (.cells 31 [I 0,I 0,I 0,I kind,S lab,hv,wv,kw])/\M5[b+1]?=some z8/\M5.length=M3.length/\(∀j,j<b->M5[j]?=M3[j]?)/\A3G 259 4 A0z.row M1.length M5 hv (hd.map A2K)/\A3G 259 4 A0z.row M1.length M5 wv (ws.map A2K)/\Arr 31 8 A0a.row M1.length M5 kw ks) ?_ ?_
  .refine A0M hSt (λT M5=>∃k:Nat,k<=2/\T 1=.ptr b 0/\T 2=.ptr (b+1) 0/\T 15=.list 1 [[hv],[wv]] .full/\T 16=I 2/\T 17=I k/\M5[b]?=some (.cells 31 [I 0,I 0,I 0,I kind,S lab,hv,wv,kw])/\M5[b+1]?=some z8/\M5.length=M3.length/\(∀j,j<b->M5[j]?=M3[j]?)/\A3G 259 4 A0z.row M1.length M5 hv (A7Q A2K (if k=0 then 0 else hd.length) hd)/\A3G 259 4 A0z.row M1.length M5 wv (A7Q A2K (if k=2 then ws.length else 0) ws)/\Arr 31 8 A0a.row M1.length M5 kw ks) (λT M1=>match T 17 with|.val (.int _ i)=>2-i.toNat|_=>0) Q2 ?_ ?_
   .exact⟨0,Q0,Q1,Q1,Q1,Q1,Q1,a2,az,rfl,λ_ _=>rfl,by simpa using f1,by simpa using f2,f3⟩
   clear a2 az f1 f2 f3;rintro T M5 ⟨k,k1,t1,t2,x,w,s,d,l,p,o,f1,f2,f3⟩;by_cases hk:k<2;(case neg=>have aq:¬(k:Int)<2:=Q0;simp -dsimp[t1,t2,x,w,s,aq];have bl:k=2:=Q0;subst bl;exact⟨d,l,p,o,by simpa using f1,by simpa using f2,f3⟩);have aq:(k:Int)<2:=Q0;have w1:=A1O (i:=k) Q0;obtain⟨xv,ak⟩:=ex (if k=0 then hv else wv);obtain⟨xs,a7⟩:=ex (if k=0 then hd else ws);(have bv:xs.length<=100000000:=by rw[a7];split<;>assumption);obtain⟨A,hA⟩:∃A:Nat->List A0z,A=λi=>A7Q A2K (if k=0 then i else hd.length) hd:=⟨_,rfl⟩;obtain⟨B,hB⟩:∃B:Nat->List A0z,B=λi=>A7Q A2K (if k=0 then 0 else i) ws:=⟨_,rfl⟩;(have bm:A 0=A7Q A2K (if k=0 then 0 else hd.length) hd:=by rw[hA]);(have bk:B 0=A7Q A2K (if k=2 then ws.length else 0) ws:=by rw[hB,Z0d (show¬k=2 by omega)];show A7Q A2K (if k=0 then 0 else 0) ws=_;rw[ite_self]);(have bn:A xs.length=A7Q A2K (if k+1=0 then 0 else hd.length) hd:=by rw[hA,a7];by_cases c:k=0<;>simp[c]);have bj:B xs.length=A7Q A2K (if k+1=2 then ws.length else 0) ws:=by
    rw[hB,a7];by_cases c:k=0
    .simp[c]
    .have:k=1:=Q0;simp[this]
   (have ag:∀(M6:Mem) i,A3G 259 4 A0z.row M1.length M6 hv (A i)->A3G 259 4 A0z.row M1.length M6 wv (B i)->A3G 259 4 A0z.row M1.length M6 xv (A7Q A2K i xs):=λM6 i h1 h2=>by rw[hA]at h1;rw[hB]at h2;rw[ak,a7];by_cases c:k=0<;>simp only[c,Z1e,Z2f]at h1 h2|-<;>assumption);have av:∀(M6 M7:Mem) (f i:Nat),obj xv=some f->A3G 259 4 A0z.row M1.length M7 xv (A7Q A2K (i+1) xs)->(∀j,j≠f->M7[j]?=M6[j]?)->A3G 259 4 A0z.row M1.length M6 hv (A i)->A3G 259 4 A0z.row M1.length M6 wv (B i)->Arr 31 8 A0a.row M1.length M6 kw ks->A3G 259 4 A0z.row M1.length M7 hv (A (i+1))/\A3G 259 4 A0z.row M1.length M7 wv (B (i+1))/\Arr 31 8 A0a.row M1.length M7 kw ks:=λM6 M7 f i hf hx hj g1 g2 g3=>by
    rw[hA]at g1|-;rw[hB]at g2|-;by_cases c:k=0
    .rw[ak,Z0c c]at hf hx;rw[a7,Z0c c]at hx;simp only[c,Z1e]at g1 g2|-;exact⟨hx,g2.stay λq hq=>hj q λe=>b9 f hf (e▸hq),g3.stay λq hq=>hj q λe=>bf f hf (e▸hq)⟩
    .rw[ak,Z0d c]at hf hx;rw[a7,Z0d c]at hx;simp only[c,Z2f]at g1 g2|-;exact⟨g1.stay λq hq=>hj q λe=>b9 f (e▸hq) hf,hx,g3.stay λq hq=>hj q λe=>ba f hf (e▸hq)⟩
   rw[<-bm]at f1;rw[<-bk]at f2;have a1:([[hv],[wv]]:List (List AV))[k]?=some [xv]:=by rw[ak];have:k=0\/k=1:=Q0;rcases this with rfl|rfl<;>rfl
   (have a0:([[hv],[wv]]:List (List AV)).getD k []=[xv]:=by rw[Z1l,a1];rfl);have al:=(ag M5 0 f1 f2).len (P:=prog) (t:=29) (e':=259) Q1
   rw[B3A]at al;simp -dsimp[t1,t2,x,w,s,aq,a1,a0,al];refine A6V (.exit 2) (λT M6=>T 1=.ptr b 0/\T 2=.ptr (b+1) 0/\T 15=.list 1 [[hv],[wv]] .full/\T 16=I 2/\T 17=I k/\M6[b]?=some (.cells 31 [I 0,I 0,I 0,I kind,S lab,hv,wv,kw])/\M6[b+1]?=some z8/\M6.length=M3.length/\(∀j,j<b->M6[j]?=M3[j]?)/\A3G 259 4 A0z.row M1.length M6 hv (A xs.length)/\A3G 259 4 A0z.row M1.length M6 wv (B xs.length)/\Arr 31 8 A0a.row M1.length M6 kw ks) ?_ ?_
   .refine A0M hSt (λT M6=>∃i:Nat,i<=xs.length/\T 1=.ptr b 0/\T 2=.ptr (b+1) 0/\T 15=.list 1 [[hv],[wv]] .full/\T 16=I 2/\T 17=I k/\T 4=xv/\T 22=I xs.length/\T 23=I i/\M6[b]?=some (.cells 31 [I 0,I 0,I 0,I kind,S lab,hv,wv,kw])/\M6[b+1]?=some z8/\M6.length=M3.length/\(∀j,j<b->M6[j]?=M3[j]?)/\A3G 259 4 A0z.row M1.length M6 hv (A i)/\A3G 259 4 A0z.row M1.length M6 wv (B i)/\Arr 31 8 A0a.row M1.length M6 kw ks) (λT M1=>match T 23 with|.val (.int _ i)=>xs.length-i.toNat|_=>0) Q2 ?_ ?_
    .exact⟨0,Q0,ZDR,by simp[t2],by simp[x],by simp[w],by simp[s],Q1,Q1,Q1,d,l,p,o,f1,f2,f3⟩
    clear d l p o f1 f2 f3 t1 t2 x w s al a1 a0;rintro T M5 ⟨i,i1,t1,t2,x,w,s,t4,t22,be,d,l,p,o,f1,f2,f3⟩;by_cases hi:i<xs.length;(case neg=>have z:¬(i:Int)<xs.length:=Q0;simp -dsimp[t1,t2,x,w,s,t4,t22,be,z];have ay:i=xs.length:=Q0;subst ay;exact⟨d,l,p,o,f1,f2,f3⟩);have z:(i:Int)<xs.length:=Q0;(have w2:IntKind.i64.wrap ((i:Int)+1)=((i+1:Nat):Int):=by rw[A0R Q0 Q0];omega);have hx:Arr 259 4 A0z.row M1.length M5 xv (A7Q A2K i xs):=by
     rcases ag M5 i f1 f2 with⟨_,h⟩|h
     .have:=congrArg List.length h;rw[B3A]at this;simp at this;rw[this]at hi;simp at hi
     .exact h
    obtain⟨f,g,M6,y,au,a8,bi,r⟩:=D0i hx (i:=i) ZAS;rw[C5G hi,C5D hi]at a8;rw[B3A]at y;(have a6:obj xv=some f:=by rw[y];rfl);have bh:=hx.lat f a6;obtain⟨g1,g2,g3⟩:=av M5 M6 f i a6 (.inr a8) r f1 f2 f3;(have ar:M6[b]?=some (.cells 31 [I 0,I 0,I 0,I kind,S lab,hv,wv,kw]):=by rw[r b Q0];exact d);(have ax:M6[b+1]?=some z8:=by rw[r (b+1) Q0];exact l);rw[y]at t4;simp -dsimp[t1,t2,x,w,s,t4,t22,be,z,hi,C4o,au,w2];refine⟨⟨i+1,by clear w2;omega,y.symm,rfl,ar,ax,Q0,λj hj=>by rw[r j Q0];exact o j hj,g1,g2,g3⟩,by clear w2;omega⟩
   have b4:=s;clear d l p o f1 f2 f3 t1 t2 x w s al a1 a0;rintro T M5 ⟨t1,t2,x,w,s,d,l,p,o,f1,f2,f3⟩;rw[bn]at f1;rw[bj]at f2;simp -dsimp[t1,t2,x,w,s,b4,w1];refine⟨⟨k+1,Q3,rfl,d,l,p,o,f1,f2,f3⟩,Q3⟩
  clear a2 az f1 f2 f3;rintro T M5 ⟨t1,t2,d,l,p,o,f1,f2,f3⟩;have an:=f3.own.len (P:=prog) (t:=25) (e:=31) underlying25;simp -dsimp[t1,t2,A0b d,an];refine A0M hSt (λT M6=>∃i:Nat,i<=ks.length/\T 1=.ptr b 0/\T 2=.ptr (b+1) 0/\T 35=I ks.length/\T 36=I i/\M6[b]?=some (.cells 31 [I 0,I 0,I 0,I kind,S lab,hv,wv,kw])/\M6[b+1]?=some z8/\M3.length<=M6.length/\(∀j,j<b->M6[j]?=M3[j]?)/\A3G 259 4 A0z.row M1.length M6 hv (hd.map A2K)/\A3G 259 4 A0z.row M1.length M6 wv (ws.map A2K)/\Arr 31 8 A0a.row M1.length M6 kw (A7Q A2u i ks)) (λT M1=>match T 36 with|.val (.int _ i)=>ks.length-i.toNat|_=>0) Q2 ?_ ?_
  .exact⟨0,Q0,ZDR,by simp[t2],Q1,rfl,d,l,Q0,o,f1,f2,by simpa using f3⟩
  clear d l p o f1 f2 f3 t1 t2 an;rintro T M5 ⟨i,i1,t1,t2,ai,am,d,l,p,o,f1,f2,f3⟩;by_cases hi:i<ks.length;case neg=>have z:¬(i:Int)<ks.length:=Q0;have bd:b+1<M5.length:=(Z0a.1 l).1;(have hs:∀X f,f≠b+1->(M5.set (b+1) X)[f]?=M5[f]?:=λX f h1=>by rw[Z0f Q0]);simp -dsimp[t1,t2,ai,am,z,A0b d,A0f l,A0u,bd];refine⟨b5 _ (λj hj=>by rw[hs _ j Q0];exact o j hj) (by simpa using p),?_⟩;have ay:i=ks.length:=Q0;subst ay;rw[D2J]at f3;rw[A2u,A8s,A0a.row_eq,A3h];have l1:=f1.lat;have l2:=f2.lat;have l3:=f3.lat;have g1:=(f1.stay (M':=M5.set (b+1) (.cells 31 [I 0,I 0,I 0,I kind,S lab,hv,wv,kw])) (λf h=>hs _ f (by have:=l1 f h;omega))).weak (m:=b) Q0;have g2:=(f2.stay (M':=M5.set (b+1) (.cells 31 [I 0,I 0,I 0,I kind,S lab,hv,wv,kw])) (λf h=>hs _ f (by have:=l2 f h;omega))).weak (m:=b) Q0;have g3:=f3.stay (M':=M5.set (b+1) (.cells 31 [I 0,I 0,I 0,I kind,S lab,hv,wv,kw])) (λf h=>hs _ f (by have:=l3 f h;omega));exact .agg (.same trivial (.same trivial (.same trivial (.same trivial (.same trivial (g1.still (λ_=>rfl) A4H (g2.still (λ_=>rfl) A4H (A3i A0a.row_len A1F g3.own (λf h=>by have:=l3 f h;omega))))))))) .nil
  have z:(i:Int)<ks.length:=Q0;have w1:=A1O (i:=i) Q0;have a3:ks[i]∈ks:=Z0s hi;have bu:=A3O a3;have:=A0a.kid_lt (u:=.mk idZ kind lab hd ws ks) a3;have ac:=λM=>B8D ks[i] (.list 8 (A0t ks[i].kids) .no) M (.inl rfl) (ap _ a3) (aw _ a3) Q0;rw[show A3C ks[i] (.list 8 (A0t ks[i].kids) .no)=ks[i].row from(ks[i].row_eq).symm]at ac;obtain⟨f,g,M6,y,b7,au,a8,bi,r⟩:=D0H f3 (i:=i) ZAS (A2u ks[i]);rw[C5G hi]at b7;rw[C5D hi]at a8;rw[B3A]at y;have a6:obj kw=some f:=by rw[y];rfl
  have bh:=f3.lat f a6;simp -dsimp[t1,t2,ai,am,z];refine A7r hSt (A0B gl) (λk=>if k=1\/k=4\/k=7 then 1 else if k=10 then 2 else 0) (λk=>if k=7 then f else b) (λi k=>i==7&&k==10) (λk=>if k=10 then[b]else[b,f]) (by intro i k _ h;by_cases h7:i=7<;>by_cases h10:k=10<;>simp[h7,h10]at h|-) (by rfl) Q2 ?_;rw[y]at d;simp -dsimp[t1,t2,ai,am,A0b d,A1e,A5t,b7];refine⟨hi,A1k (λM=>A0l func309 rfl rfl (ac M)) ?_⟩;simp -dsimp[t1,t2,ai,am,z,hi,au,w1];have ar:M6[b]?=some (.cells 31 [I 0,I 0,I 0,I kind,S lab,hv,wv,kw]):=by rw[r b Q0,y];exact d
  have ax:M6[b+1]?=some z8:=by rw[r (b+1) Q0];exact l
  exact⟨r b Q0,⟨i+1,Q3,Q1,ar,ax,Q0,λj hj=>by rw[r j Q0];exact o j hj,f1.stay λq hq=>r q λe=>bf q hq (e▸a6),f2.stay λq hq=>r q λe=>ba q hq (e▸a6),a8⟩,Q3⟩
termination_by u=>SizeOf.sizeOf u
end
end
mutual
def A1h(x:IdD):A0a->List A0a
 |.mk id k l h w ks=>if id=x then[.mk id k l h w ks]else match A3w x ks with
  |[]=>[]
  |r::rs=>.mk id k l h w ks::r::rs
def A3w(x:IdD):List A0a->List A0a
 |[]=>[]
 |k::ks=>match A1h x k with
  |[]=>A3w x ks
  |r::rs=>r::rs
end
def A5u:List A0a->AV
 |[]=>A0C
 |u::r=>.list 8 (A0t (u::r)) .no
mutual
def A5T(x:IdD):∀u:A0a,(A1h x u).length<=A0y u
 |.mk id k l h w ks=>by
  have:=B7P x ks;rw[A1h,A0y];split
  .simp
  .split
   .simp
   .rename_i r rs e;rw[e]at this;simp at this|-;omega
def B7P(x:IdD):∀ks:List A0a,(A3w x ks).length<=A0I ks
 |[]=>by rw[A3w];simp
 |k::ks=>by
  have h1:=A5T x k;have h2:=B7P x ks;rw[A3w,A0I];split
  .omega
  .rename_i r rs e;rw[e]at h1;omega
end
mutual
def A3N(x:IdD):∀u:A0a,A0N x u=(A1h x u).getLast?
 |.mk id k l h w ks=>by
  have:=B5Q x ks;rw[A1h,A0N];split
  .rfl
  .rw[this];cases A3w x ks with
   |nil=>rfl
   |cons r rs=>simp
def B5Q(x:IdD):∀ks:List A0a,A6R x ks=(A3w x ks).getLast?
 |[]=>by rw[A3w,A6R];rfl
 |k::ks=>by
  have h1:=A3N x k;have h2:=B5Q x ks;rw[A3w,A6R,h1,h2];cases A1h x k with
  |nil=>rfl
  |cons r rs=>
   cases h:(r::rs).getLast? with
   |none=>simp at h
   |some v=>simp[h]
end
def B5Z{x:IdD}{u:A0a}(h:A1h x u≠[]):A5u (A1h x u)=.list 8 (A0t (A1h x u)) .no:=by
 cases e:A1h x u with
 |nil=>exact absurd e h
 |cons r rs=>rfl
def B5b(n:Nat)(l:List A0a):bdd n (.list 8 (A0t l) .no):=by simp only[bdd,Z1A];exact A9s n l
def A8k(l:List A0a):(A0t l).flatten=l.flatMap A0a.row:=by rw[A3h];simp[List.flatMap]
def B1q{M:Mem}{n:Nat}{v:AV}{l:List A0a}(h:A1r 31 8 A0a.row M v l)(hn:A1L n v):Still M n (bdd n) [v] [.list 8 (A0t l) .no]:=by rw[A3h];exact A3i A0a.row_len A1F h hn
section
variable (gl:Nat->AV)
def B1y:∀(u:A0a) (x:IdD) (M:Mem),u.good->A0y u<=3000->A0c (WC gl) 125 [.agg u.row,.agg x.row] M (λv M'=>v=A5u (A1h x u)/\M'=M)
 |.mk id kind lab hd ws ks,x,M,hg,hc=>by
  obtain⟨_,_,a4,_,a2,_,a5,a0,p⟩:=(A0a.good_iff _).1 hg;have p:∀k∈ks,k.good:=p;have a3:1+A0I ks<=3000:=ZDP
  have a1:=A2D ks;obtain⟨u,hu⟩:=ex (A0a.mk id kind lab hd ws ks);have g:(A0a.mk id kind lab hd ws ks).row=[I id.act,I id.item,I id.n,I kind,S lab,.list 4 (A0i hd) .no,.list 4 (A0i ws) .no,.list 8 (A0t ks) .no]:=ZDD
  have hx:x.row=[I x.act,I x.item,I x.n]:=rfl;have he:=C2D id x;refine A0c.dataX ?_;rw[g,hx];refine A0r (hQ [27,29]) func125 ?_;by_cases h0:id=x
  .rw[Z0A h0]at he;(have hr:A1h x (.mk id kind lab hd ws ks)=[.mk id kind lab hd ws ks]:=by rw[A1h,Z0c h0]);rw[hr];simp -dsimp[he,A0x,A1g,AV.storable,AV.cells];refine⟨Grow.refl _,?_⟩;have hb:=B5b M.length [.mk id kind lab hd ws ks];simp only[A5u];rw[A0t,A0t,g]at hb|-;exact .dis hb .nil
  rw[Z0I h0]at he;have hr:A1h x (.mk id kind lab hd ws ks)=match A3w x ks with
   |[]=>[]
   |r::rs=>.mk id kind lab hd ws ks::r::rs:=by rw[A1h,Z0d h0]
  rw[hr];generalize hR:A3w x ks=R;simp -dsimp[he];refine A1y (hQ [27,29]) ks.length 17 (λT M1=>∃i:Nat,Grow M M1/\i<=ks.length/\T 2=.cptr [I id.act,I id.item,I id.n,I kind,S lab,.list 4 (A0i hd) .no,.list 4 (A0i ws) .no,.list 8 (A0t ks) .no]/\T 3=.cptr [I x.act,I x.item,I x.n]/\T 15=.list 8 (A0t ks) .no/\T 16=I ks.length/\T 17=I i/\R=A3w x (ks.drop i)) ?_ ?_
  .exact⟨0,Grow.refl _,Q0,Q1,Q1,Q1,Q1,Q1,by simp[hR]⟩
  rintro T M1 ⟨i,l,i1,t2,t3,c,a,b,ho⟩;by_cases hi:i<ks.length;case neg=>have q:¬(i:Int)<ks.length:=Q0;rw[show ks.drop i=[]from Z0v Q0,A3w]at ho;subst ho;simp -dsimp[t2,t3,c,a,b,q];exact⟨l,.same trivial .nil⟩
  have q:(i:Int)<ks.length:=Q0;have w1:=A1O (i:=i) Q0;have d:ks[i]∈ks:=Z0s hi;have a6:=A3O d;rw[Z0m hi,A3w]at ho;obtain⟨M2,s⟩:=ex (M1++[A0m.cells 31 ks[i].row]);have o:Grow M1 M2:=by rw[s];exact A0d.app none _ _
  have w:M2[M1.length]?=some (A0m.cells 31 ks[i].row):=by rw[s];simp
  have:=A0a.kid_lt (u:=.mk id kind lab hd ws ks) d;have j:=B1y ks[i] x M2 (p _ d) Q0;have m:=A5T x ks[i];rw[hx]at j;simp -dsimp[t2,t3,c,a,b,hi,q,A0j,A0k,A0e,AV.storable,AV.cells];rw[<-s];simp -dsimp[t2,t3,c,a,b,A0b w];refine A0g func125 j ?_;cases hw:A1h x ks[i]with
  |nil=>rw[hw]at ho;simp -dsimp[t2,t3,c,a,b,w1,A5u];exact⟨⟨l.trans o,i+1,Q3,rfl,ho⟩,Q3⟩
  |cons r rs=>rw[hw]at ho m;subst ho;(have y:A1C prog 25 1 [(0,.agg [I id.act,I id.item,I id.n,I kind,S lab,.list 4 (A0i hd) .no,.list 4 (A0i ws) .no,.list 8 (A0t ks) .no])] M2=some (.vref M2.length 0 8 0 1,M2++[.vec 31 8 [I id.act,I id.item,I id.n,I kind,S lab,.list 4 (A0i hd) .no,.list 4 (A0i ws) .no,.list 8 (A0t ks) .no] 0 [(0,1)]]):=by simp[A1C,A1g,AV.storable,AV.cells]);(have t:A0t (r::rs)=r.row::A0t rs:=by rw[A0t]);simp -dsimp[t2,t3,c,a,b,A5u,t,y];rw[<-t,<-g];have z:A1r 31 8 A0a.row (M2++[.vec 31 8 (A0a.mk id kind lab hd ws ks).row 0 [(0,1)]]) (.vref M2.length 0 8 0 1) [.mk id kind lab hd ws ks]:=.inr ⟨M2.length,0,[(0,1)],rfl,Q1,ZAQ⟩;refine A3B (C:=WC gl) (enc:=A0a.row) (e:=31) (sz:=8) (news:=r::rs) A8p B2D B1H A0a.row_len z (by simp only[A0D,A8k,A9Q];simp) (by simp at m|-;omega) rfl ?_;intro v' M3 q1 q2 q3 _;obtain⟨r1,r2⟩:=A3f (X:=[]) ((l.trans o).trans (A0d.app none _ [.vec 31 8 (A0a.mk id kind lab hd ws ks).row 0 [(0,1)]])) (v:=.vref M2.length 0 8 0 1) (λf hf=>by simp at hf;have:=(l.trans o).1;omega) (by simpa using q2) (by simpa using q3);simp -dsimp;exact⟨r1,B1q q1 r2⟩
termination_by u=>SizeOf.sizeOf u
end
end Go.Abs
