/- The texts CyE, CyF, CyG, ShE, ShF, EgA, EgB, CyK, CyM, CyN, CvC, CvD, CvF, CvG, CvH, CvI, CvJ, CvK, CvL. -/
import Derived.Test.YtmihnfpinnfnfaaGreatDoorPG26
import Derived.Laws.RangeAny
import Derived.Laws.RangeString
set_option linter.all false
set_option maxRecDepth 100000
namespace Go.Abs
open Go.Proofs TryTypes Tryz
def A3c(p:Int->Bool)(s:ByteArray):Nat->Nat->Int
 |0,_=>-1
 |n+1,i=>if p (A2l s i)then i else A3c p s n (i+1)
def A2g(lo hi:Int)(c:Int):Bool:=decide (c<lo)||decide (c>hi)
def B8j(s:ByteArray)(i:Nat)(h:i<s.size):A2l s i=((s[i]'h).toNat:Int):=by have h':i<s.data.size:=h;simp only[A2l,Z3S,Z1e h',Z1E];rfl
def C5V{lo hi:Int}(a:0<lo)(b:hi<128)(s:ByteArray)(pos:Nat)(hp:pos<s.size):A2g lo hi ((Utf8.decode s pos).1:Int)=A2g lo hi (A2l s pos)/\(A2g lo hi (A2l s pos)=false->(Utf8.decode s pos).2=1):=by
 rw[B8j s pos hp]
 by_cases ha:(s[pos]'hp).toNat<128
 .rw[decode_ascii s pos hp ha];exact⟨rfl,λ_=>rfl⟩
 .have:=decode_high s pos hp Q0;have e1:A2g lo hi ((Utf8.decode s pos).1:Int)=true:=by have:((Utf8.decode s pos).1:Int)>hi:=Q0;simp[A2g,this]
  have e2:A2g lo hi ((s[pos]'hp).toNat:Int)=true:=by have:((s[pos]'hp).toNat:Int)>hi:=Q0;simp[A2g,this]
  rw[e1,e2];exact⟨rfl,λe=>by simp at e⟩
section
variable (gl:Nat->AV) (M:Mem)
def D8n(c:Int):A0c (WC gl) 184 [.val (.int .i32 c)] M (λv M'=>v=B (A2g 48 57 c)/\M'=M):=by
 refine A1c hB func184 rfl rfl rfl rfl rfl rfl ?_;by_cases h1:c<48
 .simp -dsimp -implicitDefEqProofs[A2g,h1]
 .simp -dsimp -implicitDefEqProofs[A2g,h1]
def D7W(c:Int):A0c (WC gl) 113 [.val (.int .i32 c)] M (λv M'=>v=B (A2g 65 90 c)/\M'=M):=by
 refine A1c hB func113 rfl rfl rfl rfl rfl rfl ?_;by_cases h1:c<65
 .simp -dsimp -implicitDefEqProofs[A2g,h1]
 .simp -dsimp -implicitDefEqProofs[A2g,h1]
def C1p(g:FuncId)(lo hi:Int)(f:0<lo)(e:hi<128)(s:ByteArray)(hg:∀M c,A3E (WC gl) g [.val (.int .i32 c)] M (λv M'=>v=B (A2g lo hi c)/\M'=M)):
 A0c (WC gl) 242 [S s,.func (.func g) [] [],B true] M (λv M'=>v=I (A3c (A2g lo hi) s s.size 0)/\Grow M M'):=by
 refine A1c hB func242 rfl rfl rfl rfl rfl rfl ?_
 simp -dsimp -implicitDefEqProofs[A9C]
 refine A0K hB (λT M1=>∃pos,pos<=s.size/\M1=M++[.siter s pos]/\T 1=.func (.func g) [] []/\T 2=B true/\T 10=.ptr M.length 0/\A3c (A2g lo hi) s s.size 0=A3c (A2g lo hi) s (s.size-pos) pos) (λT M1=>match M1[M.length]? with|some (.siter _ pos)=>s.size-pos|_=>0) Q2 ?_ ?_
 .refine⟨0,?_⟩;simp -dsimp -implicitDefEqProofs
 .rintro T M1 ⟨pos,h1,rfl,h2,h3,h4,h5⟩;by_cases hp:pos<s.size
  ·(have hn:A8A (.ptr M.length 0) (M++[.siter s pos])=some (.tuple [.val (.bool true),.val (goInt pos),.val (.int .i32 (Utf8.decode s pos).1)],M++[.siter s (pos+(Utf8.decode s pos).2)]):=by simp[A8A,hp]);have b:A3c (A2g lo hi) s (s.size-pos) pos=if A2g lo hi (A2l s pos)then(pos:Int)else A3c (A2g lo hi) s (s.size-(pos+1)) (pos+1):=by have:s.size-pos=(s.size-(pos+1))+1:=Q0;rw[this];rfl
   obtain⟨a,d⟩:=C5V f e s pos hp;have i:((Utf8.decode s pos).1:Int)=((Utf8.decode s pos).1:Nat):=rfl;simp -dsimp -implicitDefEqProofs[h2,h3,h4,hn];refine A0v (hg _ _) ?_;rintro r M' ⟨rfl,rfl⟩;cases hb:A2g lo hi ((Utf8.decode s pos).1:Int)
   .rw[a]at hb;have hd:=d hb;simp -dsimp -implicitDefEqProofs[h2,h3,h4,hd];refine⟨⟨pos+1,Q0,rfl,by rw[h5,b,hb];rfl⟩,?_⟩;omega
   .rw[a]at hb;simp -dsimp -implicitDefEqProofs[h2,h3,h4];refine⟨?_,.app _ _ _⟩;rw[h5,b,hb];rfl
  ·(have hn:A8A (.ptr M.length 0) (M++[.siter s pos])=some (.tuple [.val (.bool false)],M++[.siter s pos]):=by simp[A8A,hp]);simp -dsimp -implicitDefEqProofs[h2,h3,h4,hn]
   refine⟨?_,.app _ _ _⟩;rw[h5,show s.size-pos=0 by omega];rfl
def B3Y(g:FuncId)(lo hi:Int)(a:0<lo)(b:hi<128)(s:ByteArray)(hg:∀M c,A3E (WC gl) g [.val (.int .i32 c)] M (λv M'=>v=B (A2g lo hi c)/\M'=M)):
 A0c (WC gl) 183 [S s,.func (.func g) [] []] M (λv M'=>v=I (A3c (A2g lo hi) s s.size 0)/\Grow M M'):=by
 refine A1c hB func183 rfl rfl rfl rfl rfl rfl ?_
 simp -dsimp -implicitDefEqProofs
 refine A0v (A0m func242 rfl rfl (C1p gl M g lo hi a b s hg)) ?_
 rintro r M' ⟨rfl,d⟩
 simp -dsimp -implicitDefEqProofs[d]
def B5Z(g:FuncId)(lo hi:Int)(a:0<lo)(b:hi<128)(s:ByteArray)(hg:∀M c,A3E (WC gl) g [.val (.int .i32 c)] M (λv M'=>v=B (A2g lo hi c)/\M'=M)):
 A0c (WC gl) 114 [S s,.func (.func g) [] []] M (λv M'=>v=B (decide (0<=A3c (A2g lo hi) s s.size 0))/\Grow M M'):=by
 refine A1c hB func114 rfl rfl rfl rfl rfl rfl ?_
 simp -dsimp -implicitDefEqProofs
 refine A0v (A0m func183 rfl rfl (B3Y gl M g lo hi a b s hg)) ?_
 rintro r M' ⟨rfl,d⟩
 simp -dsimp -implicitDefEqProofs[d]
def B0M(p:Int->Bool)(s:ByteArray):∀n i,A3c p s n i=-1\/((i:Int)<=A3c p s n i/\A3c p s n i<i+n)
 |0,i=>.inl rfl
 |n+1,i=>by
  simp only[A3c];split
  .right;omega
  .rcases B0M p s n (i+1)with h|h
   .exact .inl h
   .right;push_cast at h;omega
def A3d(s:ByteArray):Nat:=let k:=A3c (A2g 48 57) s s.size 0;if k<0 then s.size else k.toNat
def C9o(s:ByteArray):A0c (WC gl) 112 [S s] M (λv M'=>v=.tuple [S (s.extract 0 (A3d s)),S (s.extract (A3d s) s.size)]/\Grow M M'):=by
 refine A1c hB func112 rfl rfl rfl rfl rfl rfl ?_;simp -dsimp -implicitDefEqProofs;refine A0v (A0m func183 rfl rfl (B3Y gl M 184 48 57 (by decide) (by decide) s λM c=>A0m func184 rfl rfl (D8n gl M c))) ?_;rintro r M' ⟨rfl,a⟩;have hr:=B0M (A2g 48 57) s s.size 0;generalize hk:A3c (A2g 48 57) s s.size 0=k at hr;by_cases h0:k<0
 .have hd:A3d s=s.size:=by simp[A3d,hk,h0]
  simp -dsimp -implicitDefEqProofs[h0,a,hd];rfl
 .have hd:A3d s=k.toNat:=by simp[A3d,hk,h0]
  have h1:0<=k:=Q0;have h2:k<=s.size:=Q0;simp -dsimp -implicitDefEqProofs[h0];refine A0Z hB (A0E gl) (λ_=>0) (λ_=>0) (by rfl) Q2 ?_;simp -dsimp[a,hd,h1,h2]
def C5c(s:ByteArray):A3d s<=s.size:=by have hr:=B0M (A2g 48 57) s s.size 0;simp only[A3d];split<;>omega
def A8k(p:Int->Bool)(s:ByteArray)(d:Nat):∀n i,d+i+n<=s.size->(A3c p (s.extract d s.size) n i<0<->A3c p s n (d+i)<0)
 |0,i,h=>by simp[A3c]
 |n+1,i,h=>by
  simp only[A3c];rw[B0X Q0 Q0];split
  .constructor<;>intro h<;>omega
  .exact A8k p s d n (i+1) Q0
def A1u(s:ByteArray):Bool:=decide (1<=A3d s)&&decide (A3d s<=4)&&!decide (A2l s 0=48)&&decide (s.size-A3d s<=3)&&decide (A3c (A2g 65 90) s (s.size-A3d s) (A3d s)<0)
def B3p(s:ByteArray):A0c (WC gl) 66 [S s] M (λv M'=>v=B (A1u s)/\Grow M M'):=by
 refine A1c hB func66 rfl rfl rfl rfl rfl rfl ?_;simp -dsimp -implicitDefEqProofs;refine A0v (A0m func112 rfl rfl (C9o gl M s)) ?_;rintro r M' ⟨rfl,b⟩;have l:=C5c s;have a:(s.extract 0 (A3d s)).size=A3d s:=by simp;omega
 have f:(s.extract (A3d s) s.size).size=s.size-A3d s:=by simp
 have e:1<=A3d s->A2l (s.extract 0 (A3d s)) 0=A2l s 0:=λh=>by rw[B0X Q0 l]
 generalize hd:A3d s=d at*;by_cases c1:1<=d;case neg=>have:¬(1:Int)<=d:=Q0;simp -dsimp -implicitDefEqProofs[a,this,A1u,hd,c1,b]
 have i1:(1:Int)<=d:=Q0;have e:=e c1;by_cases c2:d<=4;case neg=>have:¬(d:Int)<=4:=Q0;simp -dsimp -implicitDefEqProofs[a,this,A1u,hd,c1,i1,c2,b]
 have i2:(d:Int)<=4:=Q0;have g:0<d:=c1;by_cases c3:A2l s 0=48
 .simp -dsimp -implicitDefEqProofs[a,A1u,hd,c1,i1,c2,i2,c3,e,g,b]
 by_cases c4:s.size-d<=3;case neg=>have:¬((s.size-d:Nat):Int)<=3:=Q0;have k:¬s.size<=3+d:=Q0;simp -dsimp -implicitDefEqProofs[a,f,A1u,hd,c1,i1,c2,i2,c3,e,g,this,c4,k,b]
 have i4:((s.size-d:Nat):Int)<=3:=Q0;simp -dsimp -implicitDefEqProofs[a,f,A1u,hd,c1,i1,c2,i2,c3,e,g,i4,c4,b];refine A0v (A0m func114 rfl rfl (B5Z gl M' 113 65 90 (by decide) (by decide) _ λM c=>A0m func113 rfl rfl (D7W gl M c))) ?_;rintro r M2 ⟨rfl,i⟩;have j:Grow M M2:=A0d.trans b i;have hx:=A8k (A2g 65 90) s d (s.size-d) 0 Q0;rw[f];by_cases c5:0<=A3c (A2g 65 90) (s.extract d s.size) (s.size-d) 0
 .have:¬A3c (A2g 65 90) s (s.size-d) d<0:=λh=>by have:=hx.2 (by simpa using h);omega
  simp -dsimp -implicitDefEqProofs[c5,A1u,hd,c1,c2,c3,c4,this,j]
 .have:A3c (A2g 65 90) s (s.size-d) d<0:=by have:=hx.1 Q0;simpa using this
  simp -dsimp -implicitDefEqProofs[c5,A1u,hd,c1,c2,c3,c4,this,j]
end
def A0P(p:List A1n):List (List AV):=p.map A1n.row
@[simp] def D8E(p:List A1n):(A0P p).length=p.length:=by simp[A0P]
def C6P{x:Int}:A0A prog 89 [(0,I x)]=some (.agg [I x,S ⟨#[]⟩]):=by simp[A0A,A1m,putCells,A0e]
section
variable (gl:Nat->AV) (M:Mem)
end
open Go.Proofs TryTypes
def Grow.refl(M:Mem):Grow M M:=A0d.refl _ _
def Grow.trans{A B C:Mem}(h1:Grow A B)(h2:Grow B C):Grow A C:=A0d.trans h1 h2
@[simp] def D9q{p:List A1n}{i:Nat}(h:i<(A0P p).length):(A0P p)[i]=[I (p[i]'(by simpa using h)).k,S (p[i]'(by simpa using h)).lab]:=by simp[A0P,A1n.row]
section
variable (gl:Nat->AV) (M:Mem)
end
def A1n.good(s:A1n):Prop:=inI s.k/\s.lab.size<=maxLen
structure A1z where
 k:Int
 day:Int
 ev:ByteArray
def A1z.row(s:A1z):List AV:=[I s.k,I s.day,S s.ev]
def A1z.good(s:A1z):Prop:=inI s.k/\inI s.day/\s.ev.size<=maxLen
structure A1Q where
 kind:Int
 at_:List A1n
 to:List A1n
 where_:Int
 nth:Int
 unit:A0a
 old:List ByteArray
 new:List ByteArray
 lab:ByteArray
 for_:ByteArray
 start:A1z
 act:Int
 item:Int
 day:Int
 ev:ByteArray
def A8Y(l:List A1n):Prop:=l.length<=maxLen/\∀s∈l,s.good
def B3L(l:List ByteArray):Prop:=l.length<=maxLen/\∀s∈l,s.size<=maxLen
def A1Q.good(h:A1Q):Prop:=inI h.kind/\A8Y h.at_/\A8Y h.to/\inI h.where_/\inI h.nth/\h.unit.good/\B3L h.old/\B3L h.new/\h.lab.size<=maxLen/\h.for_.size<=maxLen/\h.start.good/\inI h.act/\inI h.item/\inI h.day/\h.ev.size<=maxLen
inductive A0G where
 |mk (h:A1Q) (by_:List A0G)
def A0G.h:A0G->A1Q|.mk h _=>h
def A0G.by_:A0G->List A0G|.mk _ b=>b
def A1Q.row(h:A1Q)(by_:AV):List AV:=[I h.kind,.list 2 (A0P h.at_) .no,.list 2 (A0P h.to) .no,I h.where_,I h.nth,I h.unit.id.act,I h.unit.id.item,I h.unit.id.n,I h.unit.kind,S h.unit.label,.list 4 (A0i h.unit.head) .no,.list 4 (A0i h.unit.words) .no,.list 8 (A0q h.unit.kids) .no,.list 1 (A0J h.old) .no,.list 1 (A0J h.new) .no,S h.lab,S h.for_,I h.start.k,I h.start.day,S h.start.ev,I h.act,I h.item,I h.day,S h.ev,by_]
mutual
def A0G.row:A0G->List AV
 |.mk h by_=>h.row (.list 25 (A1r by_) .no)
def A1r:List A0G->List (List AV)
 |[]=>[]
 |x::l=>x.row::A1r l
end
def A6C:∀l:List A0G,A1r l=l.map A0G.row
 |[]=>by simp[A1r]
 |x::l=>by simp[A1r,A6C l]
@[simp] def D7b(l:List A0G):(A1r l).length=l.length:=by simp[A6C]
@[simp] def D8o{p:List A0G}{i:Nat}(h:i<(A1r p).length):(A1r p)[i]=(p[i]'(by simpa using h)).row:=by simp[A6C]
def A0G.row_eq(x:A0G):x.row=x.h.row (.list 25 (A1r x.by_) .no):=by obtain⟨h,b⟩:=x;rw[A0G.row];rfl
@[simp] def A0G.row_len(x:A0G):x.row.length=25:=by rw[A0G.row_eq];rfl
@[simp] def A0G.row_take(x:A0G):List.take 25 x.row=x.row:=Z0e Q1
mutual
def A0G.good:A0G->Prop
 |.mk h by_=>h.good/\by_.length<=maxLen/\B6P by_
def B6P:List A0G->Prop
 |[]=>True
 |x::l=>x.good/\B6P l
end
def B2u:∀{l:List A0G},B6P l<->∀x∈l,x.good
 |[]=>by simp[B6P]
 |x::l=>by simp[B6P,B2u (l:=l)]
def A0G.good_iff(x:A0G):x.good<->x.h.good/\x.by_.length<=maxLen/\∀k∈x.by_,k.good:=by obtain⟨h,b⟩:=x;rw[A0G.good,B2u];rfl
def A0G.by_lt{x k:A0G}(h:k∈x.by_):SizeOf.sizeOf k<SizeOf.sizeOf x:=by obtain⟨a,b⟩:=x;have:=Z4z (show k∈b from h);simp only[A0G.mk.sizeOf_spec];omega
structure A0X where
 number:Int
 title:ByteArray
 day:Int
 start:A1z
 items:List A0G
def A0X.row(a:A0X):List AV:=[I a.number,S a.title,I a.day,I a.start.k,I a.start.day,S a.start.ev,.list 25 (A1r a.items) .no]
def A0X.good(a:A0X):Prop:=inI a.number/\a.title.size<=maxLen/\inI a.day/\a.start.good/\a.items.length<=maxLen/\∀x∈a.items,x.good
def A5p(l:List A0X):List (List AV):=l.map A0X.row
@[simp] def D9g(l:List A0X):(A5p l).length=l.length:=by simp[A5p]
@[simp] def D9i{p:List A0X}{i:Nat}(h:i<(A5p p).length):(A5p p)[i]=(p[i]'(by simpa using h)).row:=by simp[A5p]
structure A1G where
 number:Int
 day:Int
 prior:ByteArray
 acts:List A0X
def A1G.row(g:A1G):List AV:=[I g.number,I g.day,S g.prior,.list 7 (A5p g.acts) .no]
def A1G.good(g:A1G):Prop:=inI g.number/\inI g.day/\g.prior.size<=maxLen/\g.acts.length<=maxLen/\∀a∈g.acts,a.good
def A2G(l:List A1G):List (List AV):=l.map A1G.row
@[simp] def D8w(l:List A1G):(A2G l).length=l.length:=by simp[A2G]
@[simp] def D8P{p:List A1G}{i:Nat}(h:i<(A2G p).length):(A2G p)[i]=(p[i]'(by simpa using h)).row:=by simp[A2G]
def D0C:Sh:=.parts [A5K,.str]
def C1i:Sh:=.parts [A5K,A5K,.str]
def C5K:Sh:=.slice 2 D0C
def C4S:Sh:=.slice 1 .str
def B4m:Sh:=.parts [A5K,C5K,C5K,A5K,A5K,.ref 0,C4S,C4S,.str,.str,C1i,A5K,A5K,A5K,.str,.slice 25 (.ref 1)]
def D6v:Sh:=.parts [A5K,.str,A5K,C1i,.slice 25 (.ref 1)]
def D6x:Sh:=.parts [A5K,A5K,.str,.slice 7 D6v]
def C5p:Sh:=.slice 4 D6x
section
variable {E:A8f} {n:Nat} {r:List AV}
def D4p(h:A0Y E n D0C r):∃s:A1n,r=s.row/\s.good:=by obtain⟨a,b,rfl,h1,h2⟩:=A1w h;obtain⟨c,d,rfl,h3,h4⟩:=A1w h2;obtain rfl:=B1a h4;obtain⟨k,rfl,hk⟩:=A4E h1;obtain⟨s,rfl,hs⟩:=A7H h3;exact⟨⟨k,s⟩,rfl,hk,hs⟩
def C3N(h:A0Y E n C1i r):∃s:A1z,r=s.row/\s.good:=by obtain⟨a,b,rfl,h1,h2⟩:=A1w h;obtain⟨c,d,rfl,h3,h4⟩:=A1w h2;obtain⟨e,f,rfl,h5,h6⟩:=A1w h4;obtain rfl:=B1a h6;obtain⟨k,rfl,hk⟩:=A4E h1;obtain⟨l,rfl,hl⟩:=A4E h3;obtain⟨s,rfl,hs⟩:=A7H h5;exact⟨⟨k,l,s⟩,rfl,hk,hl,hs⟩
def C6S(h:A0Y E n C5K r):∃p:List A1n,r=[.list 2 (A0P p) .no]/\A8Y p:=A5W (λr=>D4p) h
def C6U(h:A0Y E n C4S r):∃p:List ByteArray,r=[.list 1 (A0J p) .no]/\B3L p:=A5W (f:=λs=>[S s]) (λr=>A7H) h
def C7Q(h0:E.sh 0=B2R)(h1:E.sh 1=B4m):∀(n:Nat) (r:List AV),A0Y E n (.ref 1) r->∃x:A0G,r=x.row/\x.good
 |0,r,h=>by rw[A0Y]at h;exact h.elim
 |n+1,r,h=>by
  have h:=B3k.1 h;rw[h1]at h;obtain⟨a1,b1,rfl,k1,h⟩:=A1w h;obtain⟨a2,b2,rfl,k2,h⟩:=A1w h;obtain⟨a3,b3,rfl,k3,h⟩:=A1w h;obtain⟨a4,b4,rfl,k4,h⟩:=A1w h;obtain⟨a5,b5,rfl,k5,h⟩:=A1w h;obtain⟨a6,b6,rfl,k6,h⟩:=A1w h;obtain⟨a7,b7,rfl,k7,h⟩:=A1w h;obtain⟨a8,b8,rfl,k8,h⟩:=A1w h;obtain⟨a9,b9,rfl,k9,h⟩:=A1w h;obtain⟨af,ab,rfl,e,h⟩:=A1w h;obtain⟨ai,ah,rfl,j,h⟩:=A1w h;obtain⟨ag,al,rfl,v,h⟩:=A1w h;obtain⟨am,ac,rfl,l,h⟩:=A1w h;obtain⟨ad,aa,rfl,q,h⟩:=A1w h;obtain⟨aj,ak,rfl,c,h⟩:=A1w h;obtain⟨ae,a0,rfl,g,h⟩:=A1w h;obtain rfl:=B1a h;obtain⟨x1,rfl,y1⟩:=A4E k1;obtain⟨x2,rfl,y2⟩:=C6S k2;obtain⟨x3,rfl,y3⟩:=C6S k3;obtain⟨x4,rfl,y4⟩:=A4E k4;obtain⟨x5,rfl,y5⟩:=A4E k5;obtain⟨x6,rfl,y6⟩:=C7C h0 n _ k6;obtain⟨x7,rfl,y7⟩:=C6U k7;obtain⟨x8,rfl,y8⟩:=C6U k8;obtain⟨x9,rfl,y9⟩:=A7H k9;obtain⟨w,rfl,b⟩:=A7H e;obtain⟨o,rfl,m⟩:=C3N j;obtain⟨s,rfl,i⟩:=A4E v;obtain⟨f,rfl,p⟩:=A4E l;obtain⟨z,rfl,t⟩:=A4E q;obtain⟨a,rfl,d⟩:=A7H c;obtain⟨y,rfl,u,k⟩:=A5W (λr=>C7Q h0 h1 n r) g;refine⟨.mk ⟨x1,x2,x3,x4,x5,x6,x7,x8,x9,w,o,s,f,z,a⟩ y,?_,?_⟩
  .rw[A0G.row,A6C,A0a.row_eq];rfl
  .rw[A0G.good,B2u];exact⟨⟨y1,y2,y3,y4,y5,y6,y7,y8,y9,b,m,i,p,t,d⟩,u,k⟩
def D6R(h0:E.sh 0=B2R)(h1:E.sh 1=B4m)(h:A0Y E n D6v r):∃a:A0X,r=a.row/\a.good:=by obtain⟨a1,b1,rfl,k1,h⟩:=A1w h;obtain⟨a2,b2,rfl,k2,h⟩:=A1w h;obtain⟨a3,b3,rfl,k3,h⟩:=A1w h;obtain⟨a4,b4,rfl,k4,h⟩:=A1w h;obtain⟨a5,b5,rfl,k5,h⟩:=A1w h;obtain rfl:=B1a h;obtain⟨x1,rfl,y1⟩:=A4E k1;obtain⟨x2,rfl,y2⟩:=A7H k2;obtain⟨x3,rfl,y3⟩:=A4E k3;obtain⟨x4,rfl,y4⟩:=C3N k4;obtain⟨x5,rfl,y5,z5⟩:=A5W (λr=>C7Q h0 h1 n r) k5;exact⟨⟨x1,x2,x3,x4,x5⟩,by rw[A0X.row,A6C];rfl,y1,y2,y3,y4,y5,z5⟩
def D6P(h0:E.sh 0=B2R)(h1:E.sh 1=B4m)(h:A0Y E n D6x r):∃g:A1G,r=g.row/\g.good:=by obtain⟨a1,b1,rfl,k1,h⟩:=A1w h;obtain⟨a2,b2,rfl,k2,h⟩:=A1w h;obtain⟨a3,b3,rfl,k3,h⟩:=A1w h;obtain⟨a4,b4,rfl,k4,h⟩:=A1w h;obtain rfl:=B1a h;obtain⟨x1,rfl,y1⟩:=A4E k1;obtain⟨x2,rfl,y2⟩:=A4E k2;obtain⟨x3,rfl,y3⟩:=A7H k3;obtain⟨x4,rfl,y4,z4⟩:=A5W (λr=>D6R h0 h1) k4;exact⟨⟨x1,x2,x3,x4⟩,rfl,y1,y2,y3,y4,z4⟩
def D5q(h0:E.sh 0=B2R)(h1:E.sh 1=B4m)(h:A0Y E n C5p r):∃l:List A1G,r=[.list 4 (A2G l) .no]/\l.length<=maxLen/\∀g∈l,g.good:=A5W (λr=>D6P h0 h1) h
end
abbrev A0L:=Int×Int
def A1y(x:A0L):List AV:=[I x.1,I x.2]
def A1M(l:List A0L):List (List AV):=l.map A1y
@[simp] def D6Q(l:List A0L):(A1M l).length=l.length:=by simp[A1M]
abbrev A3n:Int:=1048577
def A6E(x:A0L):A0L:=(max x.1 0,min x.2 A3n)
def A6U(l:List A0L):List A0L:=(l.map A6E).filter λx=>decide (x.1<x.2)
def A7i(acc:List A0L)(x:A0L):List A0L:=match acc.getLast? with
 |some y=>if x.1<=y.2 then acc.dropLast++[(y.1,max y.2 x.2)]else acc++[x]
 |none=>[x]
def A4a(l:List A0L):List A0L:=(A6U l).foldl A7i []
def Asc(l:List A0L):Prop:=(A6U l).Pairwise λa b=>a.1<b.1
def A5U(l:List A0L):Prop:=(∀x∈l,0<=x.1/\x.1<x.2/\x.2<=A3n)/\l.Pairwise λa b=>a.2<b.1
def bsD(l:List A0L)(d:Int):Nat->Nat->Nat->Nat
 |0,i,_=>i
 |f+1,i,j=>if i<j then(if(l.getD ((i+j)/2) (0,0)).1<d then bsD l d f ((i+j)/2+1) j else bsD l d f i ((i+j)/2))else i
def B0t(l:List A0L)(d:Int):Bool:=
 let a:=bsD l d l.length 0 l.length
 (decide (a<l.length)&&decide ((l.getD a (0,0)).1=d))||(decide (0<a)&&decide (d<(l.getD (a-1) (0,0)).2))
def C4Y(x:Int):List Int->List Int
 |[]=>[x]
 |y::l=>if x<=y then x::y::l else y::C4Y x l
def A7b:List Int->List Int
 |[]=>[]
 |x::l=>C4Y x (A7b l)
def A2V:List Int->List Int
 |[]=>[]
 |[x]=>[x]
 |x::y::l=>if x=y then A2V (y::l)else x::A2V (y::l)
def C2O(a b:List A0L):List Int:=A2V (A7b ((a++b).flatMap λx=>[x.1,x.2]))
def A3M(c:Bool->Bool->Bool)(a b:List A0L):List Int->List A0L
 |x::y::l=>if c (B0t a x) (B0t b x)=true then(x,y)::A3M c a b (y::l)else A3M c a b (y::l)
 |_=>[]
def C0t(c:Bool->Bool->Bool)(a b:List A0L):List A0L:=A4a (A3M c (A4a a) (A4a b) (C2O (A4a a) (A4a b)))
def C6r:List A0L->List A0L->List A0L:=C0t (·&&·)
def C4Q:List A0L->List A0L->List A0L:=C0t (·||·)
def B4l(l:List A0L)(day:Int):List A0L:=C6r l [(0,day)]
def C3f(l:List A0L)(day:Int):List A0L:=C4Q (B4l l day) [(day,A3n)]
structure EnD where
 act:Int
 item:Int
 day:Int
 it:A0G
def EnD.row(d:EnD):List AV:=I d.act::I d.item::I d.day::d.it.row
@[simp] def EnD.row_len(d:EnD):d.row.length=28:=by simp[EnD.row]
def A3Q(l:List EnD):List (List AV):=l.map EnD.row
@[simp] def D8U(l:List EnD):(A3Q l).length=l.length:=by simp[A3Q]
abbrev EnD.kind(d:EnD):Int:=d.it.h.kind
def B3G(acc:List A0X)(a:A0X):List A0X:=if a.number∈acc.map (·.number)then acc else acc++[a]
def A3D(l:List A0X):List A0X:=l.foldl B3G []
def leA(a b:A0X):Bool:=decide (a.day<b.day)||(decide (a.day=b.day)&&decide (a.number<=b.number))
def C5r(x:A0X):List A0X->List A0X
 |[]=>[x]
 |y::l=>if leA x y=true then x::y::l else y::C5r x l
def B5x:List A0X->List A0X
 |[]=>[]
 |x::l=>C5r x (B5x l)
def A4j(l:List A1G):List A0X:=B5x (A3D (l.flatMap A1G.acts))
def A1d(k:Int):Bool:=decide (0<=k)&&decide (k<=6)
def B0k(a i:Int)(x:A0G):Option A0G:=if x.h.kind=11/\x.h.act=a/\x.h.item=i then(match x.by_ with|y::_=>if A1d y.h.kind=true then some y else none|[]=>none)else none
def D5X(acts:List A0X)(a i:Int):Option A0G:=(acts.flatMap A0X.items).foldl (λr x=>match B0k a i x with|some y=>some y|none=>r) none
def A1F(a:A0X):List EnD:=a.items.zipIdx.map λx=>⟨a.number,(x.2:Int),a.day,x.1⟩
def B1e(acts:List A0X)(d:EnD):EnD:=match D5X acts d.act d.item with
 |some x=>if A1d d.kind=true then{d with it:=x}else d
 |none=>d
def A3V(l:List A1G):List EnD:=((A4j l).flatMap A1F).map (B1e (A4j l))
def B1f(a s:A1z):A1z:=if s.k≠0 then s else a
def B2s(nm:ByteArray)(l:List EnD):Option Int:=(l.find? λd=>decide (d.kind=10)&&decide (d.it.h.ev=nm)).map λd=>d.it.h.day
def B0w(s:A1z)(l:List EnD):List A0L:=
 if s.k=1 then C3f [] s.day
 else if s.k=3 then(match B2s s.ev l with|some d=>C3f [] d|none=>[])
 else[]
def B3f(k:Int):Bool:=decide (k=7)||decide (k=8)||decide (k=9)
def B8d(k:Int)(l:List A0L)(day:Int):List A0L:=if k=8 then B4l l day else C3f l day
def A6R(x:A0G)(a i:Int):Bool:=decide (x.h.act=a)&&(if x.h.kind=11 then decide (x.h.item=i)else B3f x.h.kind&&(decide (x.h.item=i)||decide (x.h.item=-1)))
def A8g(a i:Int)(days:List A0L)(o:EnD):List A0L:=if(B3f o.kind&&A6R o.it a i)=true then B8d o.kind days o.it.h.day else days
def B2S(s:A1z)(d:EnD)(l:List EnD):List A0L:=if A1d d.kind=true then l.foldl (A8g d.act d.item) (B0w (B1f s d.it.h.start) l)else[]
def A6f:A1z:=⟨0,0,⟨#[]⟩⟩
def B1I(acts:List A0X)(n:Int):A1z:=((acts.find? λa=>decide (a.number=n)).map A0X.start).getD A6f
def A2O(l:List A1G):List (EnD×List A0L):=((A3V l).filter λd=>A1d d.kind).map λd=>(d,B2S (B1I (A4j l) d.act) d (A3V l))
def C1C(purpose:ByteArray)(d:EnD):Bool:=decide (d.it.h.for_=⟨#[]⟩)||decide (d.it.h.for_=purpose)
def onD(day:Int)(purpose:ByteArray)(l:List A1G):List EnD:=((A2O l).filter λx=>C1C purpose x.1&&B0t (A4a x.2) day).map (·.1)
def A6h(l:List A0L):List Int:=(A4a l).flatMap λx=>if x.2<A3n then[x.1,x.2]else[x.1]
def B1A(l:List A1G):List Int:=A2V (A7b (0::(A2O l).flatMap λx=>A6h x.2))
def hR:A2j:=⟨λ_=>true,λ_=>false,λd=>d==6||d==41||d==74||d==82⟩
section
variable (gl:Nat->AV) (M:Mem)
end
section
end
@[simp] def D9d{p:List ByteArray}{i:Nat}(h:i<(A0J p).length):(A0J p)[i]=[S (p[i]'(by simpa using h))]:=by simp[A0J]
def A3v{g n:Nat}(q:Nat×Nat->Bool):∀{b:List (Nat×Nat)},b.lookup g=some n->(b.filter λx=>x.1==g||q x).lookup g=some n
 |[],h=>by simp at h
 |a::l,h=>by
  by_cases c:a.1=g
  ·(have e:(a.1==g||q a)=true:=by simp[c]);rw[Z2k,Z0c e]
   obtain⟨a1,a2⟩:=a;simp only at c;subst c;simpa[List.lookup]using h
  ·(have hl:l.lookup g=some n:=by obtain⟨a1,a2⟩:=a;(have:(g==a1)=false:=by simpa usingλe=>c e.symm);simpa[List.lookup,this]using h);have ih:=A3v q hl;by_cases e:(a.1==g||q a)=true
   .rw[Z2k,Z0c e];obtain⟨a1,a2⟩:=a;(have:(g==a1)=false:=by simpa usingλe=>c e.symm);simpa[List.lookup,this]using ih
   .rw[Z2k,Z0d e];exact ih
def hX:A2j:=⟨λ_=>true,λ_=>false,λd=>d==81||d==88||d==91||d==135⟩
section
variable (gl:Nat->AV) (M:Mem)
end
def A2B(s:ByteArray):Bool:=decide (1<=s.size)&&decide (s.size<=24)&&decide (A3c (A2g 33 126) s s.size 0<0)
def A3a(ws:List A0z):Bool:=decide (ws.length<=256)&&ws.all λw=>A2B w.text
def B2i(s:ByteArray):List (List AV):=s.data.toList.map λb=>[.val (.int .u8 b.toNat)]
@[simp] def D8T(s:ByteArray):(B2i s).length=s.size:=by simp only[B2i,Z0N,Z0W];rfl
@[simp] def D8X{s:ByteArray}{i:Nat}(h:i<(B2i s).length):(B2i s)[i]=[.val (.int .u8 (A2l s i))]:=by
 have h':i<s.size:=by simpa using h
 rw[B8j s i h'];simp only[B2i,Z3A,Array.getElem_toList];rfl
def C5d(p:Int->Bool)(s:ByteArray){i:Nat}(h:i<s.size):A3c p s (s.size-i) i=if p (A2l s i)then(i:Int)else A3c p s (s.size-(i+1)) (i+1):=by have:s.size-i=(s.size-(i+1))+1:=Q0;rw[this];rfl
def A3b{α:Type}(p:α->Bool):List α->Nat->Int
 |[],_=>-1
 |x::l,i=>if p x then(i:Int)else A3b p l (i+1)
def A7d{α:Type}(p:α->Bool):∀(l:List α) (i:Nat),decide (0<=A3b p l i)=l.any p
 |[],i=>by simp[A3b]
 |x::l,i=>by
  rw[A3b,Z3b];cases h:p x
  .rw[Z0d Q1,Z2J];exact A7d p l (i+1)
  .rw[Z0c rfl,Bool.true_or];exact Z0B (Int.natCast_nonneg i)
abbrev A7P(s:ByteArray):List AV:=[S s]
def A1p.at1{α:Type}{e:Nat}{enc:α->List AV}{M:Mem}{v:AV}{l:List α}{P:Program}{t:TypeId}(h:A1p e 1 enc M v l){f:α->AV}(hf:∀x,enc x=[f x])(ha:A2s P t=some false)(hs:A1j P t=some 1){i:Nat}(hi:i<l.length):∃p,A5O (some (some 1)) v (I i)=some p/\A0M P t M p=some (f l[i]):=by
 have he:∀x,(enc x).length=1:=λx=>by rw[hf];rfl
 rcases h with⟨rfl,rfl⟩|⟨f',g,a,rfl,hm,hl⟩
 .simp at hi
 .refine⟨.vptr f' g (i*1),by simp[hi],?_⟩;simp only[A0M,A2r,hm,hl,Z2j,A0g,ha,hs];rw[Z0e (by rw[A1Z he];exact Z0j _),A3x he,Z0o hi,Z0z,hf];rfl
section
variable (gl:Nat->AV) (M:Mem)
def D8p(c:Int):A0c (WC gl) 296 [.val (.int .u8 c)] M (λv M'=>v=B (A2g 33 126 c)/\M'=M):=by
 refine A1c hB func296 rfl rfl rfl rfl rfl rfl ?_;by_cases h1:c<33
 .simp -dsimp[A2g,h1]
 .simp -dsimp[A2g,h1]
def D5b(s:ByteArray)(hs:s.size<=maxLen):A0c (WC gl) 306 [.list 1 (B2i s) .no,.func (.func 296) [] []] M (λv M'=>v=I (A3c (A2g 33 126) s s.size 0)/\M'=M):=by
 refine A1c hB func306 rfl rfl rfl rfl rfl rfl ?_;have b:s.size<=9223372036854775807:=hs;simp -dsimp;refine A0K hB (λT M1=>∃i:Nat,i<=s.size/\M1=M/\T 0=.list 1 (B2i s) .no/\T 1=.func (.func 296) [] []/\T 7=I s.size/\T 8=I i/\A3c (A2g 33 126) s s.size 0=A3c (A2g 33 126) s (s.size-i) i) (λT M1=>match T 8 with|.val (.int _ i)=>s.size-i.toNat|_=>0) Q2 ?_ ?_
 .exact⟨0,Q0,rfl,Q1,Q1,Q1,Q1,Q1⟩
 .rintro T M1 ⟨i,i1,rfl,t0,t1,t7,t8,ho⟩;by_cases hi:i<s.size
  .have a:(i:Int)<s.size:=Q0;(have w1:IntKind.i64.wrap ((i:Int)+1)=(i+1:Nat):=by rw[A0R Q0 Q0];omega);rw[C5d _ _ hi]at ho;simp -dsimp[t0,t1,t7,t8,hi,a];refine A0v (A0m func296 rfl rfl (D8p gl _ _)) ?_;rintro _ _ ⟨rfl,rfl⟩;cases hp:A2g 33 126 (A2l s i)
   .rw[hp,Z0d Q1]at ho;simp -dsimp[t0,t1,t7,t8,w1];exact⟨⟨i+1,Q3,rfl,ho⟩,Q3⟩
   .rw[hp,Z0c rfl]at ho;simp -dsimp[t0,t1,t7,t8,ho]
  .have a:¬(i:Int)<s.size:=Q0;rw[show s.size-i=0 by omega]at ho;simp -dsimp[t0,t1,t7,t8,a,ho,A3c]
def D3s(s:ByteArray)(hs:s.size<=maxLen):A0c (WC gl) 297 [.list 1 (B2i s) .no,.func (.func 296) [] []] M (λv M'=>v=B (decide (0<=A3c (A2g 33 126) s s.size 0))/\M'=M):=by refine A1c hB func297 rfl rfl rfl rfl rfl rfl ?_;simp -dsimp;refine A0v (A0m func306 rfl rfl (D5b gl M s hs)) ?_;rintro _ _ ⟨rfl,rfl⟩;simp -dsimp
def D1a{h:A2j}{d:Option Tmp}{x:Operand}{t:TypeId}{p:String}{af:Array Edge}{g:Option (Nat×Bool)}{ρ:Operand->AV}{M:Mem}{s:ByteArray}(hx:ρ x=S s)(hs:s.size<2^62):A0W (WC gl) h ⟨d,.convert 9 186 x,t,p,af,g⟩ ρ M=some (.list 1 (B2i s) .no,M):=by
 have a:s.size<4611686018427387904:=by simpa using hs
 simp[A0W,A0I,A1P,A1R,A1a,A7l,hx,A5C,B6h,B2i,a]
def D4Y(s:ByteArray)(hs:s.size<=maxLen):A0c (WC gl) 269 [S s] M (λv M'=>v=B (A2B s)/\M'=M):=by
 refine A1c hB func269 rfl rfl rfl rfl rfl rfl ?_;by_cases h0:s.size=0
 .have he:s=⟨#[]⟩:=B3U.2 h0;have hw:A2B ⟨#[]⟩=false:=by decide
  simp -dsimp[he,hw]
 .have he:¬s=⟨#[]⟩:=λh=>h0 (B3U.1 h);have h1:decide (1<=s.size)=true:=Z0B Q0;by_cases h2:s.size<=24
  .have b:(s.size:Int)<=24:=Q0;(have hw:A2B s=decide (A3c (A2g 33 126) s s.size 0<0):=by simp[A2B,h1,h2]);simp -dsimp[he,b,hw,A5C];rw[D1a gl (s:=s) (by rfl) Q0];simp -dsimp;refine A0v (A0m func297 rfl rfl (D3s gl M s hs)) ?_;rintro _ _ ⟨rfl,rfl⟩;by_cases h3:0<=A3c (A2g 33 126) s s.size 0
   .have a:¬A3c (A2g 33 126) s s.size 0<0:=Q0;rw[Z0I a]at hw;simp -dsimp[h3,a,hw]
   .have a:A3c (A2g 33 126) s s.size 0<0:=Q0;rw[Z0B a]at hw;simp -dsimp[h3,a,hw]
  .have b:¬(s.size:Int)<=24:=Q0;(have hw:A2B s=false:=by simp[A2B,h2]);simp -dsimp[he,b,hw]
def D0W(s:ByteArray)(hs:s.size<=maxLen):A0c (WC gl) 268 [S s] M (λv M'=>v=B (!A2B s)/\M'=M):=by refine A1c hB func268 rfl rfl rfl rfl rfl rfl ?_;simp -dsimp;refine A0v (A0m func269 rfl rfl (D4Y gl M s hs)) ?_;rintro _ _ ⟨rfl,rfl⟩;simp -dsimp
def D5z(l:List ByteArray)(hl:l.length<=3000)(hs:∀s∈l,s.size<=maxLen)(v:AV)(hv:A1p 9 1 A7P M v l):A0c (WC gl) 295 [v,.func (.func 268) [] []] M (λr M'=>r=I (A3b (λs=>!A2B s) l 0)/\M'=M):=by
 refine A1c hB func295 rfl rfl rfl rfl rfl rfl ?_;have b:A2W prog 67 v=some l.length:=hv.len (e':=9) Q1;simp -dsimp[b];refine A0K hB (λT M1=>∃i:Nat,i<=l.length/\M1=M/\T 0=v/\T 1=.func (.func 268) [] []/\T 7=I l.length/\T 8=I i/\A3b (λs=>!A2B s) l 0=A3b (λs=>!A2B s) (l.drop i) i) (λT M1=>match T 8 with|.val (.int _ i)=>l.length-i.toNat|_=>0) Q2 ?_ ?_
 .exact⟨0,Q0,rfl,Q1,Q1,Q1,Q1,Q1⟩
 .rintro T M1 ⟨i,i1,rfl,t0,t1,t7,t8,ho⟩;by_cases hi:i<l.length
  .have a:(i:Int)<l.length:=Q0;have w1:=A1Y (i:=i) Q0;obtain⟨p,p1,p2⟩:=hv.at1 (P:=prog) (t:=9) (f:=S) (λ_=>rfl) Q1 Q1 hi;have hd:l.drop i=l[i]::l.drop (i+1):=Z0o hi;rw[hd,A3b]at ho;simp -dsimp[t0,t1,t7,t8,hi,a,p1,p2];refine A0v (A0m func268 rfl rfl (D0W gl _ l[i] (hs _ (Z0u hi)))) ?_;rintro _ _ ⟨rfl,rfl⟩;cases hp:A2B l[i]
   .rw[hp,Z0c (by rfl)]at ho;simp -dsimp[t0,t1,t7,t8,ho]
   .rw[hp,Z0d Q1]at ho;simp -dsimp[t0,t1,t7,t8,w1];exact⟨⟨i+1,Q3,rfl,ho⟩,Q3⟩
  .have a:¬(i:Int)<l.length:=Q0;rw[show l.drop i=[]from Z0y Q0]at ho;simp -dsimp[t0,t1,t7,t8,a,ho,A3b]
def D3o(l:List ByteArray)(hl:l.length<=3000)(hs:∀s∈l,s.size<=maxLen)(v:AV)(hv:A1p 9 1 A7P M v l):A0c (WC gl) 267 [v,.func (.func 268) [] []] M (λr M'=>r=B (l.any λs=>!A2B s)/\M'=M):=by refine A1c hB func267 rfl rfl rfl rfl rfl rfl ?_;simp -dsimp;refine A0v (A0m func295 rfl rfl (D5z gl M l hl hs v hv)) ?_;rintro _ _ ⟨rfl,rfl⟩;rw[<-A7d _ l 0];simp -dsimp
def B9v(l:List ByteArray)(hl:l.length<=3000)(hs:∀s∈l,s.size<=maxLen)(v:AV)(hv:A1p 9 1 A7P M v l):A0c (WC gl) 231 [v] M (λr M'=>r=B (decide (l.length<=256)&&l.all A2B)/\M'=M):=by
 refine A1c hB func231 rfl rfl rfl rfl rfl rfl ?_;have a:A2W prog 67 v=some l.length:=hv.len (e':=9) Q1;by_cases h1:l.length<=256
 .have b:(l.length:Int)<=256:=Q0;simp -dsimp[a,b,h1];refine A0v (A0m func267 rfl rfl (D3o gl M l hl hs v hv)) ?_;rintro _ _ ⟨rfl,rfl⟩;have:(l.any λs=>!A2B s)=!l.all A2B:=by rw[Z3n]
  rw[this];simp -dsimp[h1]
 .have b:¬(l.length:Int)<=256:=Q0;simp -dsimp[a,b,h1]
end
def A1k(l:List A0z):List ByteArray:=l.map A0z.text
def B0g:List (List Int):=[[1,2],[2],[3,4,7],[3,4,7],[5],[6],[],[]]
def A4h(p k:Int):Bool:=decide (0<=p)&&decide (p<8)&&(B0g.getD p.toNat []).contains k
def C9a(l:List A0z):(A1k l).all A2B=l.all λw=>A2B w.text:=by simp[A1k,List.all_map];rfl
def hQ(l:List Nat):A2j:=⟨λ_=>true,λ_=>false,λd=>l.contains d⟩
@[simp] def E4J{l:List Nat}:(hQ l).imm=λ_=>true:=(rfl)
@[simp] def E3G{l:List Nat}:(hQ l).own=λ_=>false:=(rfl)
@[simp] def E3U{l:List Nat}:(hQ l).vec=λd=>l.contains d:=(rfl)
section
variable (gl:Nat->AV) (M:Mem)
def C9S{own vec:Bool}{K:AV->Mem->Prop}{tg:Tag K}{v:AV}{M:Mem}{l:List ByteArray}{s:ByteArray}{o:Own}(hv:A1p 9 1 A7P M v l)(hl:l.length<=1000000000)(a:vec=true) (hk:∀v' M',A1p 9 1 A7P M' v' (l++[s])->A0d (obj v) M M'->(obj v'=obj v\/A1K M.length v')->K v' M'):A3s (WC gl) own vec 67 67 v (.list 1 [[S s]] o) M K tg:=by
 refine A3u (C:=WC gl) (enc:=A7P) (e:=9) (sz:=1) (news:=[s]) B8V C3D D1O (λ_=>rfl) hv (by simp[A0D]) (by simp;omega) a ?_
 intro v' M' h1 h2 h3 _
 exact hk v' M' h1 h2 h3
def A2R{M M1 M2:Mem}{v v':AV}{X:List A0l}(h1:Grow M M1)(hl:A1K M.length v)(h2:A0d (obj v) (M1++X) M2)(h3:obj v'=obj v\/A1K (M1++X).length v'):Grow M M2/\A1K M.length v':=by
 refine⟨⟨?_,λi hi _=>?_⟩,λf hf=>?_⟩
 .have:=h1.1;have:=h2.1;simp at this;omega
 .rw[h2.2 i (by have:=h1.1;simp;omega) (λe=>by have:=hl _ e;omega),Z0n (by have:=h1.1;omega)];exact h1.2 i hi Q1
 .rcases h3 with e|e
  .exact hl f (by rw[<-e];exact hf)
  .have:=e f hf;have:=h1.1;simp at*;omega
def D2B(ws:List A0z)(o:Own)(hl:ws.length<=100000000)(hs:∀w∈ws,w.text.size<=maxLen):A0c (WC gl) 305 [.list 4 (A0i ws) o] M (λv M'=>v=B (A3a ws)/\M'=M):=by
 have key:A0c (WC gl) 305 [.list 4 (A0i ws) o] M (λv M'=>(∃x,v=.val x/\x=.bool (A3a ws))/\Grow M M'):=by
  refine A1c (hQ [16]) func305 rfl rfl rfl rfl rfl rfl ?_;simp -dsimp;refine A0K (hQ [16]) (λT M1=>∃i:Nat,i<=ws.length/\T 0=.list 4 (A0i ws) o/\T 6=.list 4 (A0i ws) o/\T 7=I ws.length/\T 8=I i/\A1p 9 1 A7P M1 (T 3) (A1k (ws.take i))/\Grow M M1/\A1K M.length (T 3)) (λT M1=>match T 8 with|.val (.int _ i)=>ws.length-i.toNat|_=>0) Q2 ?_ ?_
  .exact⟨0,Q0,Q1,Q1,Q1,Q1,by simpa[A1k]using A1p.nil,A0d.refl _ _,by simp[A1K]⟩
  .rintro T M1 ⟨i,i1,t0,t6,t7,t8,hv,hg,hL⟩;by_cases hi:i<ws.length
   .have a:(i:Int)<ws.length:=Q0;(have w1:IntKind.i64.wrap ((i:Int)+1)=(i+1:Nat):=by rw[A0R Q0 Q0];omega);generalize d:T 3=ov at*;(have e:(M1++[A0l.cells 233 [S ws[i].text,I ws[i].act,I ws[i].item,I ws[i].at_]])[M1.length]?=some (A0l.cells 233 [S ws[i].text,I ws[i].act,I ws[i].item,I ws[i].at_]):=by simp);have c:A1p 9 1 A7P (M1++[A0l.cells 233 [S ws[i].text,I ws[i].act,I ws[i].item,I ws[i].at_]]) ov (A1k (ws.take i)):=hv.keep (A0d.app none M1 _) Q1;(have ht:A1k (ws.take (i+1))=A1k (ws.take i)++[ws[i].text]:=by rw[A1k,A1k,Z0A,Z0i hi,Z1c];rfl);simp -dsimp[t0,t6,t7,t8,hi,a,d,A0j,A0k,A0e,A0z.row,A0b e,A0w,A1e];refine C9S gl c (by simp[A1k];omega) rfl ?_;intro v' M' h1 h2 h3;obtain⟨k1,k2⟩:=A2R hg hL h2 h3;simp -dsimp[t0,t6,t7,t8,w1];exact⟨⟨i+1,Q3,rfl,by rw[ht];exact h1,k1,k2⟩,Q3⟩
   .have a:¬(i:Int)<ws.length:=Q0;rw[Z0e Q0]at hv;by_cases h3:ws.length<=256
    .have b:(ws.length:Int)<=256:=Q0;simp -dsimp[t0,t6,t7,t8,a,b];refine A0v (A0m func231 rfl rfl (B9v gl M1 (A1k ws) (by simp[A1k];omega) (by simpa[A1k]using hs) (T 3) hv)) ?_;rintro _ _ ⟨rfl,rfl⟩;rw[C9a];simp -dsimp[A3a,A1k,hg]
    .have b:¬(ws.length:Int)<=256:=Q0;simp -dsimp[t0,t6,t7,t8,a,b,A3a,hg,h3]
 have:=B0R (Q:=λx=>x=.bool (A3a ws)) key;exact this.mono (by rintro v M' ⟨⟨x,rfl,rfl⟩,rfl⟩;exact⟨rfl,rfl⟩)
end
def A8S(l:List Int):List (List AV):=l.map λx=>[I x]
@[simp] def D9l(l:List Int):(A8S l).length=l.length:=by simp[A8S]
@[simp] def D9h{p:List Int}{i:Nat}(h:i<(A8S p).length):(A8S p)[i]=[I (p[i]'(by simpa using h))]:=by simp[A8S]
def A1C:AV:=.cptr (B0g.map λl=>.list 1 (A8S l) .no)
def A8L:List ByteArray:=[⟨#[98,111,111,107]⟩,⟨#[112,97,114,116]⟩,⟨#[115,101,99,116,105,111,110]⟩,⟨#[112,97,114,97,103,114,97,112,104]⟩,⟨#[116,97,98,108,101]⟩,⟨#[114,111,119]⟩,⟨#[99,101,108,108]⟩,⟨#[110,111,116,101]⟩]
def A1U:AV:=.cptr (A8L.map S)
section
variable (gl:Nat->AV) (M:Mem)
def C7U(l:List Int)(o:Own)(hl:l.length<=3000)(x:Int):A0c (WC gl) 287 [.list 1 (A8S l) o,I x] M (λv M'=>v=I (A3b (λy=>decide (x=y)) l 0)/\M'=M):=by
 refine A1c hB func287 rfl rfl rfl rfl rfl rfl ?_;simp -dsimp;refine A0K hB (λT M1=>∃i:Nat,i<=l.length/\M1=M/\T 0=.list 1 (A8S l) o/\T 1=I x/\T 7=I l.length/\T 8=I i/\A3b (λy=>decide (x=y)) l 0=A3b (λy=>decide (x=y)) (l.drop i) i) (λT M1=>match T 8 with|.val (.int _ i)=>l.length-i.toNat|_=>0) Q2 ?_ ?_
 .exact⟨0,Q0,rfl,Q1,Q1,Q1,Q1,Q1⟩
 .rintro T M1 ⟨i,i1,rfl,t0,t1,t7,t8,ho⟩;by_cases hi:i<l.length
  .have a:(i:Int)<l.length:=Q0;have w1:=A1Y (i:=i) Q0;have hd:l.drop i=l[i]::l.drop (i+1):=Z0o hi;rw[hd,A3b]at ho;by_cases hp:x=l[i]
   .rw[Z0B hp,Z0c rfl]at ho;simp -dsimp[t0,t1,t7,t8,hi,a,hp.symm,ho]
   .rw[Z0I hp,Z0d Q1]at ho;simp -dsimp[t0,t1,t7,t8,hi,a,hp,w1];exact⟨⟨i+1,Q3,rfl,ho⟩,Q3⟩
  .have a:¬(i:Int)<l.length:=Q0;rw[show l.drop i=[]from Z0y Q0]at ho;simp -dsimp[t0,t1,t7,t8,a,ho,A3b]
def C1r(l:List Int)(o:Own)(hl:l.length<=3000)(x:Int):A0c (WC gl) 258 [.list 1 (A8S l) o,I x] M (λv M'=>v=B (l.contains x)/\M'=M):=by
 refine A1c hB func258 rfl rfl rfl rfl rfl rfl ?_;simp -dsimp;refine A0v (A0m func287 rfl rfl (C7U gl M l o hl x)) ?_;rintro _ _ ⟨rfl,rfl⟩;have:l.contains x=l.any λy=>decide (x=y):=by rw[List.contains_eq_any_beq];congr 1
 rw[this,<-A7d _ l 0];simp -dsimp
def D7l:C1j prog 307=some (8,82):=Q2
def D7p:C1j prog 184=some (8,9):=Q2
def D0e{h:A2j}{d:Option Tmp}{y:Operand}{t:TypeId}{p:String}{af:Array Edge}{g:Option (Nat×Bool)}{ρ:Operand->AV}{M:Mem}{k:Int}(h0:ρ (.global 2)=A1C)(hy:ρ y=I k)(k0:0<=k)(k8:k<8):A0W (WC gl) h ⟨d,.indexAddr 307 (.global 2) y,t,p,af,g⟩ ρ M=some (.cptr ((B0g.map λl=>AV.list 1 (A8S l) .no).drop k.toNat),M):=by simp[A0W,A0I,A1P,A1R,A1a,h0,hy,A1C,D7l,k0,k8]
def D0c{h:A2j}{d:Option Tmp}{y:Operand}{t:TypeId}{p:String}{af:Array Edge}{g:Option (Nat×Bool)}{ρ:Operand->AV}{M:Mem}{k:Int}(h0:ρ (.global 8)=A1U)(hy:ρ y=I k)(k0:0<=k)(k8:k<8):A0W (WC gl) h ⟨d,.indexAddr 184 (.global 8) y,t,p,af,g⟩ ρ M=some (.cptr ((A8L.map S).drop k.toNat),M):=by simp[A0W,A0I,A1P,A1R,A1a,h0,hy,A1U,D7p,k0,k8]
def C3C{e:Option (Option Nat)}{x i:AV}{cs:List AV}(h:x=.cptr cs):A5O e x i=none:=by subst h;unfold A5O;split<;>simp_all
def B2c(hg:gl 2=A1C)(p k:Int):A0c (WC gl) 209 [I p,I k] M (λv M'=>v=B (A4h p k)/\M'=M):=by
 refine A1c hB func209 rfl rfl rfl rfl rfl rfl ?_;by_cases h0:0<=p;case neg=>
  have b:¬p>=0:=h0;have e:A4h p k=false:=by simp[A4h,h0]
  simp -dsimp[h0,b,e]
 have b:p>=0:=h0;by_cases h1:p<8;case neg=>
  have e:A4h p k=false:=by simp[A4h,h1]
  simp -dsimp[h0,b,h1,e]
 have hn:∀e,A5O e (gl 2) (I p)=none:=λe=>C3C hg;simp -dsimp[h0,b,h1,hn];rw[D0e gl (k:=p) (by exact hg) (by rfl) h0 h1];have c:p.toNat<B0g.length:=by show p.toNat<8;omega
 have hd:(B0g.map λl=>AV.list 1 (A8S l) .no).drop p.toNat=.list 1 (A8S B0g[p.toNat]) .no::(B0g.map λl=>AV.list 1 (A8S l) .no).drop (p.toNat+1):=by rw[Z0o (by simpa using c),Z3A]
 have a:∀l∈B0g,l.length<=3000:=by decide
 have e:A4h p k=B0g[p.toNat].contains k:=by simp only[A4h,Z0B h0,Z0B h1,Z0V,Z1Q,Z0i c,Z1E]
 rw[e];simp -dsimp[hd];refine A0v (A0m func258 rfl rfl (C1r gl M _ .no (a _ (Z0u c)) k)) ?_;rintro _ _ ⟨rfl,rfl⟩;simp -dsimp
def A4m(k:Int):ByteArray:=if 0<=k/\k<8 then A8L.getD k.toNat .empty else⟨#[]⟩
def A5V(k:Int):A4m k=⟨#[]⟩<->¬(0<=k/\k<8):=by
 unfold A4m;constructor
 .intro h hk;rw[Z0c hk]at h;have:∀i:Fin 8,A8L.getD i.val .empty≠⟨#[]⟩:=by decide
  exact this ⟨k.toNat,Q0⟩ h
 .intro h;rw[Z0d h]
def B0C(hg:gl 8=A1U)(k:Int):A0c (WC gl) 303 [I k] M (λv M'=>v=S (A4m k)/\M'=M):=by
 refine A1c hB func303 rfl rfl rfl rfl rfl rfl ?_;by_cases h0:k<0
 .have e:A4m k=⟨#[]⟩:=(A5V k).2 Q0;simp -dsimp[h0,e]
 by_cases h1:8<=k
 .have a:k>=8:=h1;have e:A4m k=⟨#[]⟩:=(A5V k).2 Q0;simp -dsimp[h0,h1,a,e]
 have a:¬k>=8:=h1;have hn:∀e,A5O e (gl 8) (I k)=none:=λe=>C3C hg;simp -dsimp[h0,h1,a,hn];rw[D0c gl (k:=k) (by exact hg) (by rfl) Q0 Q0];have b:k.toNat<A8L.length:=by show k.toNat<8;omega
 have hd:(A8L.map S).drop k.toNat=S A8L[k.toNat]::(A8L.map S).drop (k.toNat+1):=by rw[Z0o (by simpa using b),Z3A]
 have e:A4m k=A8L[k.toNat]:=by rw[A4m,Z0c Q0,Z1Q,Z0i b];rfl
 rw[e];simp -dsimp[hd]
end
section
mutual
def A3H{A:Type}(p:A0a->Bool)(stp:A->A0a->A):A0a->A->Bool×A
 |.mk id k l h w ks,a=>if p (.mk id k l h w ks)then A4c p stp ks (stp a (.mk id k l h w ks))else(false,stp a (.mk id k l h w ks))
def A4c{A:Type}(p:A0a->Bool)(stp:A->A0a->A):List A0a->A->Bool×A
 |[],a=>(true,a)
 |u::l,a=>if(A3H p stp u a).1 then A4c p stp l (A3H p stp u a).2 else(false,(A3H p stp u a).2)
end
section
variable (gl:Nat->AV)
end
end
abbrev C1K(x:Int×ByteArray):AV:=.agg [I x.1,S x.2]
abbrev C7q(x:IdD):AV:=.agg x.row
def D3h:prog.stoodInHeld 337=false:=Q2
def D5u:prog.stoodInHeld 23=false:=Q2
def D5Q{a b:ByteArray}:(a.data==b.data)=decide (a=b):=by
 by_cases h:a=b
 .subst h;simp
 .rw[Z0I h];refine Z1P.2 λe=>h ?_;cases a;cases b;simp only at e;rw[e]
def D4z(a:ByteArray):(a==a)=true:=by show(a.data==a.data)=true;simp
def D0h{x y:Int}(h:¬x=y):(x==y)=false:=Z1P.2 h
def C0v:B1Y prog 335 337 4 C1K:=by
 refine⟨Q2,Q2,λk=>?_,λa b=>?_,λa=>⟨.agg #[.int .i64 a.1,.string a.2],by simp[A7z],?_⟩⟩
 .simp[A4I,A0g,underlying337]
 .obtain⟨x,s⟩:=a;obtain⟨y,t⟩:=b;simp[A9N,A2H,A0g,D3h];rw[D5Q];by_cases h1:x=y
  .subst h1;by_cases h2:s=t
   .subst h2;simp
   .simp[h2]
  .simp[h1,D0h h1]
 .simp[Instr.sameBits,D4z]
def C7v(t e:TypeId)(c:A7S prog t=some (23,e)):B1Y prog t 23 e C7q:=by
 refine⟨c,Q2,λk=>?_,λa b=>?_,λa=>⟨.agg #[.int .i64 a.act,.int .i64 a.item,.int .i64 a.n],by simp[A7z,IdD.row],?_⟩⟩
 .simp[A4I,A0g,IdD.row]
 .obtain⟨x,y,z⟩:=a;obtain⟨x',y',z'⟩:=b;simp[A9N,A2H,A0g,D5u,IdD.row];by_cases h1:x=x'
  .subst h1;by_cases h2:y=y'
   .subst h2;by_cases h3:z=z'
    .subst h3;simp
    .simp[h3,D0h h3]
   .simp[h2,D0h h2]
  .simp[h1,D0h h1]
 .simp[Instr.sameBits]
@[simp] def E1j{a:Int}{b:ByteArray}:A0A prog 337 [(0,I a),(1,S b)]=some (.agg [I a,S b]):=by
 simp[A0A,A1m,putCells,A0e]
@[simp] def A5X:A0A prog 23 []=some (.agg [I 0,I 0,I 0]):=by
 simp[A0A,A1m]
def B4A{K:Type}[DecidableEq K](c:K):∀A3l:List K,A4Y (A3l.map λx=>(x,true)) c=if(A3l.any λy=>decide (y=c))then some true else none
 |[]=>rfl
 |x::l=>by
  rw[Z0w,A4Y,Z3b];by_cases h:c=x
  .subst h;simp
  .rw[Z0d h,Z0I (λe=>h e.symm),Z2J];exact B4A c l
def B4o{K:Type}[DecidableEq K](c:K):∀A3l:List K,(A3l.any λy=>decide (y=c))=false->B1P (A3l.map λx=>(x,true)) c true=(A3l++[c]).map λx=>(x,true)
 |[],_=>rfl
 |x::l,h=>by
  rw[Z3b,Z3I]at h;have h1:¬c=x:=λe=>by subst e;simp at h
  rw[Z0w,B1P,Z0d h1,B4o c l h.2];rfl
def B9f(u:A0a):Bool:=if u.kind=0 then decide (u.label.size=0)&&decide (u.head.length+u.words.length=0)else decide (0<=u.kind/\u.kind<8)&&A1u u.label&&A3a u.head&&A3a u.words
def A8c(kind:Int):List A0a->List (Int×ByteArray)->Bool
 |[],_=>true
 |k::ks,A3l=>A4h kind k.kind&&!(A3l.any λy=>decide (y=(k.kind,k.label)))&&A8c kind ks (A3l++[(k.kind,k.label)])
def A8B(u:A0a):Bool:=B9f u&&A8c u.kind u.kids []&&decide (u.kids.length<=64)
def A0a.lim(u:A0a):Prop:=u.head.length<=100000000/\u.words.length<=100000000/\u.kids.length<=3000/\u.label.size<=1000
section
variable (gl:Nat->AV) (M:Mem)
set_option maxHeartbeats 1000000 in
def D2O(am:gl 2=A1C)(ae:gl 8=A1U)(u:A0a)(hg:u.good)(hl:u.lim):A0c (WC gl) 292 [.agg u.row] M (λv M'=>v=B (A8B u)/\Grow M M'):=by
 obtain⟨id,kind,lab,hd,ws,ks⟩:=u;obtain⟨_,_,_,_,ak,_,an,_,ap⟩:=(A0a.good_iff _).1 hg;obtain⟨a4,a3,af,ab⟩:=hl;have a4:hd.length<=100000000:=a4;have a3:ws.length<=100000000:=a3;have af:ks.length<=3000:=af;have ab:lab.size<=1000:=ab;have ac:(A0a.mk id kind lab hd ws ks).row=[I id.act,I id.item,I id.n,I kind,S lab,.list 4 (A0i hd) .no,.list 4 (A0i ws) .no,.list 8 (A0q ks) .no]:=by rw[A0a.row]
 have a5:A8B (.mk id kind lab hd ws ks)=(B9f (.mk id kind lab hd ws ks)&&A8c kind ks []&&decide (ks.length<=64)):=rfl;have b:B9f (.mk id kind lab hd ws ks)=if kind=0 then decide (lab.size=0)&&decide (hd.length+ws.length=0)else decide (0<=kind/\kind<8)&&A1u lab&&A3a hd&&A3a ws:=rfl;rw[ac];obtain⟨R,hR⟩:=ex (A8B (.mk id kind lab hd ws ks));rw[<-hR];have a:B9f (.mk id kind lab hd ws ks)=false->R=false:=λh=>by rw[hR,a5,h];rfl
 refine A1c hW func292 rfl rfl rfl rfl rfl rfl ?_;by_cases k0:kind=0;case' pos=>
  rw[Z0c k0]at b;by_cases h1:lab=⟨#[]⟩;case neg=>have a8:¬lab.size=0:=λe=>h1 (B3U.2 e);have:=a (by rw[b,Z0I a8,Z0J]);simp -dsimp -implicitDefEqProofs[Z2o k0,h1,this,A0d.refl]
  have a8:lab.size=0:=B3U.1 h1;have wz:IntKind.i64.wrap ((hd.length:Int)+(ws.length:Int))=(hd.length:Int)+(ws.length:Int):=A0R Q0 Q0;by_cases h2:hd.length+ws.length=0;case neg=>have l:(0:Int)<(hd.length:Int)+(ws.length:Int):=Q0;have a6:(hd.length:Int)+(ws.length:Int)>0:=l;have:=a (by rw[b,Z0I h2,Z2V]);simp -dsimp -implicitDefEqProofs[Z2o k0,Z2o h1,wz,l,a6,this,A0d.refl]
  have l:¬(0:Int)<(hd.length:Int)+(ws.length:Int):=Q0;have a6:¬(hd.length:Int)+(ws.length:Int)>0:=l;have p:B9f (.mk id kind lab hd ws ks)=true:=by rw[b,Z0B a8,Z0B h2];rfl
  have g:Grow M M:=A0d.refl _ _;simp -dsimp -implicitDefEqProofs[Z2o k0,Z2o h1,wz,l,a6]
 case' neg=>
  rw[Z0d k0]at b;by_cases h1:0<=kind/\kind<8;case neg=>have e:A4m kind=⟨#[]⟩:=(A5V kind).2 h1;have:=a (by rw[b,Z0I h1];rfl);simp -dsimp -implicitDefEqProofs[k0];refine A0v (A0m func303 rfl rfl (B0C gl M ae kind)) ?_;rintro _ _ ⟨rfl,rfl⟩;simp -dsimp -implicitDefEqProofs[e,this,A0d.refl]
  have e:¬A4m kind=⟨#[]⟩:=λq=>(A5V kind).1 q h1;rw[Z0B h1,Z0V]at b;simp -dsimp -implicitDefEqProofs[k0];refine A0v (A0m func303 rfl rfl (B0C gl M ae kind)) ?_;rintro _ M0 ⟨rfl,rfl⟩;simp -dsimp -implicitDefEqProofs[e];refine A0v (A0m func66 rfl rfl (B3p gl M0 lab)) ?_;rintro _ M ⟨rfl,g⟩;cases h2:A1u lab;case false=>have:=a (by rw[b,h2];rfl);simp -dsimp -implicitDefEqProofs[this,g]
  rw[h2,Z0V]at b;simp -dsimp -implicitDefEqProofs;refine A0v (A0m func305 rfl rfl (D2B gl M hd .no a4 (λw hw=>(ak w hw).1))) ?_;rintro _ M ⟨rfl,rfl⟩;cases h3:A3a hd;case false=>have:=a (by rw[b,h3];rfl);simp -dsimp -implicitDefEqProofs[this,g]
  rw[h3,Z0V]at b;simp -dsimp -implicitDefEqProofs;refine A0v (A0m func305 rfl rfl (D2B gl M ws .no a3 (λw hw=>(an w hw).1))) ?_;rintro _ M ⟨rfl,rfl⟩;cases h4:A3a ws;case false=>have:=a (by rw[b,h4]);simp -dsimp -implicitDefEqProofs[this,g]
  have p:B9f (.mk id kind lab hd ws ks)=true:=by rw[b,h4]
  simp -dsimp -implicitDefEqProofs
 all_goals
  have d:R=(A8c kind ks []&&decide (ks.length<=64)):=by rw[hR,a5,p,Z0V]
  have a2:=λ{X:Mem} (h:Grow M X)=>g.trans h
  clear a a5 b hR p
  refine A0K hW (λT M1=>∃i:Nat,i<=ks.length/\T 1=.cptr [I id.act,I id.item,I id.n,I kind,S lab,.list 4 (A0i hd) .no,.list 4 (A0i ws) .no,.list 8 (A0q ks) .no]/\T 3=.mapr M.length/\T 47=.list 8 (A0q ks) .no/\T 48=I ks.length/\T 49=I i/\Grow M M1/\
   ∃A3l,A2Y C1K B M1 M.length (A3l.map λx=>(x,true))/\A8c kind ks []=A8c kind (ks.drop i) A3l)
   (λT M1=>match T 49 with|.val (.int _ i)=>ks.length-i.toNat|_=>0) Q2 ?_ ?_
  .exact⟨0,Q0,Q1,Q1,Q1,Q1,Q1,A0d.app none M _,[],A2Y.new M,Q1⟩
  .rintro T M2 ⟨i,i1,t1,t3,a1,a0,s,a7,A3l,ah,ho⟩;by_cases hi:i<ks.length
   .have r:(i:Int)<ks.length:=Q0;have w1:=A1Y (i:=i) Q0;have aj:ks.drop i=ks[i]::ks.drop (i+1):=Z0o hi;rw[aj,A8c]at ho;obtain⟨X,hX⟩:=ex (ks[i]);(have al:ks[i].row=[I X.id.act,I X.id.item,I X.id.n,I X.kind,S X.label,.list 4 (A0i X.head) .no,.list 4 (A0i X.words) .no,.list 8 (A0q X.kids) .no]:=by rw[<-hX];exact X.row_eq);rw[<-hX]at ho;(have ag:(M2++[A0l.cells 30 [I X.id.act,I X.id.item,I X.id.n,I X.kind,S X.label,.list 4 (A0i X.head) .no,.list 4 (A0i X.words) .no,.list 8 (A0q X.kids) .no]])[M2.length]?=some (A0l.cells 30 [I X.id.act,I X.id.item,I X.id.n,I X.kind,S X.label,.list 4 (A0i X.head) .no,.list 4 (A0i X.words) .no,.list 8 (A0q X.kids) .no]):=by simp);simp -dsimp -implicitDefEqProofs[t1,t3,a1,a0,s,hi,r,A0j,A0k,A0e,AV.storable,AV.cells,al,A0b ag];obtain⟨c,hc⟩:=ex ((X.kind,X.label):Int×ByteArray);(have ai:AV.agg [I X.kind,S X.label]=C1K c:=by rw[hc]);generalize t:M2++[A0l.cells 30 [I X.id.act,I X.id.item,I X.id.n,I X.kind,S X.label,.list 4 (A0i X.head) .no,.list 4 (A0i X.words) .no,.list 8 (A0q X.kids) .no],A0l.cells 337 [I X.kind,S X.label]]=M3;(have a9:M3[M2.length+1]?=some (A0l.cells 337 [I X.kind,S X.label]):=by rw[<-t];simp);(have aa:M3[M2.length]?=some (A0l.cells 30 [I X.id.act,I X.id.item,I X.id.n,I X.kind,S X.label,.list 4 (A0i X.head) .no,.list 4 (A0i X.words) .no,.list 8 (A0q X.kids) .no]):=by rw[<-t];simp);(have ad:Grow M2 M3:=by rw[<-t];exact A0d.app none _ _);have m:=ah.keep ad Q1;have f:=a7.trans ad;clear t ag;simp -dsimp -implicitDefEqProofs[t1,A0b aa];refine A0v (A0m func209 rfl rfl (B2c gl M3 am kind X.kind)) ?_;rintro _ _ ⟨rfl,rfl⟩;cases hn:A4h kind X.kind;(case false=>rw[hn,Z0J,Z0J]at ho;rw[ho,Z0J]at d;simp -dsimp -implicitDefEqProofs[t1,d,a2 f]);rw[hn,Z0V]at ho;have o:=m.get C0v c (z:=B false) Q2 false;rw[<-ai]at o;rw[B4A]at o;rw[<-hc]at ho;simp -dsimp -implicitDefEqProofs[t3,A0b a9,o];cases hs:A3l.any λy=>decide (y=c);(case true=>rw[hs,Z3x,Z0J]at ho;rw[ho,Z0J]at d;simp -dsimp -implicitDefEqProofs[t1,d,a2 f]);rw[hs,Z3M,Z0V]at ho;obtain⟨M4,p1,p2,p3⟩:=m.put C0v c true;rw[B4o c A3l hs]at p2;rw[<-ai]at p1;(have ao:Grow M M4:=by refine⟨Z0L f.1 p3.1,λj hj _=>?_⟩;rw[p3.2 j (by have:=f.1;omega) (by simp;omega)];exact f.2 j hj Q1);simp -dsimp -implicitDefEqProofs[t3,A0b a9,p1,t1,a1,a0,s,w1];exact⟨⟨i+1,Q3,rfl,ao,A3l++[c],p2,ho⟩,Q3⟩
   .have r:¬(i:Int)<ks.length:=Q0;rw[show ks.drop i=[]from Z0y Q0,A8c]at ho;rw[ho,Z0V]at d;by_cases h64:ks.length<=64
    .have k:(ks.length:Int)<=64:=Q0;rw[Z0B h64]at d;simp -dsimp -implicitDefEqProofs[t1,a1,a0,s,r,k,d,a2 a7]
    .have k:¬(ks.length:Int)<=64:=Q0;rw[Z0I h64]at d;simp -dsimp -implicitDefEqProofs[t1,a1,a0,s,r,k,d,a2 a7]
end
def A2J(u:A0a):Bool:=decide (0<=u.kind/\u.kind<=7)&&decide (u.kids.length<=64)&&A3a u.head&&A3a u.words&&(if u.kind=0 then decide (u.label.size=0)&&decide (u.head.length=0)&&decide (u.words.length=0)else A1u u.label)
def A8F(a b:A0a):Bool:=decide (a.kind=b.kind)&&decide (a.label=b.label)
mutual
def A1o:A0a->Bool
 |.mk id k l h w ks=>A2J (.mk id k l h w ks)&&A4g k ks []
def A4g(kind:Int):List A0a->List A0a->Bool
 |[],_=>true
 |k::ks,before=>A4h kind k.kind&&A1o k&&!(before.any λa=>A8F a k)&&A4g kind ks (before++[k])
end
mutual
def A0a.lims:A0a->Prop
 |.mk id k l h w ks=>(A0a.mk id k l h w ks).lim/\A4U ks
def A4U:List A0a->Prop
 |[]=>True
 |k::ks=>k.lims/\A4U ks
end
def A4d:∀{l:List A0a},A4U l<->∀u∈l,u.lims
 |[]=>by simp[A4U]
 |u::l=>by simp[A4U,A4d (l:=l)]
section
variable (gl:Nat->AV)
end
mutual
def A0x:A0a->Nat
 |.mk _ _ _ _ _ ks=>1+A0H ks
def A0H:List A0a->Nat
 |[]=>0
 |k::ks=>A0x k+A0H ks
end
mutual
def A1i:A0a->Nat
 |.mk _ _ _ _ _ ks=>A1L ks
def A1L:List A0a->Nat
 |[]=>0
 |k::ks=>max (1+A1i k) (A1L ks)
end
mutual
def A0T:A0a->List IdD
 |.mk id _ _ _ _ ks=>id::A2N ks
def A2N:List A0a->List IdD
 |[]=>[]
 |k::ks=>A0T k++A2N ks
end
mutual
def B8O:∀u:A0a,A1i u<A0x u
 |.mk _ _ _ _ _ ks=>by rw[A1i,A0x];have:=C0k ks;omega
def C0k:∀ks:List A0a,A1L ks<=A0H ks
 |[]=>by rw[A1L,A0H];exact Z0j _
 |k::ks=>by rw[A1L,A0H];have:=B8O k;have:=C0k ks;omega
end
mutual
def A3C:∀u:A0a,(A0T u).length=A0x u
 |.mk _ _ _ _ _ ks=>by rw[A0T,A0x,Z0q,B7C ks];omega
def B7C:∀ks:List A0a,(A2N ks).length=A0H ks
 |[]=>by rw[A2N,A0H];rfl
 |k::ks=>by rw[A2N,A0H,Z0k,A3C k,B7C ks]
end
def A7R(u:A0a):0<A0x u:=by obtain⟨a,b,c,d,e,f⟩:=u;rw[A0x];omega
def A3B:∀{ks:List A0a} {k:A0a},k∈ks->A0x k<=A0H ks
 |[],_,h=>by simp at h
 |x::ks,k,h=>by
  rw[A0H];rcases Z0r.1 h with rfl|h
  .omega
  .have:=A3B h;omega
def A2t:∀ks:List A0a,ks.length<=A0H ks
 |[]=>by simp[A0H]
 |k::ks=>by rw[A0H,Z0q];have:=A7R k;have:=A2t ks;omega
def C2N{ks:List A0a}{i:Nat}(h:i<ks.length):A1L (ks.drop i)=max (1+A1i ks[i]) (A1L (ks.drop (i+1))):=by rw[Z0o h,A1L]
section
variable (gl:Nat->AV)
def B7v:∀(u:A0a) (M:Mem),u.good->A0x u<=3000->A0c (WC gl) 213 [.agg u.row] M (λv M'=>(∃x,v=.val x/\x=.int .i64 (A1i u))/\M'=M)
 |.mk id kind lab hd ws ks,M,hg,hc=>by
  refine B0R ?_;obtain⟨_,_,t,_,r,_,w,_,c⟩:=(A0a.good_iff _).1 hg;have c:∀k∈ks,k.good:=c;have s:1+A0H ks<=3000:=by rwa[A0x]at hc
  have q:=A2t ks;have m:(A0a.mk id kind lab hd ws ks).row=[I id.act,I id.item,I id.n,I kind,S lab,.list 4 (A0i hd) .no,.list 4 (A0i ws) .no,.list 8 (A0q ks) .no]:=by rw[A0a.row]
  have o:A1i (.mk id kind lab hd ws ks)=A1L ks:=by rw[A1i]
  rw[m,o];refine A1c hW func213 rfl rfl rfl rfl rfl rfl ?_;simp -dsimp;refine A0K hW (λT M1=>∃i:Nat,i<=ks.length/\T 7=.list 8 (A0q ks) .no/\T 8=I ks.length/\T 9=I i/\Grow M M1/\∃d:Nat,T 3=I d/\d<=3000/\A1L ks=max d (A1L (ks.drop i))) (λT M1=>match T 9 with|.val (.int _ i)=>ks.length-i.toNat|_=>0) Q2 ?_ ?_
  .exact⟨0,Q0,Q1,Q1,Q1,A0d.refl _ _,0,Q1,Q0,Q1⟩
  .rintro T M1 ⟨i,i1,t7,t8,t9,l,d,t3,d1,ho⟩;by_cases hi:i<ks.length
   .have f:(i:Int)<ks.length:=Q0;have w1:=A1Y (i:=i) Q0;have b:ks[i]∈ks:=Z0u hi;rw[C2N hi]at ho;have z:=A3B b;have y:=B8O ks[i];(have p:(M1++[A0l.cells 30 ks[i].row])[M1.length]?=some (A0l.cells 30 ks[i].row):=by simp);have j:Grow M (M1++[A0l.cells 30 ks[i].row]):=l.trans (A0d.app none _ _);simp -dsimp[t3,t7,t8,t9,hi,f,A0j,A0k,A0e,AV.storable,AV.cells,A0b p];have:=A0a.kid_lt (u:=.mk id kind lab hd ws ks) b;refine A0v (A0m func213 rfl rfl (B7v ks[i] _ (c _ b) Q0)) ?_;rintro _ _ ⟨⟨_,rfl,rfl⟩,rfl⟩;generalize A1i ks[i]=dk at*;(have w2:IntKind.i64.wrap (1+(dk:Int))=((1+dk:Nat):Int):=by rw[A0R Q0 Q0];omega);obtain⟨e,he⟩:=ex (1+dk);rw[<-he]at w2 ho;by_cases hm:d<e
    .have a:(d:Int)<e:=Q0;have g:(e:Int)>d:=a;simp -dsimp[t3,t7,t8,t9,w1,w2,A7n,a,g];exact⟨⟨i+1,Q3,rfl,j,e,rfl,Q0,Q0⟩,Q3⟩
    .have a:¬(d:Int)<e:=Q0;have g:¬(e:Int)>d:=a;simp -dsimp[t3,t7,t8,t9,w1,w2,A7n,a,g];exact⟨⟨i+1,Q3,rfl,j,d,rfl,Q0,Q0⟩,Q3⟩
   .have f:¬(i:Int)<ks.length:=Q0;rw[show ks.drop i=[]from Z0y Q0,A1L,Nat.max_zero]at ho;simp -dsimp[t3,t7,t8,t9,f,ho,l]
termination_by u=>SizeOf.sizeOf u
end
section
variable (gl:Nat->AV)
def A9g{A:Type}(fid:FuncId)(first cap:List AV)(p:A0a->Bool)(b:A->A0a->A)(J:Mem->A->Prop)(K:A->A0a->Prop)(KL:A->List A0a->Prop)(t:∀a u,K a u->KL (b a u) u.kids)(y:∀a k ks,KL a (k::ks)->K a k)(r:∀a k ks,KL a (k::ks)->(A3H p b k a).1=true->KL (A3H p b k a).2 ks)(hJ:∀M a X,J M a->J (M++[.cells 30 X]) a)
 (hv:∀u a M,u.good->K a u->J M a->A3E (WC gl) fid (first++.agg u.row::cap) M (λv M'=>v=B (p u)/\J M' (b a u))):
 ∀(u:A0a) (a:A) (M:Mem),u.good->K a u->J M a->A0c (WC gl) 214 [.agg u.row,.func (.func fid) first cap] M (λv M'=>v=B (A3H p b u a).1/\J M' (A3H p b u a).2)
 |.mk id kind lab hd ws ks,a,M,hg,hka,hj=>by
  obtain⟨_,_,_,_,_,_,_,hk,l⟩:=(A0a.good_iff _).1 hg;have l:∀k∈ks,k.good:=l;have a3:KL (b a (.mk id kind lab hd ws ks)) ks:=t _ _ hka;have a5:ks.length<=9223372036854775807:=hk;have w:(A0a.mk id kind lab hd ws ks).row=[I id.act,I id.item,I id.n,I kind,S lab,.list 4 (A0i hd) .no,.list 4 (A0i ws) .no,.list 8 (A0q ks) .no]:=by rw[A0a.row]
  have d:A3H p b (.mk id kind lab hd ws ks) a=if p (.mk id kind lab hd ws ks)then A4c p b ks (b a (.mk id kind lab hd ws ks))else(false,b a (.mk id kind lab hd ws ks)):=by rw[A3H]
  have s:=hv _ a M hg hka hj;rw[w]at s|-;refine A1c hW func214 rfl rfl rfl rfl rfl rfl ?_;simp -dsimp;refine A0v s ?_;rintro _ M1 ⟨rfl,q⟩;cases hp:p (.mk id kind lab hd ws ks);case false=>rw[hp,Z0d Q1]at d;rw[d];simp -dsimp[q]
  rw[hp,Z0c rfl]at d;rw[d];generalize b a (.mk id kind lab hd ws ks)=a1 at*;simp -dsimp;refine A0K hW (λT M1=>∃i:Nat,i<=ks.length/\T 1=.func (.func fid) first cap/\T 12=.list 8 (A0q ks) .no/\T 13=I ks.length/\T 14=I i/\∃a2,J M1 a2/\KL a2 (ks.drop i)/\A4c p b ks a1=A4c p b (ks.drop i) a2) (λT M1=>match T 14 with|.val (.int _ i)=>ks.length-i.toNat|_=>0) Q2 ?_ ?_
  .exact⟨0,Q0,Q1,Q1,Q1,Q1,a1,q,by simpa using a3,Q1⟩
  .rintro T M2 ⟨i,i1,t1,g,e,f,a2,z,c,ho⟩;by_cases hi:i<ks.length
   .have m:(i:Int)<ks.length:=Q0;(have w1:IntKind.i64.wrap ((i:Int)+1)=(i+1:Nat):=by rw[A0R Q0 Q0];omega);have j:ks[i]∈ks:=Z0u hi;have o:ks.drop i=ks[i]::ks.drop (i+1):=Z0o hi;rw[o]at c;rw[o,A4c]at ho;(have a4:(M2++[A0l.cells 30 ks[i].row])[M2.length]?=some (A0l.cells 30 ks[i].row):=by simp);simp -dsimp[t1,g,e,f,hi,m,A0j,A0k,A0e,AV.storable,AV.cells,A0b a4];have:=A0a.kid_lt (u:=.mk id kind lab hd ws ks) j;refine A0v (A0m func214 rfl rfl (A9g fid first cap p b J K KL t y r hJ hv ks[i] a2 _ (l _ j) (y _ _ _ c) (hJ _ _ _ z))) ?_;rintro _ M3 ⟨rfl,x⟩;have a0:=r _ _ _ c;cases hp:(A3H p b ks[i] a2).1
    .rw[hp,Z0d Q1]at ho;rw[ho];simp -dsimp[t1,g,e,f,x]
    .rw[hp,Z0c rfl]at ho;simp -dsimp[t1,g,e,f,w1];exact⟨⟨i+1,Q3,rfl,_,x,a0 hp,ho⟩,Q3⟩
   .have m:¬(i:Int)<ks.length:=Q0;rw[show ks.drop i=[]from Z0y Q0,A4c]at ho;rw[ho];simp -dsimp[t1,g,e,f,m,z]
termination_by u=>SizeOf.sizeOf u
end
mutual
def B0a:∀(u:A0a) (a:Nat),A3H (λ_=>true) (λ(a:Nat) _=>a+1) u a=(true,a+A0x u)
 |.mk _ _ _ _ _ ks,a=>by rw[A3H,Z0c rfl,B2l ks,A0x];congr 1;omega
def B2l:∀(ks:List A0a) (a:Nat),A4c (λ_=>true) (λ(a:Nat) _=>a+1) ks a=(true,a+A0H ks)
 |[],a=>by rw[A4c,A0H];rfl
 |k::ks,a=>by rw[A4c,B0a k a,Z0c rfl,B2l ks,A0H];congr 1;omega
end
mutual
def B2A:∀(u:A0a) (a:List IdD),A3H (λ_=>true) (λ(a:List IdD) u=>a++[u.id]) u a=(true,a++A0T u)
 |.mk id _ _ _ _ ks,a=>by rw[A3H,Z0c rfl,B4Y ks,A0T];show(true,a++[id]++A2N ks)=_;rw[Z0F];rfl
def B4Y:∀(ks:List A0a) (a:List IdD),A4c (λ_=>true) (λ(a:List IdD) u=>a++[u.id]) ks a=(true,a++A2N ks)
 |[],a=>by rw[A4c,A2N,Z1g]
 |k::ks,a=>by rw[A4c,B2A k a,Z0c rfl,B4Y ks,A2N,Z0F]
end
def A5M(u:A0a):A0x u=1+A0H u.kids:=by obtain⟨a,b,c,d,e,f⟩:=u;rw[A0x];rfl
section
variable (gl:Nat->AV)
def C9s(u:A0a)(o:Nat)(n:Nat)(hn:n<=3000)(M:Mem)(hM:M[o]?=some (.cells 3 [I n])):A0c (WC gl) 215 [.agg u.row,.ptr o 0] M (λv M'=>v=B true/\M'=M.set o (.cells 3 [I (n+1:Nat)])):=by refine A1c hB func215 rfl rfl rfl rfl rfl rfl ?_;have w1:=A1Y (i:=n) Q0;have a:o<M.length:=(Z0a.1 hM).1;obtain⟨e,he⟩:=ex (n+1);rw[<-he]at w1;rw[<-he];simp -dsimp[A0b hM,A0f hM,w1,A0e]
def B8T(u:A0a)(M:Mem)(hg:u.good)(hc:A0x u<=3000):A0c (WC gl) 130 [.agg u.row] M (λv M'=>v=I (A0x u)/\M'=M):=by
 have key:A0c (WC gl) 130 [.agg u.row] M (λv M'=>(∃x,v=.val x/\x=.int .i64 (A0x u))/\Grow M M'):=by
  refine A1c hB func130 rfl rfl rfl rfl rfl rfl ?_;have c:(M++[A0l.cells 3 [I 0]])[M.length]?=some (A0l.cells 3 [I 0]):=by simp
  simp -dsimp[A0j,A0k,A0e];refine A0v (A0m func214 rfl rfl (A9g gl 215 [] [.ptr M.length 0] (λ_=>true) (λ(a:Nat) _=>a+1) (λM1 a=>M1[M.length]?=some (.cells 3 [I a])/\Grow M M1) (λa u=>a+A0x u<=3000) (λa ks=>a+A0H ks<=3000) ?_ ?_ ?_ ?_ ?_ u 0 _ hg Q0 ⟨c,A0d.app none _ _⟩)) ?_
  .intro a u h;have:=A5M u;omega
  .intro a k ks h;rw[A0H]at h;omega
  .intro a k ks h _;rw[A0H]at h;rw[B0a];show a+A0x k+A0H ks<=3000;omega
  .rintro M1 a X ⟨h1,h2⟩;exact⟨by rw[Z0n (Z0a.1 h1).1];exact h1,h2.trans (A0d.app none _ _)⟩
  .rintro u a M1 e hk ⟨h1,h2⟩;have d:=A7R u;refine(A0m func215 rfl rfl (C9s gl u M.length a Q0 M1 h1)).mono ?_;rintro _ _ ⟨rfl,rfl⟩;have b:M.length<M1.length:=(Z0a.1 h1).1;exact⟨rfl,by simp[b],⟨by simp;omega,λj hj _=>by rw[Z0f Q0];exact h2.2 j hj Q1⟩⟩
  .rintro _ M1 ⟨rfl,h1,h2⟩;rw[B0a]at h1|-;simp only[Z0P]at h1;simp -dsimp[A0b h1,h2]
 exact(B0R key).mono (by rintro v M' ⟨⟨x,rfl,rfl⟩,rfl⟩;exact⟨rfl,rfl⟩)
end
@[simp] def IdD.row_len(x:IdD):x.row.length=3:=(rfl)
def A0o{cs:List AV}:(AV.agg cs).storable=true:=rfl
def A0n{cs:List AV}:(AV.agg cs).cells=cs:=rfl
def D3l(M:Mem)(l:List IdD)(v:AV)(M':Mem):Prop:=A1p 23 3 IdD.row M' v l/\Grow M M'/\A1K M.length v
section
variable (gl:Nat->AV)
def D5C(u:A0a)(o:Nat)(M:Mem)(v:AV)(l:List IdD)(hl:l.length<=3000)(hM:M[o]?=some (.cells 61 [v]))(hv:A1p 23 3 IdD.row M v l)(c:obj v≠some o):A0c (WC gl) 216 [.agg u.row,.ptr o 0] M (λr M'=>r=B true/\∃v' M1,M'=M1.set o (.cells 61 [v'])/\A1p 23 3 IdD.row M1 v' (l++[u.id])/\A0d (obj v) M M1/\(obj v'=obj v\/A1K M.length v')):=by
 refine A1c (hQ [8]) func216 rfl rfl rfl rfl rfl rfl ?_
 rw[u.row_eq]
 simp -dsimp[A0b hM,A0w,A1e,A0o,A0n]
 refine A3u (C:=WC gl) (enc:=IdD.row) (e:=23) (sz:=3) (news:=[u.id]) C5A D2q D3k (λ_=>rfl) hv (by simp[A0D,IdD.row]) (by simp;omega) rfl ?_
 intro v' M1 h1 h2 h3 _
 have b:=h2.get hM c
 have a:A0k (some 1) M1 (.ptr o 0) v'=some (M1.set o (.cells 61 [v'])):=by rw[A0f b,h1.cells,Z0c ⟨h1.store,Q1,rfl⟩];rfl
 simp -dsimp[a]
 exact⟨v',M1,rfl,h1,h2,h3⟩
def D2n(u:A0a)(M:Mem)(hg:u.good)(hc:A0x u<=3000):A0c (WC gl) 131 [.agg u.row] M (D3l M (A0T u)):=by
 refine A1c hW func131 rfl rfl rfl rfl rfl rfl ?_;have d:(M++[A0l.cells 61 [.val (.slice none 0 0)]])[M.length]?=some (A0l.cells 61 [.val (.slice none 0 0)]):=by simp
 simp -dsimp[A0j,A0k,A0e];refine A0v (A0m func214 rfl rfl (A9g gl 216 [] [.ptr M.length 0] (λ_=>true) (λ(a:List IdD) u=>a++[u.id])
  (λM1 a=>∃v,M1[M.length]?=some (.cells 61 [v])/\A1p 23 3 IdD.row M1 v a/\obj v≠some M.length/\A1K M.length v/\Grow M M1)
  (λa u=>a.length+A0x u<=3000) (λa ks=>a.length+A0H ks<=3000) ?_ ?_ ?_ ?_ ?_ u [] _ hg (by simpa using hc) ⟨_,d,.nil,Q1,by simp[A1K],A0d.app none _ _⟩)) ?_
 .intro a u h;have:=A5M u;simp;omega
 .intro a k ks h;rw[A0H]at h;omega
 .intro a k ks h _;rw[A0H]at h;rw[B2A];simp only[Z0k,A3C];omega
 .rintro M1 a X ⟨v,h1,h2,h3,h4,h5⟩;exact⟨v,by rw[Z0n (Z0a.1 h1).1];exact h1,h2.keep (A0d.app none _ _) Q1,h3,h4,h5.trans (A0d.app none _ _)⟩
 .rintro u a M1 l hk ⟨v,h1,h2,h3,h4,h5⟩;have g:=A7R u;refine(A0m func216 rfl rfl (D5C gl u M.length M1 v a Q0 h1 h2 h3)).mono ?_;rintro _ _ ⟨rfl,v',M2,rfl,k1,k2,k3⟩;have i:M.length<M1.length:=(Z0a.1 h1).1;have c:M.length<M2.length:=by have:=k2.1;omega
  have b:obj v'≠some M.length:=by
   rcases k3 with e|e
   .rw[e];exact h3
   .intro q;have:=e _ q;omega
  refine⟨rfl,v',by simp[c],k1.keep (A0d.set M2 M.length _) (λf hf e=>b (by rw[hf,<-e])),b,λf hf=>?_,⟨by simp;omega,λj hj _=>?_⟩⟩
  .rcases k3 with e|e
   .exact h4 f (by rw[<-e];exact hf)
   .have:=e f hf;omega
  .rw[Z0f Q0,k2.2 j Q0 (λe=>by have:=h4 _ e;omega)];exact h5.2 j hj Q1
 .rintro _ M1 ⟨rfl,v,h1,h2,h3,h4,h5⟩;rw[B2A]at h2|-;simp only[Z1v]at h2;simp -dsimp[A0b h1,D3l,h2,h4,h5]
end
end Go.Abs
