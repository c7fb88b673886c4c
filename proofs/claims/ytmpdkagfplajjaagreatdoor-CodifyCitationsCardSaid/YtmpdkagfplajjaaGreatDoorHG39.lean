/- The texts CfB, CeS, CeT, CbX2, CbX3, CeU, CeV, CeW, CeX. -/
import Derived.Test.YtmpdkagfplajjaaGreatDoorHG38
set_option linter.all false
namespace Go.Abs
open Go.Proofs TryTypes
section
def C6Z{α β:Type}[DecidableEq β](f:α->β):∀{L:List α} {y:α},(L.map f).Nodup->y∈L->L.find? (λv=>decide (f v=f y))=some y
 |x::L,y,hn,hy=>by
  simp only[Z0z,Z1q]at hn;rw[Z2n];rcases Z0s.1 hy with rfl|hy
  .simp
  .have:f x≠f y:=λe=>hn.1 (e▸Z0C.2 ⟨y,hy,rfl⟩);rw[Z0r this];exact C6Z f hn.2 hy
def A8Z{u y:A0a}(hn:(A0R u).Nodup)(hy:y∈A2R u):A0E y.id u=some y:=by rw[B0a];exact C6Z A0a.id (by rw[A5k];exact hn) hy
def C9D{x:IdD}{u:A0a}(h:x∉A0R u):A2a x u=[]:=by
 have h1:=A6f x u;cases hr:A2a x u with
 |nil=>rfl
 |cons r rs=>
  rw[hr]at h1;cases hl:(r::rs).getLast? with
  |none=>simp at hl
  |some v=>rw[hl]at h1;obtain⟨e1,e2⟩:=A6j h1;exact absurd (by rw[<-A5k,<-e1];exact Z0C.2 ⟨v,e2,rfl⟩) h
def A9U{k:A0a}{x:IdD}(hx:x∈A0R k):∀{ks:List A0a},k∈ks->x∈A3J ks
 |b::bs,hk=>by
  rw[A3J];rcases Z0s.1 hk with rfl|hk
  .exact Z1P _ hx
  .exact Z2z _ (A9U hx hk)
def B6z{x:IdD}:∀{ks:List A0a} {k:A0a},(A3J ks).Nodup->k∈ks->x∈A0R k->A2a x k≠[]->A3I x ks=A2a x k
 |a::ks,k,hn,hk,hx,hne=>by
  rw[A3J]at hn;obtain⟨n1,n2,n3⟩:=Z1L.1 hn;rw[A3I];rcases Z0s.1 hk with rfl|hk
  .cases hr:A2a x k with
   |nil=>exact absurd hr hne
   |cons r rs=>rfl
  ·(have:x∉A0R a:=λh=>by refine n3 x h x ?_ rfl;exact A9U hx hk);rw[C9D this];exact B6z n2 hk hx hne
def B3T(u:A0a):u.id∈A0R u:=by obtain⟨a,b,c,d,e,f⟩:=u;rw[A0R];simp[A0a.id]
def B0V{k:A0a}:∀{ks:List A0a},(A3J ks).Nodup->k∈ks->(A0R k).Nodup
 |b::bs,hn,hk=>by
  rw[A3J]at hn;obtain⟨n1,n2,n3⟩:=Z1L.1 hn;rcases Z0s.1 hk with rfl|hk
  .exact n1
  .exact B0V n2 hk
def C7I{q:A0a}:∀{ks:List A0a},q∈A4s ks->∃k∈ks,q∈A2R k
 |[],h=>by rw[A4s]at h;simp at h
 |b::bs,h=>by
  rw[A4s]at h;rcases Z0S.1 h with h|h
  .exact⟨b,by simp,h⟩
  .obtain⟨k,hk,hq⟩:=C7I h;exact⟨k,by simp[hk],hq⟩
def B0t(u:A0a):u∈A2R u:=by obtain⟨a,b,c,d,e,f⟩:=u;rw[A2R];simp
mutual
def B0q:∀(u v:A0a),v∈A2R u->∀k∈v.kids,k∈A2R u
 |.mk a b c d e ks,v,hv,k,hk=>by
  rw[A2R]at hv|-;rcases Z0s.1 hv with rfl|hv
  .exact Z1v _ (B2y (B0t k) hk)
  .exact Z1v _ (B6f ks v hv k hk)
def B6f:∀(ks:List A0a) (v:A0a),v∈A4s ks->∀k∈v.kids,k∈A4s ks
 |[],v,hv,_,_=>by rw[A4s]at hv;simp at hv
 |a::ks,v,hv,k,hk=>by
  rw[A4s]at hv|-;rcases Z0S.1 hv with hv|hv
  .exact Z1P _ (B0q a v hv k hk)
  .exact Z2z _ (B6f ks v hv k hk)
end
def B8m(y:A0a):A2a y.id y=[y]:=by obtain⟨a,b,c,d,e,f⟩:=y;rw[A2a];exact Z0e rfl
def C6P(y:A0a):∀(u q:A0a),(A0R u).Nodup->q∈A2R u->y∈q.kids->∃b,A2a y.id u=b++[q,y]
 |.mk id k l h w ks,q,hn,hq,hy=>by
  rw[A0R]at hn;rw[A2R]at hq;obtain⟨n1,n2⟩:=Z1q.1 hn;have f:y∈A4s ks:=by
   rcases Z0s.1 hq with rfl|hq
   .exact B2y (B0t y) hy
   .exact B6f ks q hq y hy
  have g:id≠y.id:=λe=>n1 (by rw[e,<-B4T];exact Z0C.2 ⟨y,f,rfl⟩);rw[A2a,Z0d g];rcases Z0s.1 hq with rfl|hq
  .have hy:y∈ks:=hy;rw[B6z n2 hy (B3T y) (by rw[B8m];simp),B8m];exact⟨[],rfl⟩
  .obtain⟨c,hc,d⟩:=C7I hq;have:=A0a.kid_lt (u:=.mk id k l h w ks) hc;obtain⟨b,hp⟩:=C6P y c q (B0V n2 hc) d hy;(have i:y.id∈A0R c:=by rw[<-A5k];exact Z0C.2 ⟨y,B0q c q d y hy,rfl⟩);rw[B6z n2 hc i (by rw[hp];simp),hp];cases b with
   |nil=>exact⟨[_],rfl⟩
   |cons a b=>exact⟨_::a::b,rfl⟩
termination_by u=>SizeOf.sizeOf u
def B8R{u q y:A0a}(hn:(A0R u).Nodup)(hq:q∈A2R u)(hy:y∈q.kids):B7A y.id u=some q:=by obtain⟨a,hp⟩:=C6P y u q hn hq hy;rw[B7A,hp,show a++[q,y]=(a++[q])++[y]by simp,List.dropLast_concat];simp
def C1D(a:Int):∀(ts:List A5R) (j:Nat),(∀t∈ts,A0r t.1=t.2.1.length)->(A5h a (ts.map (·.2.1)) j).map (·.2)=A3J (A1T a ts j)
 |[],j,_=>by rw[A1T,A3J];rfl
 |t::ts,j,h=>by rw[Z0z,A5h,A1T,A3J,Z0U,C1D a ts (j+1) λq hq=>h q (by simp[hq]),A9I,h t (by simp)];congr 1;unfold B5x;rw[Z1K];have e:=List.zipIdx_map_snd 0 t.2.1;rw[<-e,Z1K];rfl
section
variable {u:A0a} {l:List A0J} {s:List A1v}
def A5g(u:A0a)(l:List A0J)(s:List A1v)(number:Int)(x:IdD):IdD:=(A1N (A7a number u (A1O (λy=>A0E y u) l s)) x).getD idZ
def B0p(u:A0a)(l:List A0J)(s:List A1v)(number:Int)(k:Nat):IdD:=A5g u l s number (A2s (λy=>A0E y u) l k).id
def D1a(hS:A6C u l){k:Nat}(hk:k<l.length):(A2s (λy=>A0E y u) l k).id=l[k].id:=by
 obtain⟨x,hx,_⟩:=hS.fd k hk;have:A2s (λy=>A0E y u) l k=x:=by simp[A2s,hk,hx]
 rw[this];exact(A6j hx).1
def B2s(hS:A6C u l)(a:Int):((A7a a u (A1O (λy=>A0E y u) l s)).map (·.1)).Nodup:=by rw[B3X];exact(B2Q (s:=s) hS).1
def B7m(hS:A6C u l):∀t∈A1O (λy=>A0E y u) l s,A0r t.1=t.2.1.length:=by intro t ht;obtain⟨n,hn,rfl⟩:=Z0C.1 ht;exact A9e hS.ord l.length n (A7o hn) (by omega)
def D1S(hS:A6C u l)(a:Int):(A7a a u (A1O (λy=>A0E y u) l s)).map (·.2)=A3J (A1T a (A1O (λy=>A0E y u) l s) u.kids.length):=C1D a _ _ (B7m hS)
def C6b(hS:A6C u l)(a:Int){x:IdD}(hx:x∈(A0R u).tail):(x,A5g u l s a x)∈A7a a u (A1O (λy=>A0E y u) l s):=by have h1:=((B2Q (s:=s) hS).2 x).2 hx;rw[<-B3X (u:=u) a]at h1;obtain⟨y,hy,rfl⟩:=Z0C.1 h1;have:=B1U _ (B2s hS a) y hy;rw[A5g,this];exact hy
def C1B{α β:Type}(f:α->β):∀{L:List α} {a b:α},(L.map f).Nodup->a∈L->b∈L->f a=f b->a=b
 |x::L,a,b,hn,ha,hb,e=>by
  simp only[Z0z,Z1q]at hn;rcases Z0s.1 ha with h1|h1<;>rcases Z0s.1 hb with h2|h2
  .rw[h1,h2]
  .rw[h1]at e;exact absurd (Z0C.2 ⟨b,h2,e.symm⟩) hn.1
  .rw[h2]at e;exact absurd (Z0C.2 ⟨a,h1,e⟩) hn.1
  .exact C1B f hn.2 h1 h2 e
def D5u(hS:A6C u l)(a:Int){x y:IdD}(hx:x∈(A0R u).tail)(hy:y∈(A0R u).tail)(e:A5g u l s a x=A5g u l s a y):x=y:=by
 have h1:=C6b (s:=s) hS a hx;have h2:=C6b (s:=s) hS a hy;have hn:((A7a a u (A1O (λy=>A0E y u) l s)).map (·.2)).Nodup:=by rw[D1S hS];exact(B1G a _ _).1
 have:=C1B (λq:IdD×IdD=>q.2) hn h1 h2 e;simpa using congrArg Prod.fst this
def B1o(hS:A6C u l)(a:Int):A3D a u (A1O (λy=>A0E y u) l s)=(A0R u).tail.map λx=>(x,A5g u l s a x):=C0n hS a
def D0Z(a:Int)(hn:1<=a)(h0:u.id=idZ):(A0R (A2o u a (A1O (λy=>A0E y u) l s))).Nodup:=by obtain⟨h1,h2⟩:=B1G a (A1O (λy=>A0E y u) l s) u.kids.length;rw[A2o,A0R,Z1q];refine⟨λh=>?_,h1⟩;have:=(h2 _ h).1;rw[h0]at this;simp[idZ]at this;omega
def D4t(hS:A6C u l)(a:Int){k:Nat}(hk:k<l.length):∃x∈A2R (A2o u a (A1O (λy=>A0E y u) l s)),B9l (λy=>A0E y u) l s (B0p u l s a) k x/\
 ((A2l l k=-1/\x∈(A2o u a (A1O (λy=>A0E y u) l s)).kids)\/∃p:Nat,A2l l k=(p:Int)/\∃z∈A2R (A2o u a (A1O (λy=>A0E y u) l s)),z.id=B0p u l s a p/\x∈z.kids):=by
 have hW:=B3W (F:=λy=>A0E y u) (l:=l) (s:=s) (D:=B0p u l s a) a (A7a a u (A1O (λy=>A0E y u) l s)) hS.ord (λk y h=>by rw[B0p,A5g,h];rfl) (A3a l) u.kids.length (λk h=>A7o h) (λy hy=>B1U _ (B2s hS a) y hy)
 have hp:∀j,j<l.length->-1<=A2l l j/\A2l l j<j:=λj hj=>by have:=hS.ord j hj j hj (Z0n _);simpa[A2l,hj]using this
 have hf:=((A9f (par:=λk=>A2l l k) (N:=l.length) hp).2 k).2 hk
 obtain⟨r,hr,c⟩:=Z1S.1 hf
 obtain⟨y,hy,ht⟩:=B5T hW r hr
 obtain⟨x,hx,k1,k2⟩:=C8b l.length r y ht k c
 have b:∀v∈A2R y,v∈A2R (A2o u a (A1O (λy=>A0E y u) l s)):=λv hv=>by rw[A2o,A2R];exact Z1v _ (B2y hv hy)
 refine⟨x,b x hx,k1,?_⟩
 rcases k2 with⟨rfl,rfl⟩|⟨p,e,w,hw,e1,e2⟩
 .exact .inl ⟨(A4q.1 hr).2,hy⟩
 .exact .inr ⟨p,e,w,b w hw,e1,e2⟩
def C1j(hS:A6C u l)(a:Int):A0r (A2o u a (A1O (λy=>A0E y u) l s))=l.length+1:=by
 have h1:∀ts:List A5R,(∀t∈ts,A0r t.1=t.2.1.length)->A0A (ts.map (·.1))=(ts.flatMap (·.2.1)).length:=by
  intro ts;induction ts with
  |nil=>intro _;rfl
  |cons t ts ih=>intro h;rw[Z0z,A0A,Z0Y,Z0t,ih λq hq=>h q (by simp[hq]),h t (by simp)]
 have hp:∀j,j<l.length->-1<=A2l l j/\A2l l j<j:=λj hj=>by have:=hS.ord j hj j hj (Z0n _);simpa[A2l,hj]using this
 obtain⟨h2,h3⟩:=A9f (par:=λk=>A2l l k) (N:=l.length) hp;have hl:(B0O (λk=>A2l l k) l.length).length=l.length:=by have e1:=Z2Z h2 (l₂:=List.range l.length) λx hx=>Z1o.2 ((h3 x).1 hx);have e2:=Z2Z List.nodup_range (l₂:=B0O (λk=>A2l l k) l.length) λx hx=>(h3 x).2 (Z1o.1 hx);simp at e1 e2;omega
 rw[A2o,A0r,A5O,h1 _ (B7m hS),C2g,Z0G,hl];omega
end
end
set_option maxRecDepth 100000
open Go.Proofs TryTypes Tryz
def D1C{u k:A0a}{ks:List A0a}(hk:u.kids=k::ks)(hn:(A0R u).Nodup):C9B k.id u=.tuple [.agg u.id.row,I 0,B true]:=by
 have h1:=B8R (u:=u) (q:=u) (y:=k) hn (B0t u) (by rw[hk];simp);have h2:A0E k.id k=some k:=by obtain⟨a,b,c,d,e,f⟩:=k;rw[A0E];exact Z0e rfl
 rw[C9B,h1];simp only[hk,A3i,h2,Z1W,Z0T];rfl
def enR(number:Int)(i:Nat)(day:Int)(it:A1Q):List AV:=[I number,I i,I day]++it.row
@[simp] def D7N(a:Int)(i:Nat)(b:Int)(it:A1Q):(enR a i b it).length=28:=by simp[enR]
section
variable (gl:Nat->AV)
def C0P(u k:A0a)(ks:List A0a)(M:Mem)(hk:u.kids=k::ks)(hf:Fit u)(hn:(A0R u).Nodup):A0e (WC gl) 291 [.agg u.row,.agg k.id.row] M (λv M'=>v=.agg (A8h u ks).row/\M'=M):=by
 refine A0e.dataX ?_;have hx:k.id.row=[I k.id.act,I k.id.item,I k.id.n]:=rfl;have j:u.id.row=[I u.id.act,I u.id.item,I u.id.n]:=rfl;have q:=A1Z u.kids;have s:A0A u.kids<A0r u:=by obtain⟨a,b,c,d,e,f⟩:=u;rw[A0r];show A0A f<_;omega
 have r:=hf.2.2;have l:ks.length<=1000:=by have:=congrArg List.length hk;rw[Z0x]at this;omega
 obtain⟨b,hb⟩:=ex (M.length);obtain⟨M1,i⟩:=ex (M++[z8]);have h1:M1[b]?=some z8:=by rw[i,hb];simp
 have p:Grow M M1:=by rw[i];exact A0c.app none _ _
 have g:=C2Q gl u k.id M1 hf;rw[D1C hk hn,hx,j]at g;obtain⟨M2,h⟩:=ex (M1++[A0m.cells 23 [I u.id.act,I u.id.item,I u.id.n],A0m.cells 3 [I 0]]);have hq:M2[M1.length+1]?=some (A0m.cells 3 [I 0]):=by rw[h];simp[Z0W]
 have hp:M2[M1.length]?=some (A0m.cells 23 [I u.id.act,I u.id.item,I u.id.n]):=by rw[h];simp
 have m:Grow M1 M2:=by rw[h];exact A0c.app none _ _
 have hw:=B9j gl u 359 [.ptr (M1.length+1) 0] ks M2 hf (E4A gl u k ks hk l _ M2 hq);rw[j]at hw;have h2:=m.get h1 (by simp);have o:b<M2.length:=(Z0a.1 h2).1;rw[u.row_eq]at g hw;rw[u.row_eq,hx];refine A0n hB func291 ?_;simp -dsimp[A0k];rw[<-i,<-hb];refine A0h func34 g ?_;simp -dsimp[A0k,A0i,A0d,A0y,A0v];rw[<-h];simp -dsimp[A0b hp];refine A0h func288 hw ?_;simp -dsimp[A0f h2,A0y,A0v,A0s o,A0j];exact⟨A0V (p.trans m) (by omega),.same (by simp only[bdd];exact A3d _ _) .nil⟩
def C4v(u k:A0a)(ks:List A0a)(d:List AV)(M:Mem)(hk:u.kids=k::ks)(hf:Fit u)(hn:(A0R u).Nodup):A0e (WC gl) 233 [.agg u.row,.agg k.row,.agg d] M (λv M'=>v=.tuple [.agg (A8h u ks).row,I 0]/\M'=M):=by
 refine A0e.dataX ?_;have hx:k.id.row=[I k.id.act,I k.id.item,I k.id.n]:=rfl;obtain⟨b,hb⟩:=ex (M.length);obtain⟨M1,a⟩:=ex (M++[z8]);have h1:M1[b]?=some z8:=by rw[a,hb];simp
 have e:Grow M M1:=by rw[a];exact A0c.app none _ _
 have c:b<M1.length:=(Z0a.1 h1).1;have hw:=C0P gl u k ks M1 hk hf hn;rw[hx]at hw;rw[u.row_eq]at hw|-;rw[k.row_eq];refine A0n hB func233 ?_;simp -dsimp[A0k];rw[<-a,<-hb];refine A0h func291 hw ?_;simp -dsimp[A0f h1,A0y,A0v,A0s c,A0j];exact⟨A0V e (by omega),.tuple (.same (by simp only[bdd];exact A3d _ _) (.same trivial .nil)) .nil⟩
end
abbrev fnV(g:FuncId):AV:=.func (.func g) [] []
def C4p:List AV:=[fnV 399,fnV 402,fnV 404,fnV 406]
def B5z(x:IdD)(n:Nat):List AV:=[I x.act,I x.item,I x.n,I n]
abbrev z4:A0m:=.cells 335 [I 0,I 0,I 0,I 0]
def C6j:A0x prog 366 [(0,fnV 399),(1,fnV 402),(2,fnV 404),(3,fnV 406)]=none:=by kernel_rfl
def E0D:B4L prog 366 [(0,fnV 399),(1,fnV 402),(2,fnV 404),(3,fnV 406)]=some (.agg C4p):=by kernel_rfl
section
variable (gl:Nat->AV)
def C1Q(M:Mem):A0e (WC gl) 240 [A0G] M (λv M'=>v=B true/\M'=M):=by
 refine A0n hB func240 ?_;simp -dsimp;refine A0B hB 0 7 (λT M1=>T 0=A0G/\T 5=A0G/\T 6=I 0/\T 7=I 0/\M1=M) ?_ ?_
 .exact⟨by simp,by simp,by simp,by simp,rfl⟩
 rintro T M1 ⟨t0,t5,t6,t7,rfl⟩;simp -dsimp[t0,t5,t6,t7]
def D0U(u:A0a)(M:Mem):A0e (WC gl) 328 [.agg u.row,A0G] M (λv M'=>v=.list 8 (A0p [u]) .no/\M'=M):=by
 refine A0e.dataX ?_;have hv:=λM=>C1Q gl M;have a:A0p [u]=[u.row]:=by rw[A0p,A0p]
 have hb:=B2M M.length [u];rw[a]at hb|-;rw[u.row_eq]at hb|-;refine A0n (hQ [58]) func328 ?_;simp -dsimp;refine A0h func240 (hv M) ?_;simp -dsimp[A0k,A0l,A0M,AV.storable,AV.cells];exact⟨A0c.app none _ _,.dis hb .nil⟩
def C5w(M:Mem):A0e (WC gl) 384 [] M (λv M'=>v=.agg C4p/\M'=M):=by
 refine A0e.dataX ?_;obtain⟨M1,a⟩:=ex (M++[A0m.cells 366 [.val .nilFunc,.val .nilFunc,.val .nilFunc,.val .nilFunc]]);have h1:M1[M.length]?=some (A0m.cells 366 [.val .nilFunc,.val .nilFunc,.val .nilFunc,.val .nilFunc]):=by rw[a];simp
 have c:M.length<M1.length:=(Z0a.1 h1).1;have b:Grow M M1:=by rw[a];exact A0c.app none _ _
 refine A0n hB func384 ?_;simp -dsimp[A0k,C6j];rw[<-a];simp -dsimp[A0U,A0I,A2b,A2c,A1d,C6j,E0D,A0f h1,A0y,A0v,C4p,A0s c,A0j];exact⟨A0V b (Z0n _),.same (by simp[bdd,A1I]) .nil⟩
def C8y(u:A0a)(M:Mem)(hf:Fit u):A0e (WC gl) 400 [.agg u.row,.agg u.id.row,fnV 403] M (λv M'=>v=.tuple [.agg (B5z u.id u.kids.length),I 0]/\M'=M):=by
 refine A0e.dataX ?_;have hx:u.id.row=[I u.id.act,I u.id.item,I u.id.n]:=rfl;have p:A0E u.id u=some u:=by obtain⟨a,b,c,d,e,f⟩:=u;rw[A0E];exact Z0e rfl
 obtain⟨b,hb⟩:=ex (M.length);obtain⟨M1,h⟩:=ex (M++[z4]);have h1:M1[b]?=some z4:=by rw[h,hb];simp
 have o:Grow M M1:=by rw[h];exact A0c.app none _ _
 have i:=A7p gl u u.id M1 hf;rw[p,hx]at i;obtain⟨M2,g⟩:=ex (M1++[A0m.cells 27 u.row]);have hp:M2[M1.length]?=some (A0m.cells 27 [I u.id.act,I u.id.item,I u.id.n,I u.kind,S u.label,.list 4 (A0g u.head) .no,.list 4 (A0g u.words) .no,.list 8 (A0p u.kids) .no]):=by rw[g,u.row_eq];simp
 have j:Grow M1 M2:=by rw[g];exact A0c.app none _ _
 have h2:=j.get h1 (by simp);have l:b<M2.length:=(Z0a.1 h2).1;have m:A0x prog 335 [(0,.agg [I u.id.act,I u.id.item,I u.id.n]),(1,I u.kids.length)]=some (.agg (B5z u.id u.kids.length)):=by simp[A0x,A1b,A1o,A0d,AV.cells,AV.storable,B5z]
 rw[hx];rw[u.row_eq]at i g|-;refine A0n hB func400 ?_;simp -dsimp[A0k];rw[<-h,<-hb];refine A0h func32 i ?_;simp -dsimp[A0k,A1z,u.row_eq,A0i,A0d,A0y,A0v];rw[<-g];refine A0Z hB (A0u gl) (λk=>if k=3 then 1 else if k=7 then 2 else 0) (λ_=>M1.length) (by rfl) (by kernel_rfl) ?_;simp -dsimp[A0b hp,A0F,A2Y];refine A1p func403 (λM=>D3W gl M u.kids.length) ?_;simp -dsimp[m,A0f h2,B5z,A0y,A0v,A0s l,A0j];exact⟨A0V (o.trans j) (by omega),.same (by simp[bdd,A1I]) .nil⟩
def C8d(u:A0a)(M:Mem)(hf:Fit u):A0e (WC gl) 402 [.agg u.row,.agg u.id.row] M (λv M'=>v=.tuple [.agg (B5z u.id u.kids.length),I 0]/\M'=M):=by
 refine A0e.dataX ?_;have hx:u.id.row=[I u.id.act,I u.id.item,I u.id.n]:=rfl;obtain⟨b,hb⟩:=ex (M.length);obtain⟨M1,c⟩:=ex (M++[z4]);have h1:M1[b]?=some z4:=by rw[c,hb];simp
 have e:Grow M M1:=by rw[c];exact A0c.app none _ _
 have d:b<M1.length:=(Z0a.1 h1).1;have a:=C8y gl u M1 hf;rw[hx]at a|-;rw[u.row_eq]at a|-;refine A0n hB func402 ?_;simp -dsimp[A0k];rw[<-c,<-hb];refine A0h func400 a ?_;simp -dsimp[A0f h1,B5z,A0y,A0v,A0s d,A0j];exact⟨A0V e (by omega),.same (by simp[bdd,A1I]) .nil⟩
def C5K(u:A0a)(M:Mem)(hf:Fit u):A0e (WC gl) 350 [.agg u.row,A0G,I 1] M (λv M'=>v=.tuple [.agg u.id.row,I u.kids.length,I 0]/\M'=M):=by
 refine A0e.dataX ?_;have hx:u.id.row=[I u.id.act,I u.id.item,I u.id.n]:=rfl;obtain⟨b,hb⟩:=ex (M.length);obtain⟨M1,e⟩:=ex (M++[A0m.cells 23 [I 0,I 0,I 0]]);have h1:M1[b]?=some (A0m.cells 23 [I 0,I 0,I 0]):=by rw[e,hb];simp
 have p:Grow M M1:=by rw[e];exact A0c.app none _ _
 have f:=B3z gl u u A0G M1 (λM=>D0U gl u M);obtain⟨M2,c⟩:=ex (M1++[A0m.cells 23 [I u.id.act,I u.id.item,I u.id.n]]);have hp:M2[M1.length]?=some (A0m.cells 23 [I u.id.act,I u.id.item,I u.id.n]):=by rw[c];simp
 have g:Grow M1 M2:=by rw[c];exact A0c.app none _ _
 have a:=λM=>C8d gl u M hf;obtain⟨M3,d⟩:=ex (M2++[A0m.cells 335 (B5z u.id u.kids.length)]);have hq:M3[M2.length]?=some (A0m.cells 335 [I u.id.act,I u.id.item,I u.id.n,I u.kids.length]):=by rw[d];simp[B5z]
 have i:Grow M2 M3:=by rw[d];exact A0c.app none _ _
 have h3:=i.get (g.get h1 (by simp)) (by simp);have m:b<M3.length:=(Z0a.1 h3).1;have j:C8F prog (some (.array 4 365)) (.agg C4p) (I 1)=some (fnV 402):=by kernel_rfl
 rw[hx]at f a|-;rw[u.row_eq]at f a|-;refine A0n hB func350 ?_;simp -dsimp[A0k];rw[<-e,<-hb];refine A0h func351 (C0V gl M1 1) ?_;simp -dsimp;refine A0h func191 f ?_;simp -dsimp[A0k,A0i,A0d,A0y,A0v];rw[<-c];have h:M1.length<M2.length:=(Z0a.1 hp).1;have l:∀X,(M2++[A0m.cells 335 X])[M1.length]?=M2[M1.length]?:=λX=>by rw[Z0i h]
 refine A3o hB (A0u gl) (λk=>if k=4 then 1 else if k=9\/k=10 then 2 else 0) (λ_=>M1.length) (λ_=>false) [M1.length] (by intros;simp) (by rfl) (by kernel_rfl) ?_;simp -dsimp;refine A1p func384 (λM=>C5w gl M) ?_;simp -dsimp[j,A0b hp,A0F,A2Y];refine A1p func402 a ?_;simp -dsimp[A0k,A0i,A0d,A0y,A0v,B5z,l];rw[show M2++[A0m.cells 335 [I u.id.act,I u.id.item,I u.id.n,I u.kids.length]]=M3 by rw[d];rfl];have q:b<M2.length:=(Z0a.1 (g.get h1 (by simp))).1;have o:∀X,(M3.set b X)[M2.length]?=M3[M2.length]?:=λX=>Z0c (by omega);refine A3o hB (A0u gl) (λk=>if k=1\/k=3 then 1 else if k=4 then 2 else 0) (λ_=>M2.length) (λ_=>false) [M2.length] (by intros;simp) (by rfl) (by kernel_rfl) ?_;simp -dsimp[A0b hq,A0F,A2Y,o,A0f h3,A0y,A0v,A0s m,A0j];exact⟨A0V ((p.trans g).trans i) (by omega),.same (by simp[bdd,A1I]) .nil⟩
def C8q(u x:A0a)(M:Mem)(hf:Fit u):A0e (WC gl) 282 [.agg u.row,.agg (A1Q.ins x).row] M (λv M'=>v=.tuple [.agg u.id.row,I u.kids.length,I 0]/\M'=M):=by
 refine A0e.dataX ?_;have hx:u.id.row=[I u.id.act,I u.id.item,I u.id.n]:=rfl;obtain⟨b,hb⟩:=ex (M.length);obtain⟨M1,a⟩:=ex (M++[A0m.cells 23 [I 0,I 0,I 0]]);have h1:M1[b]?=some (A0m.cells 23 [I 0,I 0,I 0]):=by rw[a,hb];simp
 have e:Grow M M1:=by rw[a];exact A0c.app none _ _
 have d:b<M1.length:=(Z0a.1 h1).1;have c:=C5K gl u M1 hf;rw[hx]at c|-;rw[u.row_eq]at c|-;refine A0n hB func282 ?_;simp -dsimp[A0k,A1Q.row];rw[<-a,<-hb];refine A0h func350 c ?_;simp -dsimp[A0f h1,A0y,A0v,A0s d,A0j];exact⟨A0V e (by omega),.same (by simp[bdd,A1I]) .nil⟩
end
section
variable (gl:Nat->AV)
def D6i(x:IdD)(n:Int)(M:Mem):A0e (WC gl) 69 [.agg x.row,.cptr [I n]] M (λv M'=>v=B (decide (x.act=n))/\M'=M):=by refine A0n hB func69 ?_;simp -dsimp[IdD.row];rfl
def D7m(s:List IdD)(o:Own)(n:Int)(M:Mem)(hl:s.length<=1000):A0e (WC gl) 123 [.list 3 (A1l s) o,.func (.func 69) [] [.cptr [I n]]] M (λv M'=>v=I (A3i (λx:IdD=>decide (x.act=n)) s 0)/\M'=M):=by
 refine A0n hB func123 ?_;simp -dsimp;refine A0B hB s.length 8 (λT M1=>∃i:Nat,M1=M/\i<=s.length/\T 0=.list 3 (A1l s) o/\T 1=.func (.func 69) [] [.cptr [I n]]/\T 7=I s.length/\T 8=I i/\A3i (λx:IdD=>decide (x.act=n)) s 0=A3i (λx:IdD=>decide (x.act=n)) (s.drop i) i) ?_ ?_
 .exact⟨0,rfl,by omega,by simp,by simp,by simp,by simp,by simp⟩
 rintro T M1 ⟨i,rfl,h1,t0,t1,t7,t8,h2⟩;by_cases hi:i<s.length
 .have a:(i:Int)<s.length:=by omega
  have w1:=A1H (i:=i) (by omega);have h3:=C3c hi h2;have hm:=D6i gl s[i] n M1;simp only[IdD.row]at hm;simp -dsimp[t0,t1,t7,t8,hi,a,IdD.row];refine A0h func69 hm ?_;by_cases c:s[i].act=n
  .rw[Z0e (by simpa using c)]at h3;simp -dsimp[t0,t1,t7,t8,Z0w c,c,h3]
  .rw[Z0d (by simpa using c)]at h3;simp -dsimp[t0,t1,t7,t8,Z0r c,c,w1];exact⟨⟨i+1,by clear w1;omega,rfl,h3⟩,by clear w1;omega⟩
 .have a:¬(i:Int)<s.length:=by omega
  rw[Z0v (by omega)]at h2;simp -dsimp[t0,t1,t7,t8,a,h2,A3i]
def C1V(s:List IdD)(o:Own)(n:Int)(M:Mem)(hl:s.length<=1000):A0e (WC gl) 68 [.list 3 (A1l s) o,.func (.func 69) [] [.cptr [I n]]] M (λv M'=>v=B (s.any λx=>decide (x.act=n))/\M'=M):=by refine A0n hB func68 ?_;have he:=A8x (λx:IdD=>decide (x.act=n)) s 0;simp -dsimp;refine A0h func123 (D7m gl s o n M hl) ?_;generalize A3i (λx:IdD=>decide (x.act=n)) s 0=k at*;simp -dsimp[<-he]
end
abbrev D2m:A0m:=.cells 49 [I 0,eS,I 0,I 0,I 0,eS,A0G]
abbrev C4r(number day:Int)(iv:AV):A0m:=.cells 49 [I number,S A9G,I day,I 1,I day,eS,iv]
def A6o:A0x prog 49 []=some B0I:=by simp[A0x,A1b,B0I]
def C9h{d}:A0x prog 46 [(0,I 1),(1,I d)]=some (.agg [I 1,I d,eS]):=by simp[A0x,A1b,A1o,A0d,AV.cells,AV.storable]
def C9j{n d}:A0x prog 49 [(0,I n),(1,S ⟨#[99,111,100,105,102,105,99,97,116,105,111,110]⟩),(2,I d),(3,.agg [I 1,I d,eS])]=some (.agg [I n,S A9G,I d,I 1,I d,eS,A0G]):=by simp[A0x,A1b,A1o,A0d,AV.cells,AV.storable,A9G]
def C9d{p}:A0x prog 128 [(0,I 1),(1,A5y p)]=some (.agg (A1Q.rep p).row):=by simp[A0x,A1b,A1o,A0d,AV.cells,AV.storable,A1Q.row]
def C9a{x}:A0x prog 128 [(0,I 0),(3,I 1),(5,.agg x.row)]=some (.agg (A1Q.ins x).row):=by rw[x.row_eq];simp[A0x,A1b,A1o,A0d,AV.cells,AV.storable,A1Q.row]
def C5f{a b c}:A0x prog 23 [(0,I a),(1,I b),(2,I c)]=some (.agg [I a,I b,I c]):=by simp[A0x,A1b,A1o,A0d,AV.cells,AV.storable]
def D8d:A8F prog 23=some (.agg [I 0,I 0,I 0]):=by kernel_rfl
def D6o(n:Nat)(x:A1Q):A1I n x.row:=by
 cases x with
 |rep p=>have:=A9O n p;simp[A1Q.row,A1I,bdd]at this|-;exact this
 |ins u=>have:=A3d n u;rw[u.row_eq]at this;simp[A1Q.row,A1I,bdd]at this|-;exact this
def D0o{x y}:A0x prog 79 [(0,.agg [I x.act,I x.item,I x.n]),(1,.agg [I y.act,I y.item,I y.n])]=some (.agg (A2Z (x,y))):=by simp[A0x,A1b,A1o,A0d,AV.cells,AV.storable,A2Z]
def A4Z(number:Int)(s:List A1v)(u:A0a)(io:Own)(r p q:Nat)(T:Env):Prop:=T 2=.list 5 (A2e s) .no/\T 5=.cptr [I u.id.act,I u.id.item,I u.id.n,I u.kind,S u.label,.list 4 (A0g u.head) .no,.list 4 (A0g u.words) .no,.list 8 (A0p u.kids) .no]/\T 8=.cptr [I number]/\T 10=.ptr r 0/\T 13=.ptr p 0/\T 15=.list 3 (A1l (A0R u).tail) io/\T 16=.ptr q 0
def A6a(number day:Int)(q:Nat)(Mc M:Mem)(items:List A1Q):Prop:=A1c q Mc M/\∃iv,M[q]?=some (C4r number day iv)/\Fm 25 A1Q.row (q+1) M iv items
def A6a.app{number day}{q}{Mc M}{items}(h:A6a number day q Mc M items)(hq:q<Mc.length)(X:Mem):A6a number day q Mc (M++X) items:=by obtain⟨h1,iv,h2,h3⟩:=h;have hk:Grow M (M++X):=A0c.app none M X;exact⟨h1.trans (hk.low (n:=q) (by have:=h1.1;omega) (by simp)),iv,hk.get h2 (by simp),h3.keep hk⟩
def A6a.push{number day}{q}{Mc M M'}{iv v'}{items items'}(hk:A1c q Mc M)(ho:M[q]?=some (C4r number day iv))(hf:Fm 25 A1Q.row (q+1) M iv items)
 (k1:A5r 25 A1Q.row M' v' items')(k2:A0c (A4Y iv) M M')(k3:A4Y v'=A4Y iv\/∀f,A4Y v'=some f->M.length<=f):
 A0i (some 1) M' (.ptr q 6) v'=some (M'.set q (C4r number day v'))/\A6a number day q Mc (M'.set q (C4r number day v')) items':=by
 have hl:q+1<=M.length:=(Z0a.1 ho).1
 have a:=hf.cells k2 ho
 have b:=hf.push hl k1 k3
 have c:q<M'.length:=(Z0a.1 a).1
 refine⟨by rw[A0f a,k1.cells,Z0e ⟨k1.store,by simp,rfl⟩];rfl,(hk.trans ((hf.low hl k2).le (by omega))).setq (Z0n _),v',by simp[c],b.setq (by omega)⟩
def C4q{K V:Type}{d:K->AV}{a:V->AV}{α:Type}{sz n}{enc:α->List AV}{M M'}{v}{items}{b}{L}(h:A2q d a M b L)(hf:Fm sz enc n M v items)(hk:A0c (A4Y v) M M'):A2q d a M' b L:=by
 refine h.keep hk λe=>?_;obtain⟨es,c,h1,_⟩:=h;rcases hf.fam with⟨rfl,_⟩|rfl|⟨f,rfl,hm⟩
 .simp at e
 .simp at e
 .simp only[B9H,Z0b]at e;subst e;rw[hm]at h1;simp at h1
section
variable (gl:Nat->AV)
def B3M(u:A0a)(M:Mem)(hg:u.good)(hc:A0r u<=1000):A0e (WC gl) 67 [.agg u.row] M (λv M'=>v=.list 3 (A1l (A0R u)) .no/\M'=M):=A0e.still (enc:=IdD.row) (λ_=>rfl) B2c (D5t gl u M hg hc)
set_option maxHeartbeats 1000000 in
def D5C(d5:gl 0=A2z)(da:gl 1=A2K)(u:A0a)(l:List A0J)(s:List A1v)(g a7:Int)(M:Mem)(ag:Fit u)(hl:l.length<=1000)(cr:∀s∈l,s.good)(hs:s.length<=1000)(ht:∀m∈s,m.to.length<=40):A0e (WC gl) 20 [.agg u.row,.list 5 (A1L l) .no,.list 5 (A2e s) .no,I g,I a7] M (λv M'=>v=D8K u l s g a7/\M'=M):=by
 refine A0e.dataX ?_
 obtain⟨F,hF⟩:=ex (λx=>A0E x u)
 obtain⟨A,hA⟩:=ex (D8K u l s g a7)
 rw[<-hA]
 obtain⟨r,hr⟩:=ex (M.length)
 have e6:∀e,bdd r (A5P e):=λe=>by simp[A5P,B0I,bdd,A1I]
 obtain⟨Ma,bz⟩:=ex (M++[D2m])
 have cn:Grow M Ma:=by rw[bz];exact A0c.app none _ _
 have c0:Ma[r]?=some D2m:=by rw[bz,hr];simp
 have ao:=C4O gl d5 da F u hF l Ma ag hl cr
 obtain⟨R,hR⟩:=ex (A7q F u l)
 rw[<-hR]at ao
 have bq:=u.row_eq
 rw[bq]at ao|-
 have ac:A=if R≠0 then A5P R else if C3r g a7=true then A5P 1
  else if((A0R u).tail.any λx=>decide (x.act=g))=true then A5P 5
  else if C3F u (A1O F l s)≠0 then A5P (C3F u (A1O F l s))
  else .tuple [C7v g a7 (A2H u++A3w (A1O F l s)),.list 6 ((A3D g u (A1O F l s)).map A2Z) .no,I 0]:=by rw[hA,hR,hF];rfl
 have ad:∀(M5:Mem) e,Grow Ma M5->A=A5P e->r<M5.length/\(Grow M (M5.set r D2m)/\Still (M5.set r D2m) r (bdd r) [A5P e] [A]):=λM5 e h he=>by have h1:=h.get c0 (by simp);refine⟨(Z0a.1 h1).1,⟨by simpa using(cn.trans h).1,λj hj _=>by rw[Z0c (by omega)];exact(cn.trans h).2 j hj (by simp)⟩,?_⟩;rw[he];exact .same (e6 e) .nil
 have ah:∀M5:Mem,Grow Ma M5->A0i (some 7) M5 (.ptr r 0) B0I=some (M5.set r D2m):=λM5 h=>by rw[A0f (h.get c0 (by simp))];simp[B0I,AV.storable,AV.cells,A0d]
 refine A0n hB func20 ?_
 simp -dsimp[A0k]
 rw[<-bz,<-hr]
 clear bz
 refine A0q func47 ao ?_
 rintro _ M1 ⟨⟨pr,rfl,dj,ed⟩,cd⟩
 obtain⟨M2,ar⟩:=ex (M1++[A0m.cells 96 pr])
 have ab:Grow Ma M2:=by rw[ar];exact cd.trans (A0c.app none _ _)
 obtain⟨p,hp⟩:=ex (M1.length)
 have dl:M2[p]?=some (.cells 96 pr):=by rw[ar,hp];simp
 obtain⟨y0,y1,y2,y3,rfl⟩:∃a b c d,pr=[a,b,c,d]:=by
  match pr,dj with
  |[a,b,c,d],_=>exact⟨a,b,c,d,rfl⟩
 by_cases hR0:R=0
 case neg=>rw[Z0e hR0]at ac;simp -dsimp[A0k,A0i,A0d,AV.storable,AV.cells];rw[<-ar];obtain⟨q1,q2⟩:=ad M2 R ab ac;simp -dsimp[hR0,A6o,ah M2 ab,A0s,q1];exact q2
 rw[Z0d (by simpa using hR0)]at ac
 subst hR0
 by_cases a1:g<1
 .have af:A=A5P 1:=by rw[ac,Z0e (by simp[C3r,a1])]
  have bb:¬1<=g:=by omega
  obtain⟨q1,q2⟩:=ad M2 1 ab af;simp -dsimp[A0k,A0i,A0d,AV.storable,AV.cells];rw[<-ar];simp -dsimp[a1,bb,A6o,ah M2 ab,A0s,q1];exact q2
 have bb:1<=g:=by omega
 by_cases a2:1048576<g
 .have af:A=A5P 1:=by rw[ac,Z0e (by simp[C3r,a2])]
  have bc:g>1048576:=a2;obtain⟨q1,q2⟩:=ad M2 1 ab af;simp -dsimp[A0k,A0i,A0d,AV.storable,AV.cells];rw[<-ar];simp -dsimp[a1,bb,a2,bc,A6o,ah M2 ab,A0s,q1];exact q2
 have bc:¬g>1048576:=a2
 by_cases a3:a7<0
 .have af:A=A5P 1:=by rw[ac,Z0e (by simp[C3r,a3])]
  have c6:¬0<=a7:=by omega
  obtain⟨q1,q2⟩:=ad M2 1 ab af;simp -dsimp[A0k,A0i,A0d,AV.storable,AV.cells];rw[<-ar];simp -dsimp[a1,bb,a2,bc,a3,c6,A6o,ah M2 ab,A0s,q1];exact q2
 have c6:0<=a7:=by omega
 by_cases a4:1048576<a7
 .have af:A=A5P 1:=by rw[ac,Z0e (by simp[C3r,a4])]
  have cx:a7>1048576:=a4;obtain⟨q1,q2⟩:=ad M2 1 ab af;simp -dsimp[A0k,A0i,A0d,AV.storable,AV.cells];rw[<-ar];simp -dsimp[a1,bb,a2,bc,a3,c6,a4,cx,A6o,ah M2 ab,A0s,q1];exact q2
 have cx:¬a7>1048576:=a4
 have c9:=B3M gl u M2 ag.1 ag.2.2
 have bk:(A0R u).tail.length<=1000:=by have:=A5t u;have:=ag.2.2;simp;omega
 rw[Z0d (by simp[C3r];omega)]at ac
 have dg:=C1V gl (A0R u).tail .no g M2 bk
 rw[bq]at c9
 simp -dsimp[A0k,A0i,A0d,AV.storable,AV.cells]
 rw[<-ar,<-hp]
 simp -dsimp[a1,bb,a2,bc,a3,c6,a4,cx]
 refine A0h func67 c9 ?_
 have e9:(1:Int)<=(A0R u).length:=by have:=A5t u;have:=A6c u;omega
 have ej:(A1l (A0R u)).tail=A1l (A0R u).tail:=by simp[A1l,List.map_tail]
 simp -dsimp[e9]
 rw[ej]
 generalize A7A _ _ _ _ _=io
 refine A0h func68 (C1V gl (A0R u).tail io g M2 bk) ?_
 cases hany:(A0R u).tail.any λx=>decide (x.act=g)
 case true=>
  have af:A=A5P 5:=by rw[ac,Z0e hany]
  obtain⟨q1,q2⟩:=ad M2 5 ab af;simp -dsimp[A6o,ah M2 ab,A0s,q1];exact q2
 rw[Z0d (by rw[hany];simp)]at ac
 obtain⟨q,hq⟩:=ex (M2.length)
 obtain⟨Mc,ch⟩:=ex (M2++[C4r g a7 A0G])
 have cu:Mc[q]?=some (C4r g a7 A0G):=by rw[ch,hq];simp
 have d6:Grow M2 Mc:=by rw[ch];exact A0c.app none _ _
 have c4:q<Mc.length:=(Z0a.1 cu).1
 have ca:A6a g a7 q Mc Mc []:=⟨A1c.refl _ _,A0G,cu,.nil⟩
 have ey:=A1Z u.kids
 have ew:=A5o u
 have dw:=ag.2.2
 simp -dsimp[C9h,C9j,A0k,A0i,A0d,AV.storable,AV.cells]
 rw[<-ch,<-hq]
 refine A4B (.exit 0) (λT M5=>A4Z g s u io r p q T/\T 14=I 0/\A6a g a7 q Mc M5 (A2H u)) ?_ ?_
 .refine A0B hB u.kids.length 74 (λT M5=>∃i:Nat,i<=u.kids.length/\A4Z g s u io r p q T/\T 14=I 0/\T 72=.list 8 (A0p u.kids) .no/\T 73=I u.kids.length/\T 74=I i/\A6a g a7 q Mc M5 ((A2H u).take i)) ?_ ?_
  .exact⟨0,by omega,by simp[A4Z],by simp,by simp,by simp,by simp,by simpa using ca⟩
  rintro T M5 ⟨i,i1,⟨t2,t5,t8,y,a0,z,w⟩,a5,t72,bd,bt,hm⟩;by_cases hi:i<u.kids.length;case neg=>
   (have aj:¬(i:Int)<u.kids.length:=by omega);rw[Z0g (by simp[A2H];omega)]at hm
   simp -dsimp[t2,t5,t8,y,a0,z,w,a5,t72,bd,bt,aj,A4Z];exact hm
  have aj:(i:Int)<u.kids.length:=by omega
  have w1:=A1H (i:=i) (by omega);obtain⟨X,hX⟩:=ex (u.kids[i]);have e0:u.kids[i].row=[I X.id.act,I X.id.item,I X.id.n,I X.kind,S X.label,.list 4 (A0g X.head) .no,.list 4 (A0g X.words) .no,.list 8 (A0p X.kids) .no]:=by rw[<-hX];exact X.row_eq
  have bw:=λM=>D7B gl u X.id M ag.1 ag.2.2;rw[bq]at bw;obtain⟨M6,b3⟩:=ex (M5++[A0m.cells 27 [I X.id.act,I X.id.item,I X.id.n,I X.kind,S X.label,.list 4 (A0g X.head) .no,.list 4 (A0g X.words) .no,.list 8 (A0p X.kids) .no]]);have e4:M6[M5.length]?=some (A0m.cells 27 [I X.id.act,I X.id.item,I X.id.n,I X.kind,S X.label,.list 4 (A0g X.head) .no,.list 4 (A0g X.words) .no,.list 8 (A0p X.kids) .no]):=by rw[b3];simp
  obtain⟨dd,iv,co,cv⟩:=hm.app c4 [A0m.cells 27 [I X.id.act,I X.id.item,I X.id.n,I X.kind,S X.label,.list 4 (A0g X.head) .no,.list 4 (A0g X.words) .no,.list 8 (A0p X.kids) .no]];rw[<-b3]at dd co cv;have ax:(A2H u).take (i+1)=(A2H u).take i++[.rep ((B4B u X.id).getD [])]:=by rw[Z0A (by simpa[A2H]using hi)];simp[A2H,hX]
  simp -dsimp[t2,t5,t8,y,a0,z,w,a5,t72,bd,bt,hi,aj,e0,A0k,A0i,A0d,AV.storable,AV.cells];rw[<-b3];simp -dsimp[t2,t5,t8,y,a0,z,w,a5,t72,bd,bt,A0b e4];refine A0h func70 (bw M6) ?_;simp -dsimp[t2,t5,t8,y,a0,z,w,a5,t72,bd,bt,A0b co,C9d,A0l,A0M,AV.storable,AV.cells];refine B1y (C:=WC gl) (enc:=A1Q.row) (e:=128) (sz:=25) (news:=[.rep ((B4B u X.id).getD [])]) (o:=.full) D4L D9q D4H cv.fam (by simp[A2H];omega) rfl rfl ?_;intro v' M7 k1 k2 k3;obtain⟨bi,cj⟩:=A6a.push dd co cv k1 k2 k3;simp -dsimp[t2,t5,t8,y,a0,z,w,a5,t72,bd,bt,bi,w1,A4Z];refine⟨⟨i+1,by clear w1;omega,rfl,?_⟩,by clear w1;omega⟩;rw[ax];exact cj
 clear ca cu dg
 rintro T M5 ⟨⟨t2,t5,t8,y,a0,z,w⟩,a5,ck⟩
 obtain⟨L,a,b,c,he,ee,hP⟩:=ed rfl
 simp only[Z1a,Z1D]at he
 obtain⟨rfl,rfl,rfl,rfl⟩:=he
 have hS:A6C u l:=C5p ag (hF▸hR.symm)
 obtain⟨ts,bp⟩:=ex (A1O F l s)
 obtain⟨K,hK⟩:=ex (A3a l)
 have cc:ts=K.map (A2x F l s l.length):=by rw[bp,hK];rfl
 rw[<-bp]at ac
 have c2:∀M6,A1c q Mc M6->Grow M1 M6:=λM6 h=>by
  have h1:Grow M1 M2:=by rw[ar];exact A0c.app none _ _
  exact h.grow (h1.trans d6) (by have:=h1.1;omega)
 have dp:∀M6,A1c q Mc M6->M6[p]?=some (.cells 96 [.list 5 (A1L l) .no,.mapr a,.mapr b,.mapr c]):=λM6 h=>by have dj:p<M2.length:=(Z0a.1 dl).1;rw[h.2 p (by omega)];exact d6.get dl (by simp)
 obtain⟨KL,d3,d8⟩:=hP.kd
 have b8:=d8 (-1)
 rw[show A3M l (-1) l.length=K from hK.symm]at b8
 have dc:∀M6,A1c q Mc M6->A1Y prog 94 M6 (.mapr c) (I (-1)) false=some (A8M KL (-1)):=λM6 h=>by rw[(d3.keep (c2 M6 h) (by simp)).get (C0h 94 130 (by kernel_rfl)) (-1:Int) B5G false];unfold A8M;cases A1N KL (-1:Int)<;>rfl
 obtain⟨bm,dm⟩:=ex (A8M KL (-1))
 rw[<-dm]at dc b8
 have et:K.length<=l.length:=by rw[hK];exact B1F _ _ _
 have d0:∀M6,A1c q Mc M6->A2y prog 130 bm=some K.length:=λM6 h=>b8.len (e':=3) (by simp)
 obtain⟨m,dq⟩:=ex (M5.length)
 obtain⟨M6,b3⟩:=ex (M5++[A0m.map [] 0])
 have az:=ck.app c4 [.map [] 0]
 have ay:A2q A3c A3c M6 m ([]:List (IdD×IdD)):=by rw[dq,b3];exact A2q.new M5
 have er:q<m:=by have:=ck.1.1;omega
 rw[<-b3]at az
 have ds:=B2Q (s:=s) hS
 rw[<-hF,<-bp]at ds
 have e8:∀n (h:n<l.length),∃x,F l[n].id=some x/\x.good/\x.words.length<=300/\x.head.length<=300:=by rw[hF];exact hS.fd
 have dt:=C5k (s:=s) hS hl
 rw[<-hF,<-bp]at dt
 have eo:ts.length=K.length:=by rw[cc,Z0G]
 have ci:∀n,(A5h g ((ts.take n).map (·.2.1)) u.kids.length).map (·.1)=(ts.take n).flatMap (·.2.1):=λn=>by rw[B3x,Z3C];rfl
 simp -dsimp[t2,t5,t8,y,a0,z,w,a5]
 rw[<-b3,<-dq]
 simp -dsimp[t2,t5,t8,y,a0,z,w,a5,A0b (dp M6 az.1),dc M6 az.1,d0 M6 az.1]
 refine A4B (.exit 2) (λT M7=>A4Z g s u io r p q T/\T 14=I (A7M ts 0)/\T 21=.mapr m/\A6a g a7 q Mc M7 (A2H u++A3w ts)/\A2q A3c A3c M7 m (A7a g u ts)) ?_ ?_
 .refine A0B hB K.length 98 (λT M7=>∃j:Nat,j<=K.length/\A4Z g s u io r p q T/\T 14=I (A7M (ts.take j) 0)/\T 21=.mapr m/\T 96=bm/\T 97=I K.length/\T 98=I j/\A6a g a7 q Mc M7 (A2H u++A3w (ts.take j))/\A2q A3c A3c M7 m (A5h g ((ts.take j).map (·.2.1)) u.kids.length)) ?_ ?_
  .exact⟨0,by omega,by simp[A4Z,t2,t5,t8,y,a0,z,w],by simp[a5,A7M],by simp,by simp,by simp,by simp,by simpa[A3w]using az,by simpa[A5h]using ay⟩
  clear t2 t5 t8 y a0 z w a5 az ay;rintro T M7 ⟨j,j1,⟨t2,t5,t8,y,a0,z,w⟩,a5,a6,a9,aa,a8,hm,am⟩;have dr:=a8;by_cases hj:j<K.length;case neg=>
   (have cy:¬(j:Int)<K.length:=by omega);rw[Z0g (by omega)]at hm am a5
   simp -dsimp[t2,t5,t8,y,a0,z,w,a5,a6,a9,aa,a8,cy,A4Z];exact⟨hm,am⟩
  have cy:(j:Int)<K.length:=by omega
  have w1:=A1H (i:=j) (by omega);have en:=b8.keep (c2 M7 hm.1) (by simp);obtain⟨pt,eg,ef⟩:=en.at1 (P:=prog) (t:=3) (f:=λk:Nat=>I k) (λ_=>rfl) E4K sz3 hj;have dh:K[j]∈A3M l (-1) l.length:=by have dz:K=A3M l (-1) l.length:=hK;rw[<-dz];exact Z0o hj
  have ce:K[j]<l.length:=A7o dh;obtain⟨t,c7⟩:=ex (A2x F l s l.length K[j]);have dk:ts[j]'(by omega)=t:=by rw[c7];simp[cc]
  have ap:=D9e gl F s l L ee a b c hl cr hs ht hS.ord e8 l.length K[j] M7 ce (by omega) (hP.keep (c2 M7 hm.1));rw[<-c7]at ap;have cs:Fit t.1:=by rw[c7,hF];exact B5J hS hl cr ht ce (by omega)
  have el:A3A t.1:=by rw[c7];exact B3C F l s _ _
  have ct:t∈ts:=by rw[<-dk];exact Z0o _
  have ep:=dt t ct;have ax:ts.take (j+1)=ts.take j++[t]:=by rw[Z0A (by omega),dk]
  obtain⟨M8,bj⟩:=ex (M7++[A0m.cells 27 t.1.row]);have br:M8[M7.length]?=some (A0m.cells 27 t.1.row):=by rw[bj];simp
  have c8:=hm.app c4 [A0m.cells 27 t.1.row];have ba:=am.keep (A0c.app none M7 [A0m.cells 27 t.1.row]) (by simp);rw[<-bj]at c8 ba;obtain⟨xt,dn⟩:=ex (M7.length);rw[<-dn]at br;have ez:q<xt:=by have:=hm.1.1;omega
  have eu:m≠xt:=by have:=am.lt;omega
  simp -dsimp[t2,t5,t8,y,a0,z,w,a5,a6,a9,aa,a8,cy,eg,ef,A0b (dp M7 hm.1)];refine A0h func71 ap ?_;simp -dsimp[t2,t5,t8,y,a0,z,w,a5,a6,a9,aa,a8,D0J,A0k,A0i,A0d,AV.storable,AV.cells];rw[<-bj,<-dn];simp -dsimp[t2,t5,t8,y,a0,z,w,a5,a6,a9,aa,a8,A0b br];refine A0q func72 (C1y gl d5 da t.1 M8 cs el) ?_;rintro _ M8 ⟨⟨tx,rfl⟩,rfl⟩;simp -dsimp[-A4U];refine B1L (λT M9=>M9=M8/\A4Z g s u io r p q T/\T 14=I (A7M (ts.take j) 0)/\T 21=.mapr m/\T 24=.ptr xt 0/\T 25=.list 3 (A1l t.2.1) .no/\T 26=I (C4H t)/\T 96=bm/\T 97=I K.length/\T 98=I j) ?_ ?_
  .by_cases hfe:B0Y t.1=0
   .simp -dsimp[t2,t5,t8,y,a0,z,w,a5,a6,a9,aa,a8,hfe,C4H,A4Z]
   .simp -dsimp[t2,t5,t8,y,a0,z,w,a5,a6,a9,aa,a8,hfe,C4H,A4Z]
  clear t2 t5 t8 y a0 z w a5 a6 a9 aa a8;rintro T _ ⟨rfl,⟨t2,t5,t8,y,a0,z,w⟩,a5,a6,ai,bx,c1,a9,aa,a8⟩;simp -dsimp[t2,t5,t8,y,a0,z,w,a5,a6,ai,bx,c1,a9,aa,a8];refine A0h func73 (C7p gl _ _ _) ?_;have d2:A8J (A7M (ts.take j) 0) (C4H t)=A7M (ts.take (j+1)) 0:=by rw[ax,A7M,A7M,Z3c];rfl
  rw[d2];simp -dsimp[t2,t5,t8,y,a0,z,w,a5,a6,ai,bx,c1,a9,aa,a8];refine A4B (.exit 4) (λT M9=>A4Z g s u io r p q T/\T 14=I (A7M (ts.take (j+1)) 0)/\T 21=.mapr m/\T 24=.ptr xt 0/\T 96=bm/\T 97=I K.length/\T 98=I j/\M9[xt]?=some (A0m.cells 27 t.1.row)/\A6a g a7 q Mc M9 (A2H u++A3w (ts.take j))/\A2q A3c A3c M9 m (A5h g ((ts.take (j+1)).map (·.2.1)) u.kids.length)) ?_ ?_
  .refine A0B hB t.2.1.length 122 (λT M9=>∃i:Nat,i<=t.2.1.length/\A4Z g s u io r p q T/\T 14=I (A7M (ts.take (j+1)) 0)/\T 21=.mapr m/\T 24=.ptr xt 0/\T 96=bm/\T 97=I K.length/\T 98=I j/\T 120=.list 3 (A1l t.2.1) .no/\T 121=I t.2.1.length/\T 122=I i/\M9[xt]?=some (A0m.cells 27 t.1.row)/\A6a g a7 q Mc M9 (A2H u++A3w (ts.take j))/\A2q A3c A3c M9 m (A5h g ((ts.take j).map (·.2.1)) u.kids.length++(t.2.1.zipIdx.take i).map λx=>(x.1,(⟨g,(u.kids.length+j:Nat),(x.2:Int)+1⟩:IdD)))) ?_ ?_
   .exact⟨0,by omega,by simp[A4Z,t2,t5,t8,y,a0,z,w],by simp,by simp[a6],by simp[ai],by simp[a9],by simp[aa],by simp[a8],by simp,by simp,by simp,br,c8,by simpa using ba⟩
   clear t2 t5 t8 y a0 z w a5 a6 ai bx c1 a9 aa a8 hm am c8 ba br bj ap;rintro T M9 ⟨i,i1,⟨t2,t5,t8,y,a0,z,w⟩,a5,a6,ai,a9,aa,a8,bv,bf,bh,au,d4,ak⟩;(have ec:A5h g ((ts.take (j+1)).map (·.2.1)) u.kids.length=A5h g ((ts.take j).map (·.2.1)) u.kids.length++t.2.1.zipIdx.map λx=>(x.1,(⟨g,(u.kids.length+j:Nat),(x.2:Int)+1⟩:IdD)):=by rw[ax,Z0U,C1c];simp[A5h,Z0D,Z1A (show j<=ts.length by omega)]);by_cases hi:i<t.2.1.length;case neg=>
    (have aj:¬(i:Int)<t.2.1.length:=by omega);have cz:t.2.1.zipIdx.take i=t.2.1.zipIdx:=Z0g (by simp;omega)
    rw[cz,<-ec]at ak;simp -dsimp[t2,t5,t8,y,a0,z,w,a5,a6,ai,a9,aa,a8,bv,bf,bh,aj,A4Z];refine⟨au,d4,?_⟩;rw[<-Z1u];exact ak
   (have aj:(i:Int)<t.2.1.length:=by omega);have w2:=A1H (i:=i) (by omega)
   obtain⟨x,hx⟩:=ex (t.2.1[i]);(have cw:t.2.1[i].row=[I x.act,I x.item,I x.n]:=by rw[<-hx];rfl);obtain⟨aw,b6⟩:=ex (M9++[A0m.cells 23 [I x.act,I x.item,I x.n]]);(have cb:Grow M9 aw:=by rw[b6];exact A0c.app none _ _);(have bo:aw[M9.length]?=some (A0m.cells 23 [I x.act,I x.item,I x.n]):=by rw[b6];simp);obtain⟨b2,iv,b1,ae⟩:=d4.app c4 [A0m.cells 23 [I x.act,I x.item,I x.n]];have al:=ak.keep cb (by simp);rw[<-b6]at b2 b1 ae;have cg:=cb.get au (by simp);(have bg:A2y prog 47 iv=some (u.kids.length+j):=by rw[ae.fam.len (e':=128) (by simp)];simp[A2H,A3w,Z0D,Z1A (show j<=ts.length by omega)]);obtain⟨kj,e3⟩:=ex (u.kids.length+j);rw[<-e3]at bg al;have eh:x∉(A5h g ((ts.take j).map (·.2.1)) u.kids.length++(t.2.1.zipIdx.take i).map λx=>(x.1,(⟨g,(kj:Nat),(x.2:Int)+1⟩:IdD))).map (·.1):=by
    (have h1:(ts.take (j+1)).flatMap (·.2.1)=(ts.take j).flatMap (·.2.1)++t.2.1:=by rw[ax,Z1l];simp);have h2:((ts.take (j+1)).flatMap (·.2.1)).Nodup:=by have h:=ds.1;rw[<-Z1b (j+1) ts,Z1l]at h;exact(Z1L.1 h).1
    rw[h1]at h2;(have h3:(t.2.1.zipIdx.take i).map (λx=>x.1)=t.2.1.take i:=by rw[Z1u];congr 1;exact C3J _ 0);rw[Z0U,ci,Z1K];rw[show((λx:IdD×IdD=>x.1)∘λx:IdD×Nat=>(x.1,(⟨g,(kj:Nat),(x.2:Int)+1⟩:IdD)))=λx=>x.1 from rfl,h3];intro ek;(have h4:(ts.take j).flatMap (·.2.1)++t.2.1=((ts.take j).flatMap (·.2.1)++t.2.1.take i)++x::t.2.1.drop (i+1):=by rw[hx,Z0F,<-Z0j hi,Z1b]);rw[h4]at h2;exact(Z1L.1 h2).2.2 x ek x (by simp) rfl
   obtain⟨df,q1,q2,q3⟩:=al.put (A9d 129 23 (by kernel_rfl)) x (⟨g,(kj:Nat),(i:Int)+1⟩:IdD);rw[B8Q eh]at q2;have ea:A2g prog 129 aw (.mapr m) (.agg [I x.act,I x.item,I x.n]) (.agg [I g,I kj,I ((i:Int)+1)])=some df:=q1;(have cz:t.2.1.zipIdx.take (i+1)=t.2.1.zipIdx.take i++[(x,i)]:=by rw[Z0A (by simpa using hi),hx];simp);have eq:q<aw.length:=(Z0a.1 b1).1;have di:A6a g a7 q Mc df (A2H u++A3w (ts.take j)):=⟨b2.trans (q3.low (n:=q) (by omega) (λf hf=>by simp at hf;omega)),iv,q3.get b1 (by simp;omega),ae.fam.keep q3 (λf hf e=>by simp at e;have:=ae.fam;obtain⟨es,cl,h1,_⟩:=al;rcases ae.fam with⟨rfl,_⟩|rfl|⟨f',rfl,hm⟩<;>simp at hf;subst hf;rw[e,hm]at h1;simp at h1),ae.lat⟩;simp -dsimp[t2,t5,t8,y,a0,z,w,a5,a6,ai,a9,aa,a8,bv,bf,bh,hi,aj,cw,A0k,A0i,A0d,AV.storable,AV.cells];rw[<-b6];simp -dsimp[t2,t5,t8,y,a0,z,w,a5,a6,ai,a9,aa,a8,bv,bf,bh,A0b bo,A0b b1,bg,w2,C5f,ea,A4Z];(have eb:((kj:Nat):Int)=(u.kids.length:Int)+(j:Int):=by omega);rw[eb]at q2;refine⟨⟨i+1,by clear w2;omega,by simp,q3.get cg (by simp;omega),di,?_⟩,by clear w2;omega⟩;rw[<-Z1u,<-Z1u,cz,Z0U,<-Z0F];exact q2
  clear t2 t5 t8 y a0 z w a5 a6 ai bx c1 a9 aa a8 hm am c8 ba br bj ap;rintro T M9 ⟨⟨t2,t5,t8,y,a0,z,w⟩,a5,a6,ai,a9,aa,a8,au,⟨b2,iv,b1,ae⟩,ak⟩;simp -dsimp[t2,t5,t8,y,a0,z,w,a5,a6,ai,a9,aa,a8,A0b b1,A0b au,C9a,A0l,A0M,AV.storable,AV.cells];refine B1y (C:=WC gl) (enc:=A1Q.row) (e:=128) (sz:=25) (news:=[.ins t.1]) (o:=.full) D4L D9q D4H ae.fam (by simp[A2H,A3w];omega) rfl rfl ?_;intro v' aw k1 k2 k3;obtain⟨bi,bu⟩:=A6a.push b2 b1 ae k1 k2 k3;have al:=(C4q ak ae k2).keep (A0c.set aw q (C4r g a7 v')) (by simp;omega);simp -dsimp[t2,t5,t8,y,a0,z,w,a5,a6,ai,a9,aa,a8,dr,bi,w1,A4Z];refine⟨⟨j+1,Nat.succ_le_of_lt hj,rfl,by simp,?_,?_⟩,Nat.sub_lt_sub_left hj (Nat.lt_succ_self j)⟩
  .rw[ax];simpa[A3w]using bu
  .rw[<-Z1u];exact al
 clear t2 t5 t8 y a0 z w a5 az ay ck
 rintro T M7 ⟨⟨t2,t5,t8,y,a0,z,w⟩,a5,a6,⟨dy,iv,c5,cq⟩,am⟩
 have b0:Grow Ma M7:=cd.trans (c2 M7 dy)
 have aq:A2y prog 47 iv=some (u.kids.length+ts.length):=by rw[cq.fam.len (e':=128) (by simp)];simp[A2H,A3w]
 obtain⟨kt,db⟩:=ex (u.kids.length+ts.length)
 rw[<-db]at aq
 have av:C3F u ts=if 32<kt then 6 else A7M ts 0:=by rw[C3F,db]
 by_cases h32:32<kt
 .have an:(32:Int)<kt:=by omega
  have b4:(kt:Int)>32:=an;rw[Z0e h32]at av;have af:A=A5P 6:=by rw[ac,av];rfl
  obtain⟨q1,q2⟩:=ad M7 6 b0 af;simp -dsimp[t2,t5,t8,y,a0,z,w,a5,a6,A0b c5,aq,h32,an,b4,A6o,ah M7 b0,A0s,q1];exact q2
 have an:¬(32:Int)<kt:=by omega
 have b4:¬(kt:Int)>32:=an
 rw[Z0d h32]at av
 by_cases he0:A7M ts 0=0
 case neg=>
  have af:A=A5P (A7M ts 0):=by rw[ac,av,Z0e he0]
  obtain⟨q1,q2⟩:=ad M7 _ b0 af;simp -dsimp[t2,t5,t8,y,a0,z,w,a5,a6,A0b c5,aq,h32,an,b4,he0,A6o,ah M7 b0,A0s,q1];exact q2
 rw[Z0d (by rw[av,he0];simp)]at ac
 have bs:=C0n (s:=s) hS g
 rw[<-hF,<-bp]at bs
 rw[bs]at ac
 simp -dsimp[t2,t5,t8,y,a0,z,w,a5,a6,A0b c5,aq,h32,an,b4,he0]
 obtain⟨W,hW⟩:=ex (A7a g u ts)
 rw[<-hW]at am ac
 obtain⟨I1,c3⟩:=ex ((A0R u).tail)
 rw[<-c3]at ac bk
 rw[<-c3]at z
 obtain⟨n7,em⟩:=ex (M7.length)
 have cj:m<n7:=by rw[em];exact am.lt
 have ei:q<n7:=by omega
 have e7:r<n7:=by have:=(Z0a.1 (b0.get c0 (by simp))).1;omega
 refine A0B hB I1.length 155 (λT M8=>∃i:Nat,i<=I1.length/\T 10=.ptr r 0/\T 16=.ptr q 0/\T 21=.mapr m/\T 153=.list 3 (A1l I1) io/\T 154=I I1.length/\T 155=I i/\A1c n7 M7 M8/\Fm 6 A2Z n7 M8 (T 31) ((I1.take i).map λx=>(x,(A1N W x).getD idZ))) ?_ ?_
 .refine⟨0,by omega,by simp[y],by simp[w],by simp[a6],by simp[c3],by simp[c3],by simp,A1c.refl _ _,?_⟩;simp -dsimp;exact .nil
 clear t2 t5 t8 y a0 z w a5 a6
 rintro T M8 ⟨i,i1,y,w,a6,b7,b5,b9,bn,cm⟩
 generalize cf:T 31=dv at*
 by_cases hi:i<I1.length
 case neg=>
  have aj:¬(i:Int)<I1.length:=by omega
  rw[Z0g (by omega)]at cm;have dx:M8[q]?=some (C4r g a7 iv):=(bn.2 q ei).trans c5;have d9:M8[r]?=some D2m:=(bn.2 r e7).trans (b0.get c0 (by simp));have du:Grow M M8:=bn.grow (cn.trans b0) (by omega);have e5:r<M8.length:=(Z0a.1 d9).1;have bi:A0i (some 7) M8 (.ptr r 0) (.agg [I g,S A9G,I a7,I 1,I a7,eS,iv])=some (M8.set r (C4r g a7 iv)):=by rw[A0f d9];simp[AV.storable,AV.cells,A0d,cq.fam.store]
  simp -dsimp[y,w,a6,b7,b5,b9,aj,cf,A0b dx,bi,A0s,e5];rw[ac];refine⟨⟨by simpa using du.1,λj hj _=>by rw[Z0c (by omega)];exact du.2 j hj (by simp)⟩,?_⟩;exact .tuple (.agg (.same trivial (.same trivial (.same trivial (.same trivial (.same trivial (.same trivial (cq.data (A6G (D6o _) _) .nil))))))) (cm.data (A6G (λx=>by simp[A2Z,A1I,bdd]) _) (.same trivial .nil))) .nil
 have aj:(i:Int)<I1.length:=by omega
 have w1:=A1H (i:=i) (by omega)
 obtain⟨x,hx⟩:=ex (I1[i])
 have cw:I1[i].row=[I x.act,I x.item,I x.n]:=by rw[<-hx];rfl
 obtain⟨xa,de⟩:=ex (M8.length)
 obtain⟨M9,cp⟩:=ex (M8++[A0m.cells 23 [I x.act,I x.item,I x.n]])
 have b2:Grow M8 M9:=by rw[cp];exact A0c.app none _ _
 have au:M9[xa]?=some (A0m.cells 23 [I x.act,I x.item,I x.n]):=by rw[cp,de];simp
 have ae:=cm.keep b2
 have be:=bn.trans (b2.low (n:=n7) (by have:=bn.1;omega) (by simp))
 have ak:A2q A3c A3c M9 m W:=by obtain⟨es,cl,e1,e2⟩:=am;exact⟨es,cl,(be.2 m cj).trans e1,e2⟩
 have d7:A1Y prog 129 M9 (.mapr m) (.agg [I x.act,I x.item,I x.n]) false=some (.agg [I ((A1N W x).getD idZ).act,I ((A1N W x).getD idZ).item,I ((A1N W x).getD idZ).n]):=by rw[show AV.agg [I x.act,I x.item,I x.n]=A3c x from rfl,ak.get (A9d 129 23 (by kernel_rfl)) x D8d false];cases A1N W x<;>rfl
 have d1:n7<=M9.length:=by have:=be.1;omega
 have ax:(I1.take (i+1)).map (λx=>(x,(A1N W x).getD idZ))=(I1.take i).map (λx=>(x,(A1N W x).getD idZ))++[(x,(A1N W x).getD idZ)]:=by rw[Z0A hi,Z0U,hx];rfl
 simp -dsimp[y,w,a6,b7,b5,b9,hi,aj,cw,A0k,A0i,A0d,AV.storable,AV.cells]
 rw[<-cp,<-de]
 refine A3o hB (A0u gl) (λk=>if k=1\/k=3\/k=4 then 1 else if k=7 then 2 else 0) (λk=>if k=4 then m else xa) (λ_=>false) [xa,m] (by intro j _ _;by_cases h:j=4<;>simp[h]) (by rfl) (by kernel_rfl) ?_
 simp -dsimp[y,w,a6,b7,b5,b9,cf,A0F,A2Y,A0b au,d7,D0o,A0l,A0M,AV.storable,AV.cells]
 refine⟨rfl,B1y (C:=WC gl) (enc:=A2Z) (e:=79) (sz:=6) (news:=[(x,(A1N W x).getD idZ)]) (o:=.full) E0u E5o E3J ae.fam (by simp;omega) rfl rfl ?_⟩
 intro v' aw k1 k2 k3
 have bo:=ae.cells k2 au
 have bu:aw[m]?=M9[m]?:=by refine k2.2 m (by omega) λe=>?_;have:=ae.lat m e;omega
 simp -dsimp[y,w,a6,b7,b5,b9,au,bo,bu,w1]
 refine⟨⟨i+1,by clear w1;omega,by simp,be.trans ((ae.low d1 k2).le (Z0n _)),?_⟩,by clear w1;omega⟩
 rw[<-Z1u,ax]
 exact ae.push d1 k1 k3
end
section
variable (gl:Nat->AV)
set_option maxHeartbeats 1000000 in
def C4z(ay:gl 0=A2z)(u t:A0a)(g:Int)(i:Nat)(b3:Int)(M:Mem)(hf:Fit u)(b8:Fit t)(hw:wcU t<=1000000000)(hx:Fit (A2p g i t 0 0))(be:u.kids.length<64)(bd:A2i t<8)
 (b9:A0r u+A0r t<=1024)(aq:B6l u (A2p g i t 0 0)=0)(a7:((A0R (A2p g i t 0 0)).any λy=>(A0R u).any λz=>decide (z=y))=false):
 A0e (WC gl) 232 [.agg u.row,.agg u.row,.agg (enR g i b3 (.ins t))] M (λv M'=>v=.tuple [.agg (A8h u (u.kids++[A2p g i t 0 0])).row,I 0]/\M'=M):=by
 refine A0e.dataX ?_
 obtain⟨x,aj⟩:=ex (A2p g i t 0 0)
 have bf:A0r x=A0r t:=by rw[aj,A8P]
 have ar:A2i x=A2i t:=by rw[aj,B6T]
 have a2:=λM=>D5X gl t g i M b8 hw
 rw[<-aj]at hx aq a7 a2|-
 have b7:u.id.row=[I u.id.act,I u.id.item,I u.id.n]:=rfl
 have b0:A0E u.id u=some u:=by obtain⟨a,b,c,d,e,f⟩:=u;rw[A0E];exact Z0e rfl
 have ac:∀l:List IdD,l=A0R u->((A0R x).any λy=>l.any λz=>decide (z=y))=false:=λl h=>by rw[h];exact a7
 obtain⟨b,hb⟩:=ex (M.length)
 obtain⟨M1,ah⟩:=ex (M++[z8])
 have h1:M1[b]?=some z8:=by rw[ah,hb];simp
 have b5:Grow M M1:=by rw[ah];exact A0c.app none _ _
 have af:=C8q gl u t M1 hf
 obtain⟨M2,a4⟩:=ex (M1++[A0m.cells 23 [I u.id.act,I u.id.item,I u.id.n],A0m.cells 3 [I u.kids.length]])
 obtain⟨p,hp⟩:=ex (M1.length)
 have ai:M2[p]?=some (A0m.cells 23 [I u.id.act,I u.id.item,I u.id.n]):=by rw[a4,hp];simp
 have au:M2[p+1]?=some (A0m.cells 3 [I u.kids.length]):=by rw[a4,hp];simp[Z0W]
 have b6:Grow M1 M2:=by rw[a4];exact A0c.app none _ _
 have w:=A7p gl u u.id M2 hf
 rw[b0]at w
 obtain⟨q,hq⟩:=ex (M2.length)
 obtain⟨M3,ak⟩:=ex (M2++[A0m.cells 27 [I u.id.act,I u.id.item,I u.id.n,I u.kind,S u.label,.list 4 (A0g u.head) .no,.list 4 (A0g u.words) .no,.list 8 (A0p u.kids) .no]])
 have b1:M3[q]?=some (A0m.cells 27 [I u.id.act,I u.id.item,I u.id.n,I u.kind,S u.label,.list 4 (A0g u.head) .no,.list 4 (A0g u.words) .no,.list 8 (A0p u.kids) .no]):=by rw[ak,hq];simp
 have a3:Grow M2 M3:=by rw[ak];exact A0c.app none _ _
 obtain⟨r,hr⟩:=ex (M3.length)
 obtain⟨M4,ad⟩:=ex (M3++[A0m.cells 27 [I x.id.act,I x.id.item,I x.id.n,I x.kind,S x.label,.list 4 (A0g x.head) .no,.list 4 (A0g x.words) .no,.list 8 (A0p x.kids) .no]])
 have a1:M4[r]?=some (A0m.cells 27 [I x.id.act,I x.id.item,I x.id.n,I x.kind,S x.label,.list 4 (A0g x.head) .no,.list 4 (A0g x.words) .no,.list 8 (A0p x.kids) .no]):=by rw[ad,hr];simp
 have a0:Grow M3 M4:=by rw[ad];exact A0c.app none _ _
 have bb:=A1Z u.kids
 have ba:A0A u.kids<A0r u:=by obtain⟨a,b,c,d,e,f⟩:=u;rw[A0r];show A0A f<_;omega
 have bc:=hf.2.2
 have m:=λM=>D4A gl ay u x M (by omega)
 rw[aq]at m
 have j:=λM=>D7D gl u x M hf hx
 rw[ar,Z0r (by omega)]at j
 have a6:=λM=>B5t gl u M hf.1 hf.2.2
 have a8:=λM=>B5t gl x M hx.1 hx.2.2
 obtain⟨s,hs⟩:=ex (M4.length)
 obtain⟨iu,ag⟩:=ex (A0R u)
 obtain⟨M5,al⟩:=ex (M4++[A0m.cells 85 [.list 3 (A1l iu) .no]])
 have av:M5[s]?=some (A0m.cells 85 [.list 3 (A1l iu) .no]):=by rw[al,hs];simp
 have a5:Grow M4 M5:=by rw[al];exact A0c.app none _ _
 have o:=λM=>B3M gl u M hf.1 hf.2.2
 have a9:=λM=>B3M gl x M hx.1 hx.2.2
 rw[<-ag]at o
 have an:iu.length<=1000:=by rw[ag,A5t];exact hf.2.2
 have aa:=D8t gl (λy=>iu.any λz=>decide (z=y)) 286 [.ptr s 0] (A0R x) .no M5 (by rw[A5t];exact hx.2.2) (λy _=>A1a func286 rfl rfl (C8W gl iu y s M5 an av))
 rw[ac iu ag]at aa
 have p1:=(a3.trans (a0.trans a5)).get ai (by simp)
 have p2:=(a3.trans (a0.trans a5)).get au (by simp)
 have r1:=a5.get a1 (by simp)
 have ab:=B9j gl u 289 [.ptr (p+1) 0,.ptr r 0] (u.kids++[x]) M5 hf (E5j gl u x (by omega) (p+1) r M5 p2 (by rw[x.row_eq];exact r1))
 have am:Grow M1 M5:=b6.trans (a3.trans (a0.trans a5))
 have h5:=am.get h1 (by simp)
 have b4:b<M5.length:=(Z0a.1 h5).1
 have az:=a3.get ai (by simp)
 have ap:=a0.get az (by simp)
 have ao:=a0.get b1 (by simp)
 have aw:¬(u.kids.length:Int)>=64:=by omega
 have w1:IntKind.i64.wrap ((A0r u:Int)+A0r x)=(A0r u:Int)+A0r x:=by rw[A0L (by omega) (by omega)]
 have ae:¬(A0r u:Int)+A0r x>1024:=by omega
 have b2:=x.row_eq
 have ax:=t.row_eq
 rw[b7]at af w j ab
 rw[A1z]at w
 rw[b2]at a2 m j a8 a9
 rw[ax]at a2
 rw[u.row_eq]at af w m j a6 o ab|-
 refine A0n hB func232 ?_
 simp -dsimp[A0k,enR,A1Q.row]
 rw[<-ah,<-hb]
 refine A0h func282 af ?_
 simp -dsimp[A0k,A0i,A0d,A0y,A0v]
 rw[<-a4,<-hp]
 simp -dsimp[A0b ai]
 refine A0h func32 w ?_
 simp -dsimp[A0k,A0i,A0d,A0y,A0v]
 rw[<-ak,<-hq]
 refine A0h func283 (a2 M3) ?_
 simp -dsimp[A0k,A0i,A0d,A0y,A0v]
 rw[<-ad,<-hr]
 simp -dsimp[A0b ao,A0b a1]
 refine A0h func284 (m M4) ?_
 simp -dsimp
 refine A0Z hB (A0u gl) (λk=>if k=1\/k=6\/k=7\/k=13 then 1 else 0) (λk=>if k=1 then q else if k=6 then p else r) (by rfl) (by kernel_rfl) ?_
 simp -dsimp[A0b ao,A0b a1,A0b ap,A0F,A2Y,aw]
 refine A1p func285 j ?_
 simp -dsimp
 refine A1p func30 a6 ?_
 simp -dsimp[A0b a1,A0F,A2Y]
 refine A1p func30 a8 ?_
 simp -dsimp[w1,ae]
 refine A0h func67 (o M4) ?_
 simp -dsimp[A0k,A0i,A0d,AV.storable,AV.cells]
 rw[<-al,<-hs]
 simp -dsimp[A0b r1]
 refine A0h func67 (a9 M5) ?_
 simp -dsimp
 refine A0h func68 aa ?_
 simp -dsimp[A0b p1]
 refine A0h func288 ab ?_
 simp -dsimp[A0f h5,A0y,A0v,A0s b4,A0j]
 exact⟨A0V (b5.trans am) (by omega),.tuple (.same (by simp only[bdd];exact A3d _ _) (.same trivial .nil)) .nil⟩
end
section
mutual
def C0w:∀(u:A0a),(A4F (λ_=>true) (λ(_:Unit) _=>()) u ()).1=true
 |.mk id k l h w ks=>by rw[A4F,Z0e rfl];exact B7e ks
def B7e:∀(ks:List A0a),(A3T (λ_=>true) (λ(_:Unit) _=>()) ks ()).1=true
 |[]=>by rw[A3T]
 |k::ks=>by rw[A3T,Z0e (C0w k)];exact B7e ks
end
section
variable (gl:Nat->AV)
def C4S(u:A0a)(M:Mem)(hf:Fit u)(hb:A3A u):A0e (WC gl) 86 [.agg u.row,fnV 389] M (λv M'=>v=B true/\M'=M):=by
 refine A3r (λ_=>trivial) ?_;have h:=B0c gl 389 [] [] (λ_=>true) (λ(_:Unit) _=>()) (λM1 _=>Grow M M1) (λ_ u=>A3A u/\u.lims) (λ_ ks=>B3i ks/\A5v ks) ?_ ?_ ?_ ?_ ?_ u () M hf.1 ⟨hb,hf.2.1⟩ (A0c.refl _ _)
 .rw[C0w]at h;exact h
 .intro a u h;exact⟨by have:=((A7i u).1 h.1);obtain⟨a,b,c,d,e,f⟩:=u;rw[A3A]at h;exact h.1.2.2.2,(A3R u h.2).2⟩
 .intro a k ks h;rw[B3i,A5v]at h;exact⟨h.1.1,h.2.1⟩
 .intro a k ks h _;rw[B3i,A5v]at h;exact⟨h.1.2,h.2.2⟩
 .intro M1 a X h;exact h.trans (A0c.app none _ _)
 .intro u a M1 hg hk hj;refine(A1a func389 rfl rfl (D0p gl M1 u hk.1 hk.2)).mono ?_;rintro _ _ ⟨rfl,rfl⟩;exact⟨rfl,hj⟩
def C4w(b:gl 0=A2z)(a:gl 1=A2K)(u:A0a)(M:Mem)(hf:Fit u)(hb:A3A u)(hv:B1v u=true):A0e (WC gl) 364 [.agg u.row] M (λv M'=>v=B true/\M'=M):=by have h1:=λM=>B5g gl b a u M hf;have h2:=λM=>C4S gl u M hf hb;rw[B4h hb,hv]at h1;rw[u.row_eq]at h1 h2|-;refine A0n hB func364 ?_;simp -dsimp;refine A0h func109 (h1 M) ?_;simp -dsimp;refine A0h func86 (h2 M) ?_;simp -dsimp
def C3U(c:gl 0=A2z)(b:gl 1=A2K)(u:A0a)(M:Mem)(hf:Fit u)(hb:A3A u)(hk:u.kind≠0)(hv:B0Y u=0)(a:A0e (WC gl) 72 [.agg u.row] M (λv M'=>(∃t,v=.tuple [S t,I (B0Y u)])/\M'=M)):A0e (WC gl) 303 [.agg u.row] M (λv M'=>v=B true/\M'=M):=by
 have d:B1v u=true:=by
  unfold B0Y at hv;split at hv
  .assumption
  .simp at hv
 have h2:=C4w gl c b u M hf hb d;rw[hv]at a;rw[u.row_eq]at h2 a|-;refine A0n hB func303 ?_;simp -dsimp;refine A0q func72 a ?_;rintro _ M1 ⟨⟨t,rfl⟩,rfl⟩;simp -dsimp;refine A0h func364 h2 ?_;simp -dsimp[hk]
def D2U(c:gl 0=A2z)(b:gl 1=A2K)(u:A0a)(M:Mem)(hf:Fit u)(hb:A3A u)(hk:u.kind≠0)(hv:B0Y u=0)(a:A0e (WC gl) 72 [.agg u.row] M (λv M'=>(∃t,v=.tuple [S t,I (B0Y u)])/\M'=M)):A0e (WC gl) 301 [.agg (A1Q.ins u).row] M (λv M'=>v=B true/\M'=M):=by have h2:=C3U gl c b u M hf hb hk hv a;rw[u.row_eq]at h2;refine A0n hB func301 ?_;simp -dsimp[A1Q.row];refine A0h func302 (C7i gl M 1) ?_;simp -dsimp;refine A0h func303 h2 ?_;simp -dsimp
end
end
@[simp] def E8n{a:ByteArray}{x y z:Int}:A1B prog .neq 152 (.agg [S a,I x,I y,I z]) (.agg [S a,I x,I y,I z])=some (B false):=by
 have h1:prog.eqGuardType prog.depth 152=false:=by kernel_rfl
 have h2:prog.stoodInHeld 152=false:=by kernel_rfl
 have h3:prog.stoodInHeld 150=false:=by kernel_rfl
 simp[A1B,A3q,A4T,A4p,A3Q,h1,A9V,h2,h3,A3p]
@[simp] def E9g{k d:Int}:A1B prog .eql 46 (.agg [I k,I d,eS]) (.agg [I k,I d,eS])=some (B true):=by
 have h1:prog.eqGuardType prog.depth 46=false:=by kernel_rfl
 have h2:prog.stoodInHeld 46=false:=by kernel_rfl
 simp[A1B,A3q,A4T,A4p,A3Q,h1,A9V,h2,A3p]
section
variable (gl:Nat->AV)
def C1l(l:List A0Q)(o1 o2:Own)(M:Mem)(hl:l.length<=100000000):A0e (WC gl) 84 [.list 4 (A0g l) o1,.list 4 (A0g l) o2] M (λv M'=>v=B true/\M'=M):=by
 refine A0n hB func84 ?_;simp -dsimp -implicitDefEqProofs;refine A0B hB l.length 13 (λT M1=>∃i:Nat,M1=M/\i<=l.length/\T 0=.list 4 (A0g l) o1/\T 1=.list 4 (A0g l) o2/\T 12=I l.length/\T 13=I i) ?_ ?_
 .exact⟨0,rfl,by omega,by simp,by simp,by simp,by simp⟩
 rintro T M1 ⟨i,rfl,i1,t0,t1,b,c⟩;by_cases hi:i<l.length
 .have a:(i:Int)<l.length:=by omega
  have w1:IntKind.i64.wrap ((i:Int)+1)=(i+1:Nat):=by rw[A0L (by omega) (by omega)];omega
  simp -dsimp -implicitDefEqProofs[t0,t1,b,c,a];refine A0Z hB (A0u gl) (λ_=>0) (λ_=>0) (by rfl) (by kernel_rfl) ?_;simp -dsimp -implicitDefEqProofs[t0,t1,b,c,hi,a,A0Q.row,w1];exact⟨⟨i+1,by clear w1;omega,rfl⟩,by clear w1;omega⟩
 .have a:¬(i:Int)<l.length:=by omega
  simp -dsimp -implicitDefEqProofs[t0,t1,b,c,a]
def D5M(l:List A0a)(o1 o2:Own)(M:Mem)(hl:l.length<=1000000)(h:∀u∈l,∀M,A0e (WC gl) 28 [.agg u.row,.agg u.row] M (λv M'=>v=B true/\M'=M)):
 A0e (WC gl) 85 [.list 8 (A0p l) o1,.list 8 (A0p l) o2,fnV 28] M (λv M'=>v=B true/\M'=M):=by
 refine A3r (λ_=>trivial) ?_
 refine A0n hB func85 ?_
 simp -dsimp -implicitDefEqProofs
 refine A0B hB l.length 17 (λT M1=>∃i:Nat,Grow M M1/\i<=l.length/\T 1=.list 8 (A0p l) o2/\T 2=fnV 28/\T 15=.list 8 (A0p l) o1/\T 16=I l.length/\T 17=I i) ?_ ?_
 .exact⟨0,Grow.refl _,by omega,by simp,by simp,by simp,by simp,by simp⟩
 rintro T M1 ⟨i,hg,i1,t1,t2,e,c,d⟩
 by_cases hi:i<l.length
 case neg=>
  have g:¬(i:Int)<l.length:=by omega
  simp -dsimp -implicitDefEqProofs[t1,t2,e,c,d,g];exact hg
 have g:(i:Int)<l.length:=by omega
 have w1:=A1H (i:=i) (by omega)
 obtain⟨x,hx⟩:=ex (l[i])
 have k:l[i]=x:=hx.symm
 have j:=A3F l i hi
 rw[k]at j
 obtain⟨M2,b⟩:=ex (M1++[A0m.cells 27 x.row])
 have ha:M2[M1.length]?=some (A0m.cells 27 [I x.id.act,I x.id.item,I x.id.n,I x.kind,S x.label,.list 4 (A0g x.head) .no,.list 4 (A0g x.words) .no,.list 8 (A0p x.kids) .no]):=by rw[b,x.row_eq];simp
 have p:Grow M1 M2:=by rw[b];exact A0c.app none _ _
 obtain⟨M3,f⟩:=ex (M2++[A0m.cells 27 x.row])
 have hb:M3[M2.length]?=some (A0m.cells 27 [I x.id.act,I x.id.item,I x.id.n,I x.kind,S x.label,.list 4 (A0g x.head) .no,.list 4 (A0g x.words) .no,.list 8 (A0p x.kids) .no]):=by rw[f,x.row_eq];simp
 have m:Grow M2 M3:=by rw[f];exact A0c.app none _ _
 have o:=m.get ha (by simp)
 have a:=h x (by rw[hx];exact Z0o hi) M3
 rw[x.row_eq]at a
 simp -dsimp -implicitDefEqProofs[t1,t2,e,c,d,hi,g,j,k,A0k,A0i,A0d,A0y,A0v]
 rw[show M1++[A0m.cells 27 x.row,A0m.cells 27 x.row]=M3 by rw[f,b];simp]
 simp -dsimp -implicitDefEqProofs[t1,t2,e,c,d,A0b o,show M1.length+1=M2.length by rw[b];simp,A0b hb]
 refine A0h func28 a ?_
 simp -dsimp -implicitDefEqProofs[t1,t2,e,c,d,w1]
 exact⟨⟨hg.trans (p.trans m),i+1,by clear w1;omega,rfl⟩,by clear w1;omega⟩
def C6A:∀(u:A0a) (M:Mem),u.lims->A0e (WC gl) 28 [.agg u.row,.agg u.row] M (λv M'=>v=B true/\M'=M)
 |.mk id kind lab hd ws ks,M,hlm=>by
  obtain⟨⟨b,a,e,-⟩,c⟩:=A3R _ hlm;have b:hd.length<=100000000:=b;have a:ws.length<=100000000:=a;have e:ks.length<=1000:=e;have c:=A3Y.1 c;have d:(A0a.mk id kind lab hd ws ks).row=[I id.act,I id.item,I id.n,I kind,S lab,.list 4 (A0g hd) .no,.list 4 (A0g ws) .no,.list 8 (A0p ks) .no]:=by rw[A0a.row]
  have he:=B4S id id;rw[Z0w rfl]at he;have hk:=D5M gl ks .no .no M (by omega) (λk hk M=>by have:=A0a.kid_lt (u:=.mk id kind lab hd ws ks) hk;exact C6A k M (c k hk));rw[d];refine A0n hB func28 ?_;simp -dsimp -implicitDefEqProofs[he];refine A0h func84 (C1l gl hd .no .no M b) ?_;simp -dsimp -implicitDefEqProofs;refine A0h func84 (C1l gl ws .no .no M a) ?_;simp -dsimp -implicitDefEqProofs;refine A0h func85 hk ?_;simp -dsimp -implicitDefEqProofs
termination_by u=>SizeOf.sizeOf u
def C5R(M:Mem):A0e (WC gl) 84 [A0G,A0G] M (λv M'=>v=B true/\M'=M):=by
 refine A0n hB func84 ?_;simp -dsimp -implicitDefEqProofs;refine A0B hB 0 13 (λT M1=>M1=M/\T 12=I 0/\T 13=I 0) ?_ ?_
 .exact⟨rfl,by simp,by simp⟩
 rintro T M1 ⟨rfl,a,b⟩;simp -dsimp -implicitDefEqProofs[a,b]
def B5b(M:Mem):A0e (WC gl) 326 [A0G,A0G] M (λv M'=>v=B true/\M'=M):=by
 refine A0n hB func326 ?_;simp -dsimp -implicitDefEqProofs;refine A0B hB 0 13 (λT M1=>M1=M/\T 12=I 0/\T 13=I 0) ?_ ?_
 .exact⟨rfl,by simp,by simp⟩
 rintro T M1 ⟨rfl,a,b⟩;simp -dsimp -implicitDefEqProofs[a,b]
def B6b(M:Mem):A0e (WC gl) 178 [A0G,A0G] M (λv M'=>v=B true/\M'=M):=by
 refine A0n hB func178 ?_;simp -dsimp -implicitDefEqProofs;refine A0B hB 0 13 (λT M1=>M1=M/\T 12=I 0/\T 13=I 0) ?_ ?_
 .exact⟨rfl,by simp,by simp⟩
 rintro T M1 ⟨rfl,a,b⟩;simp -dsimp -implicitDefEqProofs[a,b]
def D8y(M:Mem):A0e (WC gl) 85 [A0G,A0G,fnV 28] M (λv M'=>v=B true/\M'=M):=by
 refine A0n hB func85 ?_;simp -dsimp -implicitDefEqProofs;refine A0B hB 0 17 (λT M1=>M1=M/\T 16=I 0/\T 17=I 0) ?_ ?_
 .exact⟨rfl,by simp,by simp⟩
 rintro T M1 ⟨rfl,a,b⟩;simp -dsimp -implicitDefEqProofs[a,b]
def C1F(M:Mem):A0e (WC gl) 327 [A0G,A0G,fnV 243] M (λv M'=>v=B true/\M'=M):=by
 refine A0n hB func327 ?_;simp -dsimp -implicitDefEqProofs;refine A0B hB 0 17 (λT M1=>M1=M/\T 16=I 0/\T 17=I 0) ?_ ?_
 .exact⟨rfl,by simp,by simp⟩
 rintro T M1 ⟨rfl,a,b⟩;simp -dsimp -implicitDefEqProofs[a,b]
def D7s(M:Mem):A0e (WC gl) 28 [.agg [I 0,I 0,I 0,I 0,eS,A0G,A0G,A0G],.agg [I 0,I 0,I 0,I 0,eS,A0G,A0G,A0G]] M (λv M'=>v=B true/\M'=M):=by have he:=B4S idZ idZ;rw[Z0w rfl]at he;simp only[idZ]at he;refine A0n hB func28 ?_;simp -dsimp -implicitDefEqProofs[he];refine A0h func84 (C5R gl M) ?_;simp -dsimp -implicitDefEqProofs;refine A0h func84 (C5R gl M) ?_;simp -dsimp -implicitDefEqProofs;refine A0h func85 (D8y gl M) ?_;simp -dsimp -implicitDefEqProofs
def C2H(x:A1Q)(M:Mem)(hp:∀p,x=.rep p->p.length<=1000000)(hu:∀u,x=.ins u->u.lims):A0e (WC gl) 243 [.agg x.row,.agg x.row] M (λv M'=>v=B true/\M'=M):=by
 cases x with
 |rep p=>have h1:=C2d gl p p .no .no M (hp p rfl);rw[Z0w rfl]at h1;have h2:=D7s gl M;refine A0n hB func243 ?_;simp -dsimp -implicitDefEqProofs[A1Q.row];refine A0h func178 h1 ?_;simp -dsimp -implicitDefEqProofs;refine A0h func178 (B6b gl M) ?_;simp -dsimp -implicitDefEqProofs;refine A0h func326 (B5b gl M) ?_;simp -dsimp -implicitDefEqProofs;refine A0h func326 (B5b gl M) ?_;simp -dsimp -implicitDefEqProofs;refine A0h func28 h2 ?_;simp -dsimp -implicitDefEqProofs;refine A0h func327 (C1F gl M) ?_;simp -dsimp -implicitDefEqProofs
 |ins u=>have h2:=C6A gl u M (hu u rfl);rw[u.row_eq]at h2;refine A0n hB func243 ?_;simp -dsimp -implicitDefEqProofs[A1Q.row];refine A0h func178 (B6b gl M) ?_;simp -dsimp -implicitDefEqProofs;refine A0h func178 (B6b gl M) ?_;simp -dsimp -implicitDefEqProofs;refine A0h func326 (B5b gl M) ?_;simp -dsimp -implicitDefEqProofs;refine A0h func326 (B5b gl M) ?_;simp -dsimp -implicitDefEqProofs;refine A0h func28 h2 ?_;simp -dsimp -implicitDefEqProofs;refine A0h func327 (C1F gl M) ?_;simp -dsimp -implicitDefEqProofs
end
def C4a{P:Program}{t kt et:TypeId}{k v:AV}{es:List (AV×AV×Nat)}{c:Nat}{M:Mem}(h1:B0N P t=some (kt,et))(h2:(A7n P kt||B9J P kt)=true)(h3:A5X P 30 kt k=true)(h4:A2Q P kt k es=some none):A2g P t (M++[.map es c]) (.mapr M.length) k v=some (M++[.map (es++[(k,v,c)]) (c+1)]):=by
 have h:(M++[A0m.map es c])[M.length]?=some (.map es c):=by simp
 simp only[A2g,h1,h,h2,h3,Z3j,Z0T,h4]
 simp
def B7X{P:Program}{t kt et:TypeId}{k v:AV}{es:List (AV×AV×Nat)}{c b i:Nat}{M:Mem}(h0:M[b]?=some (.map es c))(h1:B0N P t=some (kt,et))(h2:(A7n P kt||B9J P kt)=true)(h3:A5X P 30 kt k=true)(h4:A2Q P kt k es=some (some (i,v))):A1Y P t M (.mapr b) k true=some (.tuple [v,.val (.bool true)]):=by simp only[A1Y,h1,A6W,h0,h2,h3,Z3j,Z0T,h4]
def B4a{k:Int}{v:AV}{es:List (AV×AV×Nat)}{c:Nat}{M:Mem}(h4:A2Q prog 3 (I k) es=some none):A2g prog 227 (M++[.map es c]) (.mapr M.length) (I k) v=some (M++[.map (es++[(I k,v,c)]) (c+1)]):=C4a (kt:=3) (et:=225) (by kernel_rfl) (by kernel_rfl) rfl h4
def A7E{k:Int}{v:AV}{es:List (AV×AV×Nat)}{c:Nat}{M:Mem}(h4:A2Q prog 3 (I k) es=some none):A2g prog 262 (M++[.map es c]) (.mapr M.length) (I k) v=some (M++[.map (es++[(I k,v,c)]) (c+1)]):=C4a (kt:=3) (et:=260) (by kernel_rfl) (by kernel_rfl) rfl h4
def doE:List (AV×AV×Nat):=[(I 0,fnV 232,0),(I 1,fnV 233,1),(I 2,fnV 234,2),(I 3,fnV 235,3),(I 4,fnV 236,4),(I 5,fnV 237,5),(I 6,fnV 238,6)]
def rlV(a b:FuncId):AV:=.agg [fnV a,fnV b]
def ruE:List (AV×AV×Nat):=[(I 0,rlV 300 301,0),(I 1,rlV 304 305,1),(I 2,rlV 306 307,2),(I 3,rlV 310 311,3),(I 4,rlV 312 313,4),(I 5,rlV 314 315,5),(I 6,rlV 316 317,6),(I 7,rlV 444 445,7),(I 8,rlV 444 445,8),(I 9,rlV 444 445,9),(I 10,rlV 318 319,10),(I 11,rlV 321 322,11)]
def A4L{a b:FuncId}:A0x prog 260 [(0,fnV a),(1,fnV b)]=some (rlV a b):=by simp[A0x,A1b,A1o,A0d,AV.cells,AV.storable,rlV]
section
variable (gl:Nat->AV)
def B7c(M:Mem):A0e (WC gl) 189 [] M (λv M'=>v=.mapr M.length/\M'=M++[.map doE 7]):=by refine A0n hB func189 ?_;simp -dsimp -implicitDefEqProofs;rw[B4a (by kernel_rfl)];simp -dsimp -implicitDefEqProofs;rw[B4a (by kernel_rfl)];simp -dsimp -implicitDefEqProofs;rw[B4a (by kernel_rfl)];simp -dsimp -implicitDefEqProofs;rw[B4a (by kernel_rfl)];simp -dsimp -implicitDefEqProofs;rw[B4a (by kernel_rfl)];simp -dsimp -implicitDefEqProofs;rw[B4a (by kernel_rfl)];simp -dsimp -implicitDefEqProofs;rw[B4a (by kernel_rfl)];simp -dsimp -implicitDefEqProofs;rfl
def C5t(a:gl 3=.cptr [fnV 444,fnV 445])(M:Mem):A0e (WC gl) 239 [] M (λv M'=>v=.mapr M.length/\M'=M++[.map ruE 12]):=by
 have c:(WC gl).gl 3=.cptr [fnV 444,fnV 445]:=a;have b:A1n prog 260 [fnV 444,fnV 445]=some (rlV 444 445):=by kernel_rfl
 refine A0n hB func239 ?_;simp -dsimp -implicitDefEqProofs[A4L,a,b];rw[A7E (by kernel_rfl)];simp -dsimp -implicitDefEqProofs[A4L,a,b];rw[A7E (by kernel_rfl)];simp -dsimp -implicitDefEqProofs[A4L,a,b];rw[A7E (by kernel_rfl)];simp -dsimp -implicitDefEqProofs[A4L,a,b];rw[A7E (by kernel_rfl)];simp -dsimp -implicitDefEqProofs[A4L,a,b];rw[A7E (by kernel_rfl)];simp -dsimp -implicitDefEqProofs[A4L,a,b];rw[A7E (by kernel_rfl)];simp -dsimp -implicitDefEqProofs[A4L,a,b];rw[A7E (by kernel_rfl)];simp -dsimp -implicitDefEqProofs[A4L,a,b];rw[A7E (by kernel_rfl)];simp -dsimp -implicitDefEqProofs[A4L,a,b];rw[A7E (by kernel_rfl)];simp -dsimp -implicitDefEqProofs[A4L,a,b];rw[A7E (by kernel_rfl)];simp -dsimp -implicitDefEqProofs[A4L,a,b];rw[A7E (by kernel_rfl)];simp -dsimp -implicitDefEqProofs[A4L,a,b];rw[A7E (by kernel_rfl)];simp -dsimp -implicitDefEqProofs[A4L,a,b];rfl
end
end Go.Abs
