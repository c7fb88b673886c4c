/- The texts CfB, CeS, CeT, CbX2, CbX3, CeU, CeV, CeW, CeX. -/
import Derived.Test.YtmpdkagfplajjaaGreatDoorEG35
set_option linter.all false
namespace Go.Abs
open Go.Proofs TryTypes
section
def C5R{α β:Type}[DecidableEq β](f:α->β):∀{L:List α} {y:α},(L.map f).Nodup->y∈L->L.find? (λv=>decide (f v=f y))=some y
 |x::L,y,hn,hy=>by
  simp only[Z0t,Z1J]at hn;rw[Z2R];rcases Z0u.1 hy with rfl|hy
  .simp
  .have:f x≠f y:=λe=>hn.1 (e▸Z0H.2 ⟨y,hy,rfl⟩);rw[Z0z this];exact C5R f hn.2 hy
def C9B{u y:A0a}(hn:(A0V u).Nodup)(hy:y∈A3X u):A0U y.id u=some y:=by rw[A9t];exact C5R A0a.id (by rw[A7c];exact hn) hy
def C8k{x:IdD}{u:A0a}(h:x∉A0V u):A2p x u=[]:=by
 have h1:=A7R x u;cases hr:A2p x u with
 |nil=>rfl
 |cons r rs=>
  rw[hr]at h1;cases hl:(r::rs).getLast? with
  |none=>simp at hl
  |some v=>rw[hl]at h1;obtain⟨e1,e2⟩:=A8h h1;exact absurd (by rw[<-A7c,<-e1];exact Z0H.2 ⟨v,e2,rfl⟩) h
def B3Y{k:A0a}{x:IdD}(hx:x∈A0V k):∀{ks:List A0a},k∈ks->x∈A3N ks
 |b::bs,hk=>by
  rw[A3N];rcases Z0u.1 hk with rfl|hk
  .exact Z2d _ hx
  .exact Z2F _ (B3Y hx hk)
def B5G{x:IdD}:∀{ks:List A0a} {k:A0a},(A3N ks).Nodup->k∈ks->x∈A0V k->A2p x k≠[]->A4I x ks=A2p x k
 |a::ks,k,hn,hk,hx,hne=>by
  rw[A3N]at hn;obtain⟨n1,n2,n3⟩:=Z1V.1 hn;rw[A4I];rcases Z0u.1 hk with rfl|hk
  .cases hr:A2p x k with
   |nil=>exact absurd hr hne
   |cons r rs=>rfl
  ·(have:x∉A0V a:=λh=>by refine n3 x h x ?_ rfl;exact B3Y hx hk);rw[C8k this];exact B5G n2 hk hx hne
def B8T(u:A0a):u.id∈A0V u:=by obtain⟨a,b,c,d,e,f⟩:=u;rw[A0V];simp[A0a.id]
def B8F{k:A0a}:∀{ks:List A0a},(A3N ks).Nodup->k∈ks->(A0V k).Nodup
 |b::bs,hn,hk=>by
  rw[A3N]at hn;obtain⟨n1,n2,n3⟩:=Z1V.1 hn;rcases Z0u.1 hk with rfl|hk
  .exact n1
  .exact B8F n2 hk
def C6y{q:A0a}:∀{ks:List A0a},q∈A6g ks->∃k∈ks,q∈A3X k
 |[],h=>by rw[A6g]at h;simp at h
 |b::bs,h=>by
  rw[A6g]at h;rcases Z0V.1 h with h|h
  .exact⟨b,by simp,h⟩
  .obtain⟨k,hk,hq⟩:=C6y h;exact⟨k,by simp[hk],hq⟩
def B1F(u:A0a):u∈A3X u:=by obtain⟨a,b,c,d,e,f⟩:=u;rw[A3X];simp
mutual
def B9q:∀(u v:A0a),v∈A3X u->∀k∈v.kids,k∈A3X u
 |.mk a b c d e ks,v,hv,k,hk=>by
  rw[A3X]at hv|-;rcases Z0u.1 hv with rfl|hv
  .exact Z1I _ (B1G (B1F k) hk)
  .exact Z1I _ (B5n ks v hv k hk)
def B5n:∀(ks:List A0a) (v:A0a),v∈A6g ks->∀k∈v.kids,k∈A6g ks
 |[],v,hv,_,_=>by rw[A6g]at hv;simp at hv
 |a::ks,v,hv,k,hk=>by
  rw[A6g]at hv|-;rcases Z0V.1 hv with hv|hv
  .exact Z2d _ (B9q a v hv k hk)
  .exact Z2F _ (B5n ks v hv k hk)
end
def B7r(y:A0a):A2p y.id y=[y]:=by obtain⟨a,b,c,d,e,f⟩:=y;rw[A2p];exact Z0d rfl
def C5G(y:A0a):∀(u q:A0a),(A0V u).Nodup->q∈A3X u->y∈q.kids->∃b,A2p y.id u=b++[q,y]
 |.mk id k l h w ks,q,hn,hq,hy=>by
  rw[A0V]at hn;rw[A3X]at hq;obtain⟨n1,n2⟩:=Z1J.1 hn;have f:y∈A6g ks:=by
   rcases Z0u.1 hq with rfl|hq
   .exact B1G (B1F y) hy
   .exact B5n ks q hq y hy
  have g:id≠y.id:=λe=>n1 (by rw[e,<-B8s];exact Z0H.2 ⟨y,f,rfl⟩);rw[A2p,Z0e g];rcases Z0u.1 hq with rfl|hq
  .have hy:y∈ks:=hy;rw[B5G n2 hy (B8T y) (by rw[B7r];simp),B7r];exact⟨[],rfl⟩
  .obtain⟨c,hc,d⟩:=C6y hq;have:=A0a.kid_lt (u:=.mk id k l h w ks) hc;obtain⟨b,hp⟩:=C5G y c q (B8F n2 hc) d hy;(have i:y.id∈A0V c:=by rw[<-A7c];exact Z0H.2 ⟨y,B9q c q d y hy,rfl⟩);rw[B5G n2 hc i (by rw[hp];simp),hp];cases b with
   |nil=>exact⟨[_],rfl⟩
   |cons a b=>exact⟨_::a::b,rfl⟩
termination_by u=>SizeOf.sizeOf u
def C7u{u q y:A0a}(hn:(A0V u).Nodup)(hq:q∈A3X u)(hy:y∈q.kids):D3A y.id u=some q:=by obtain⟨a,hp⟩:=C5G y u q hn hq hy;rw[D3A,hp,show a++[q,y]=(a++[q])++[y]by simp,List.dropLast_concat];simp
def C0H(a:Int):∀(ts:List A5z) (j:Nat),(∀t∈ts,A0o t.1=t.2.1.length)->(A4X a (ts.map (·.2.1)) j).map (·.2)=A3N (A1F a ts j)
 |[],j,_=>by rw[A1F,A3N];rfl
 |t::ts,j,h=>by rw[Z0t,A4X,A1F,A3N,Z0S,C0H a ts (j+1) λq hq=>h q (by simp[hq]),A9g,h t (by simp)];congr 1;unfold B4F;rw[Z1G];have e:=List.zipIdx_map_snd 0 t.2.1;rw[<-e,Z1G];rfl
section
variable {u:A0a} {l:List A0Q} {s:List A1P}
def A8L(u:A0a)(l:List A0Q)(s:List A1P)(number:Int)(x:IdD):IdD:=(A1C (A7n number u (A1G (λy=>A0U y u) l s)) x).getD idZ
def B0K(u:A0a)(l:List A0Q)(s:List A1P)(number:Int)(k:Nat):IdD:=A8L u l s number (A3J (λy=>A0U y u) l k).id
def D6Z(hS:A6m u l){k:Nat}(hk:k<l.length):(A3J (λy=>A0U y u) l k).id=l[k].id:=by
 obtain⟨x,hx,_⟩:=hS.fd k hk;have:A3J (λy=>A0U y u) l k=x:=by simp[A3J,hk,hx]
 rw[this];exact(A8h hx).1
def B6p(hS:A6m u l)(a:Int):((A7n a u (A1G (λy=>A0U y u) l s)).map (·.1)).Nodup:=by rw[B3p];exact(B2c (s:=s) hS).1
def B6u(hS:A6m u l):∀t∈A1G (λy=>A0U y u) l s,A0o t.1=t.2.1.length:=by intro t ht;obtain⟨n,hn,rfl⟩:=Z0H.1 ht;exact A8E hS.ord l.length n (A7z hn) (by omega)
def D0I(hS:A6m u l)(a:Int):(A7n a u (A1G (λy=>A0U y u) l s)).map (·.2)=A3N (A1F a (A1G (λy=>A0U y u) l s) u.kids.length):=C0H a _ _ (B6u hS)
def C5a(hS:A6m u l)(a:Int){x:IdD}(hx:x∈(A0V u).tail):(x,A8L u l s a x)∈A7n a u (A1G (λy=>A0U y u) l s):=by have h1:=((B2c (s:=s) hS).2 x).2 hx;rw[<-B3p (u:=u) a]at h1;obtain⟨y,hy,rfl⟩:=Z0H.1 h1;have:=B3W _ (B6p hS a) y hy;rw[A8L,this];exact hy
def C0G{α β:Type}(f:α->β):∀{L:List α} {a b:α},(L.map f).Nodup->a∈L->b∈L->f a=f b->a=b
 |x::L,a,b,hn,ha,hb,e=>by
  simp only[Z0t,Z1J]at hn;rcases Z0u.1 ha with h1|h1<;>rcases Z0u.1 hb with h2|h2
  .rw[h1,h2]
  .rw[h1]at e;exact absurd (Z0H.2 ⟨b,h2,e.symm⟩) hn.1
  .rw[h2]at e;exact absurd (Z0H.2 ⟨a,h1,e⟩) hn.1
  .exact C0G f hn.2 h1 h2 e
def D3T(hS:A6m u l)(a:Int){x y:IdD}(hx:x∈(A0V u).tail)(hy:y∈(A0V u).tail)(e:A8L u l s a x=A8L u l s a y):x=y:=by
 have h1:=C5a (s:=s) hS a hx;have h2:=C5a (s:=s) hS a hy;have hn:((A7n a u (A1G (λy=>A0U y u) l s)).map (·.2)).Nodup:=by rw[D0I hS];exact(B0R a _ _).1
 have:=C0G (λq:IdD×IdD=>q.2) hn h1 h2 e;simpa using congrArg Prod.fst this
def B9H(hS:A6m u l)(a:Int):A5a a u (A1G (λy=>A0U y u) l s)=(A0V u).tail.map λx=>(x,A8L u l s a x):=B9A hS a
def D6X(a:Int)(hn:1<=a)(h0:u.id=idZ):(A0V (A2N u a (A1G (λy=>A0U y u) l s))).Nodup:=by obtain⟨h1,h2⟩:=B0R a (A1G (λy=>A0U y u) l s) u.kids.length;rw[A2N,A0V,Z1J];refine⟨λh=>?_,h1⟩;have:=(h2 _ h).1;rw[h0]at this;simp[idZ]at this;omega
def D2Z(hS:A6m u l)(a:Int){k:Nat}(hk:k<l.length):∃x∈A3X (A2N u a (A1G (λy=>A0U y u) l s)),C7N (λy=>A0U y u) l s (B0K u l s a) k x/\
 ((A2w l k=-1/\x∈(A2N u a (A1G (λy=>A0U y u) l s)).kids)\/∃p:Nat,A2w l k=(p:Int)/\∃z∈A3X (A2N u a (A1G (λy=>A0U y u) l s)),z.id=B0K u l s a p/\x∈z.kids):=by
 have hW:=B9e (F:=λy=>A0U y u) (l:=l) (s:=s) (D:=B0K u l s a) a (A7n a u (A1G (λy=>A0U y u) l s)) hS.ord (λk y h=>by rw[B0K,A8L,h];rfl) (A2T l) u.kids.length (λk h=>A7z h) (λy hy=>B3W _ (B6p hS a) y hy)
 have hp:∀j,j<l.length->-1<=A2w l j/\A2w l j<j:=λj hj=>by have:=hS.ord j hj j hj (Z0n _);simpa[A2w,hj]using this
 have hf:=((B1y (par:=λk=>A2w l k) (N:=l.length) hp).2 k).2 hk
 obtain⟨r,hr,c⟩:=Z2z.1 hf
 obtain⟨y,hy,ht⟩:=B5a hW r hr
 obtain⟨x,hx,k1,k2⟩:=C6N l.length r y ht k c
 have b:∀v∈A3X y,v∈A3X (A2N u a (A1G (λy=>A0U y u) l s)):=λv hv=>by rw[A2N,A3X];exact Z1I _ (B1G hv hy)
 refine⟨x,b x hx,k1,?_⟩
 rcases k2 with⟨rfl,rfl⟩|⟨p,e,w,hw,e1,e2⟩
 .exact .inl ⟨(A5i.1 hr).2,hy⟩
 .exact .inr ⟨p,e,w,b w hw,e1,e2⟩
def B4Q(hS:A6m u l)(a:Int):A0o (A2N u a (A1G (λy=>A0U y u) l s))=l.length+1:=by
 have h1:∀ts:List A5z,(∀t∈ts,A0o t.1=t.2.1.length)->A0x (ts.map (·.1))=(ts.flatMap (·.2.1)).length:=by
  intro ts;induction ts with
  |nil=>intro _;rfl
  |cons t ts ih=>intro h;rw[Z0t,A0x,Z1a,Z0q,ih λq hq=>h q (by simp[hq]),h t (by simp)]
 have hp:∀j,j<l.length->-1<=A2w l j/\A2w l j<j:=λj hj=>by have:=hS.ord j hj j hj (Z0n _);simpa[A2w,hj]using this
 obtain⟨h2,h3⟩:=B1y (par:=λk=>A2w l k) (N:=l.length) hp;have hl:(A9Y (λk=>A2w l k) l.length).length=l.length:=by have e1:=Z3B h2 (l₂:=List.range l.length) λx hx=>Z1i.2 ((h3 x).1 hx);have e2:=Z3B List.nodup_range (l₂:=A9Y (λk=>A2w l k) l.length) λx hx=>(h3 x).2 (Z1i.1 hx);simp at e1 e2;omega
 rw[A2N,A0o,A5u,h1 _ (B6u hS),C1e,Z0R,hl];omega
end
end
set_option maxRecDepth 100000
open Go.Proofs TryTypes Tryz
def D0u{u k:A0a}{ks:List A0a}(hk:u.kids=k::ks)(hn:(A0V u).Nodup):D1q k.id u=.tuple [.agg u.id.row,I 0,B true]:=by
 have h1:=C7u (u:=u) (q:=u) (y:=k) hn (B1F u) (by rw[hk];simp);have h2:A0U k.id k=some k:=by obtain⟨a,b,c,d,e,f⟩:=k;rw[A0U];exact Z0d rfl
 rw[D1q,h1];simp only[hk,A3t,h2,Z2D,Z0F];rfl
def enR(number:Int)(i:Nat)(day:Int)(it:A1y):List AV:=[I number,I i,I day]++it.row
@[simp] def D6c(a:Int)(i:Nat)(b:Int)(it:A1y):(enR a i b it).length=28:=by simp[enR]
section
variable (gl:Nat->AV)
def C0d(u k:A0a)(ks:List A0a)(M:Mem)(hk:u.kids=k::ks)(hf:Fit u)(hn:(A0V u).Nodup):A0e (WC gl) 291 [.agg u.row,.agg k.id.row] M (λv M'=>v=.agg (A7I u ks).row/\M'=M):=by
 refine A0e.dataX ?_;have hx:k.id.row=[I k.id.act,I k.id.item,I k.id.n]:=rfl;have j:u.id.row=[I u.id.act,I u.id.item,I u.id.n]:=rfl;have q:=A2q u.kids;have s:A0x u.kids<A0o u:=by obtain⟨a,b,c,d,e,f⟩:=u;rw[A0o];show A0x f<_;omega
 have r:=hf.2.2;have l:ks.length<=1000:=by have:=congrArg List.length hk;rw[Z0v]at this;omega
 obtain⟨b,hb⟩:∃b,b=M.length:=⟨_,rfl⟩;obtain⟨M1,i⟩:∃M1,M1=M++[z8]:=⟨_,rfl⟩;have h1:M1[b]?=some z8:=by rw[i,hb];simp
 have p:Grow M M1:=by rw[i];exact A0c.app none _ _
 have g:=C1J gl u k.id M1 hf;rw[D0u hk hn,hx,j]at g;obtain⟨M2,h⟩:∃M2,M2=M1++[A0j.cells 23 [I u.id.act,I u.id.item,I u.id.n],A0j.cells 3 [I 0]]:=⟨_,rfl⟩;have hq:M2[M1.length+1]?=some (A0j.cells 3 [I 0]):=by rw[h];simp[Z1h]
 have hp:M2[M1.length]?=some (A0j.cells 23 [I u.id.act,I u.id.item,I u.id.n]):=by rw[h];simp
 have m:Grow M1 M2:=by rw[h];exact A0c.app none _ _
 have hw:=B8v gl u 359 [.ptr (M1.length+1) 0] ks M2 hf (E2I gl u k ks hk l _ M2 hq);rw[j]at hw;have h2:=m.get h1 (by simp);have o:b<M2.length:=(Z0b.1 h2).1;rw[u.row_eq]at g hw;rw[u.row_eq,hx];refine A0m hB func291 ?_;simp -dsimp -implicitDefEqProofs[A0k];rw[<-i,<-hb];refine A0g func34 g ?_;simp -dsimp -implicitDefEqProofs[A0k,A0l,A0d,A0L,A0K];rw[<-h];simp -dsimp -implicitDefEqProofs[A0b hp];refine A0g func288 hw ?_;simp -dsimp -implicitDefEqProofs[A0f h2,A0L,A0K,A0v o,A0h];exact⟨A1g (p.trans m) (by omega),.same (by simp only[bdd];exact A2D _ _) .nil⟩
def C3r(u k:A0a)(ks:List A0a)(d:List AV)(M:Mem)(hk:u.kids=k::ks)(hf:Fit u)(hn:(A0V u).Nodup):A0e (WC gl) 233 [.agg u.row,.agg k.row,.agg d] M (λv M'=>v=.tuple [.agg (A7I u ks).row,I 0]/\M'=M):=by
 refine A0e.dataX ?_;have hx:k.id.row=[I k.id.act,I k.id.item,I k.id.n]:=rfl;obtain⟨b,hb⟩:∃b,b=M.length:=⟨_,rfl⟩;obtain⟨M1,a⟩:∃M1,M1=M++[z8]:=⟨_,rfl⟩;have h1:M1[b]?=some z8:=by rw[a,hb];simp
 have e:Grow M M1:=by rw[a];exact A0c.app none _ _
 have c:b<M1.length:=(Z0b.1 h1).1;have hw:=C0d gl u k ks M1 hk hf hn;rw[hx]at hw;rw[u.row_eq]at hw|-;rw[k.row_eq];refine A0m hB func233 ?_;simp -dsimp -implicitDefEqProofs[A0k];rw[<-a,<-hb];refine A0g func291 hw ?_;simp -dsimp -implicitDefEqProofs[A0f h1,A0L,A0K,A0v c,A0h];exact⟨A1g e (by omega),.tuple (.same (by simp only[bdd];exact A2D _ _) (.same trivial .nil)) .nil⟩
end
abbrev fnV(g:FuncId):AV:=.func (.func g) [] []
def C3k:List AV:=[fnV 399,fnV 402,fnV 404,fnV 406]
def B4G(x:IdD)(n:Nat):List AV:=[I x.act,I x.item,I x.n,I n]
abbrev z4:A0j:=.cells 335 [I 0,I 0,I 0,I 0]
def C5h:A0D prog 366 [(0,fnV 399),(1,fnV 402),(2,fnV 404),(3,fnV 406)]=none:=by kernel_rfl
def D8T:B3Z prog 366 [(0,fnV 399),(1,fnV 402),(2,fnV 404),(3,fnV 406)]=some (.agg C3k):=by kernel_rfl
section
variable (gl:Nat->AV)
def C0N(M:Mem):A0e (WC gl) 240 [A0E] M (λv M'=>v=B true/\M'=M):=by
 refine A0m hB func240 ?_;simp -dsimp -implicitDefEqProofs;refine A0F hB 0 7 (λT M1=>T 0=A0E/\T 5=A0E/\T 6=I 0/\T 7=I 0/\M1=M) ?_ ?_
 .exact⟨by simp,by simp,by simp,by simp,rfl⟩
 rintro T M1 ⟨t0,t5,t6,t7,rfl⟩;simp -dsimp -implicitDefEqProofs[t0,t5,t6,t7]
def C9M(u:A0a)(M:Mem):A0e (WC gl) 328 [.agg u.row,A0E] M (λv M'=>v=.list 8 (A0u [u]) .no/\M'=M):=by
 refine A0e.dataX ?_;have hv:=λM=>C0N gl M;have a:A0u [u]=[u.row]:=by rw[A0u,A0u]
 have hb:=C0X M.length [u];rw[a]at hb|-;rw[u.row_eq]at hb|-;refine A0m (hQ [58]) func328 ?_;simp -dsimp -implicitDefEqProofs;refine A0g func240 (hv M) ?_;simp -dsimp -implicitDefEqProofs[A0k,A0q,A1f,AV.storable,AV.cells];exact⟨A0c.app none _ _,.dis hb .nil⟩
def C4t(M:Mem):A0e (WC gl) 384 [] M (λv M'=>v=.agg C3k/\M'=M):=by
 refine A0e.dataX ?_;obtain⟨M1,a⟩:∃M1,M1=M++[A0j.cells 366 [.val .nilFunc,.val .nilFunc,.val .nilFunc,.val .nilFunc]]:=⟨_,rfl⟩;have h1:M1[M.length]?=some (A0j.cells 366 [.val .nilFunc,.val .nilFunc,.val .nilFunc,.val .nilFunc]):=by rw[a];simp
 have c:M.length<M1.length:=(Z0b.1 h1).1;have b:Grow M M1:=by rw[a];exact A0c.app none _ _
 refine A0m hB func384 ?_;simp -dsimp -implicitDefEqProofs[A0k,C5h];rw[<-a];simp -dsimp -implicitDefEqProofs[A0w,A0n,A0T,A0P,A0B,C5h,D8T,A0f h1,A0L,A0K,C3k,A0v c,A0h];exact⟨A1g b (Z0n _),.same (by simp[bdd,A1K]) .nil⟩
def C7e(u:A0a)(M:Mem)(hf:Fit u):A0e (WC gl) 400 [.agg u.row,.agg u.id.row,fnV 403] M (λv M'=>v=.tuple [.agg (B4G u.id u.kids.length),I 0]/\M'=M):=by
 refine A0e.dataX ?_;have hx:u.id.row=[I u.id.act,I u.id.item,I u.id.n]:=rfl;have p:A0U u.id u=some u:=by obtain⟨a,b,c,d,e,f⟩:=u;rw[A0U];exact Z0d rfl
 obtain⟨b,hb⟩:∃b,b=M.length:=⟨_,rfl⟩;obtain⟨M1,h⟩:∃M1,M1=M++[z4]:=⟨_,rfl⟩;have h1:M1[b]?=some z4:=by rw[h,hb];simp
 have o:Grow M M1:=by rw[h];exact A0c.app none _ _
 have i:=B2j gl u u.id M1 hf;rw[p,hx]at i;obtain⟨M2,g⟩:∃M2,M2=M1++[A0j.cells 27 u.row]:=⟨_,rfl⟩;have hp:M2[M1.length]?=some (A0j.cells 27 [I u.id.act,I u.id.item,I u.id.n,I u.kind,S u.label,.list 4 (A0i u.head) .no,.list 4 (A0i u.words) .no,.list 8 (A0u u.kids) .no]):=by rw[g,u.row_eq];simp
 have j:Grow M1 M2:=by rw[g];exact A0c.app none _ _
 have h2:=j.get h1 (by simp);have l:b<M2.length:=(Z0b.1 h2).1;have m:A0D prog 335 [(0,.agg [I u.id.act,I u.id.item,I u.id.n]),(1,I u.kids.length)]=some (.agg (B4G u.id u.kids.length)):=by simp[A0D,A1k,A1E,A0d,AV.cells,AV.storable,B4G]
 rw[hx];rw[u.row_eq]at i g|-;refine A0m hB func400 ?_;simp -dsimp -implicitDefEqProofs[A0k];rw[<-h,<-hb];refine A0g func32 i ?_;simp -dsimp -implicitDefEqProofs[A0k,A1Z,u.row_eq,A0l,A0d,A0L,A0K];rw[<-g];refine A1v hB (A0I gl) (λk=>if k=3 then 1 else if k=7 then 2 else 0) (λ_=>M1.length) (by rfl) (by kernel_rfl) ?_;simp -dsimp -implicitDefEqProofs[A0b hp,A0R,A7f];refine A2F func403 (λM=>D2C gl M u.kids.length) ?_;simp -dsimp -implicitDefEqProofs[m,A0f h2,B4G,A0L,A0K,A0v l,A0h];exact⟨A1g (o.trans j) (by omega),.same (by simp[bdd,A1K]) .nil⟩
def C6Q(u:A0a)(M:Mem)(hf:Fit u):A0e (WC gl) 402 [.agg u.row,.agg u.id.row] M (λv M'=>v=.tuple [.agg (B4G u.id u.kids.length),I 0]/\M'=M):=by
 refine A0e.dataX ?_;have hx:u.id.row=[I u.id.act,I u.id.item,I u.id.n]:=rfl;obtain⟨b,hb⟩:∃b,b=M.length:=⟨_,rfl⟩;obtain⟨M1,c⟩:∃M1,M1=M++[z4]:=⟨_,rfl⟩;have h1:M1[b]?=some z4:=by rw[c,hb];simp
 have e:Grow M M1:=by rw[c];exact A0c.app none _ _
 have d:b<M1.length:=(Z0b.1 h1).1;have a:=C7e gl u M1 hf;rw[hx]at a|-;rw[u.row_eq]at a|-;refine A0m hB func402 ?_;simp -dsimp -implicitDefEqProofs[A0k];rw[<-c,<-hb];refine A0g func400 a ?_;simp -dsimp -implicitDefEqProofs[A0f h1,B4G,A0L,A0K,A0v d,A0h];exact⟨A1g e (by omega),.same (by simp[bdd,A1K]) .nil⟩
def C4J(u:A0a)(M:Mem)(hf:Fit u):A0e (WC gl) 350 [.agg u.row,A0E,I 1] M (λv M'=>v=.tuple [.agg u.id.row,I u.kids.length,I 0]/\M'=M):=by
 refine A0e.dataX ?_;have hx:u.id.row=[I u.id.act,I u.id.item,I u.id.n]:=rfl;obtain⟨b,hb⟩:∃b,b=M.length:=⟨_,rfl⟩;obtain⟨M1,e⟩:∃M1,M1=M++[A0j.cells 23 [I 0,I 0,I 0]]:=⟨_,rfl⟩;have h1:M1[b]?=some (A0j.cells 23 [I 0,I 0,I 0]):=by rw[e,hb];simp
 have p:Grow M M1:=by rw[e];exact A0c.app none _ _
 have f:=B2T gl u u A0E M1 (λM=>C9M gl u M);obtain⟨M2,c⟩:∃M2,M2=M1++[A0j.cells 23 [I u.id.act,I u.id.item,I u.id.n]]:=⟨_,rfl⟩;have hp:M2[M1.length]?=some (A0j.cells 23 [I u.id.act,I u.id.item,I u.id.n]):=by rw[c];simp
 have g:Grow M1 M2:=by rw[c];exact A0c.app none _ _
 have a:=λM=>C6Q gl u M hf;obtain⟨M3,d⟩:∃M3,M3=M2++[A0j.cells 335 (B4G u.id u.kids.length)]:=⟨_,rfl⟩;have hq:M3[M2.length]?=some (A0j.cells 335 [I u.id.act,I u.id.item,I u.id.n,I u.kids.length]):=by rw[d];simp[B4G]
 have i:Grow M2 M3:=by rw[d];exact A0c.app none _ _
 have h3:=i.get (g.get h1 (by simp)) (by simp);have m:b<M3.length:=(Z0b.1 h3).1;have j:C7l prog (some (.array 4 365)) (.agg C3k) (I 1)=some (fnV 402):=by kernel_rfl
 rw[hx]at f a|-;rw[u.row_eq]at f a|-;refine A0m hB func350 ?_;simp -dsimp -implicitDefEqProofs[A0k];rw[<-e,<-hb];refine A0g func351 (C0j gl M1 1) ?_;simp -dsimp -implicitDefEqProofs;refine A0g func191 f ?_;simp -dsimp -implicitDefEqProofs[A0k,A0l,A0d,A0L,A0K];rw[<-c];have h:M1.length<M2.length:=(Z0b.1 hp).1;have l:∀X,(M2++[A0j.cells 335 X])[M1.length]?=M2[M1.length]?:=λX=>by rw[Z0h h]
 refine A6r hB (A0I gl) (λk=>if k=4 then 1 else if k=9\/k=10 then 2 else 0) (λ_=>M1.length) (λ_=>false) [M1.length] (by intros;simp) (by rfl) (by kernel_rfl) ?_;simp -dsimp -implicitDefEqProofs;refine A2F func384 (λM=>C4t gl M) ?_;simp -dsimp -implicitDefEqProofs[j,A0b hp,A0R,A7f];refine A2F func402 a ?_;simp -dsimp -implicitDefEqProofs[A0k,A0l,A0d,A0L,A0K,B4G,l];rw[show M2++[A0j.cells 335 [I u.id.act,I u.id.item,I u.id.n,I u.kids.length]]=M3 by rw[d];rfl];have q:b<M2.length:=(Z0b.1 (g.get h1 (by simp))).1;have o:∀X,(M3.set b X)[M2.length]?=M3[M2.length]?:=λX=>Z0f (by omega);refine A6r hB (A0I gl) (λk=>if k=1\/k=3 then 1 else if k=4 then 2 else 0) (λ_=>M2.length) (λ_=>false) [M2.length] (by intros;simp) (by rfl) (by kernel_rfl) ?_;simp -dsimp -implicitDefEqProofs[A0b hq,A0R,A7f,o,A0f h3,A0L,A0K,A0v m,A0h];exact⟨A1g ((p.trans g).trans i) (by omega),.same (by simp[bdd,A1K]) .nil⟩
def C7a(u x:A0a)(M:Mem)(hf:Fit u):A0e (WC gl) 282 [.agg u.row,.agg (A1y.ins x).row] M (λv M'=>v=.tuple [.agg u.id.row,I u.kids.length,I 0]/\M'=M):=by
 refine A0e.dataX ?_;have hx:u.id.row=[I u.id.act,I u.id.item,I u.id.n]:=rfl;obtain⟨b,hb⟩:∃b,b=M.length:=⟨_,rfl⟩;obtain⟨M1,a⟩:∃M1,M1=M++[A0j.cells 23 [I 0,I 0,I 0]]:=⟨_,rfl⟩;have h1:M1[b]?=some (A0j.cells 23 [I 0,I 0,I 0]):=by rw[a,hb];simp
 have e:Grow M M1:=by rw[a];exact A0c.app none _ _
 have d:b<M1.length:=(Z0b.1 h1).1;have c:=C4J gl u M1 hf;rw[hx]at c|-;rw[u.row_eq]at c|-;refine A0m hB func282 ?_;simp -dsimp -implicitDefEqProofs[A0k,A1y.row];rw[<-a,<-hb];refine A0g func350 c ?_;simp -dsimp -implicitDefEqProofs[A0f h1,A0L,A0K,A0v d,A0h];exact⟨A1g e (by omega),.same (by simp[bdd,A1K]) .nil⟩
end
section
variable (gl:Nat->AV)
def D4C(x:IdD)(n:Int)(M:Mem):A0e (WC gl) 69 [.agg x.row,.cptr [I n]] M (λv M'=>v=B (decide (x.act=n))/\M'=M):=by refine A0m hB func69 ?_;simp -dsimp -implicitDefEqProofs[IdD.row];rfl
def D5G(s:List IdD)(o:Own)(n:Int)(M:Mem)(hl:s.length<=1000):A0e (WC gl) 123 [.list 3 (A4m s) o,.func (.func 69) [] [.cptr [I n]]] M (λv M'=>v=I (A3t (λx:IdD=>decide (x.act=n)) s 0)/\M'=M):=by
 refine A0m hB func123 ?_;simp -dsimp -implicitDefEqProofs;refine A0F hB s.length 8 (λT M1=>∃i:Nat,M1=M/\i<=s.length/\T 0=.list 3 (A4m s) o/\T 1=.func (.func 69) [] [.cptr [I n]]/\T 7=I s.length/\T 8=I i/\A3t (λx:IdD=>decide (x.act=n)) s 0=A3t (λx:IdD=>decide (x.act=n)) (s.drop i) i) ?_ ?_
 .exact⟨0,rfl,by omega,by simp,by simp,by simp,by simp,by simp⟩
 rintro T M1 ⟨i,rfl,h1,t0,t1,t7,t8,h2⟩;by_cases hi:i<s.length
 .have a:(i:Int)<s.length:=by omega
  have w1:=A2s (i:=i) (by omega);have h3:=C1T hi h2;have hm:=D4C gl s[i] n M1;simp only[IdD.row]at hm;simp -dsimp -implicitDefEqProofs[t0,t1,t7,t8,hi,a,IdD.row];refine A0g func69 hm ?_;by_cases c:s[i].act=n
  .rw[Z0d (by simpa using c)]at h3;simp -dsimp -implicitDefEqProofs[t0,t1,t7,t8,Z0w c,c,h3]
  .rw[Z0e (by simpa using c)]at h3;simp -dsimp -implicitDefEqProofs[t0,t1,t7,t8,Z0z c,c,w1];exact⟨⟨i+1,by clear w1;omega,rfl,h3⟩,by clear w1;omega⟩
 .have a:¬(i:Int)<s.length:=by omega
  rw[Z0x (by omega)]at h2;simp -dsimp -implicitDefEqProofs[t0,t1,t7,t8,a,h2,A3t]
def C0R(s:List IdD)(o:Own)(n:Int)(M:Mem)(hl:s.length<=1000):A0e (WC gl) 68 [.list 3 (A4m s) o,.func (.func 69) [] [.cptr [I n]]] M (λv M'=>v=B (s.any λx=>decide (x.act=n))/\M'=M):=by refine A0m hB func68 ?_;have he:=A7Z (λx:IdD=>decide (x.act=n)) s 0;simp -dsimp -implicitDefEqProofs;refine A0g func123 (D5G gl s o n M hl) ?_;generalize A3t (λx:IdD=>decide (x.act=n)) s 0=k at*;simp -dsimp -implicitDefEqProofs[<-he]
end
abbrev D1b:A0j:=.cells 49 [I 0,eS,I 0,I 0,I 0,eS,A0E]
abbrev C3m(number day:Int)(iv:AV):A0j:=.cells 49 [I number,S B1D,I day,I 1,I day,eS,iv]
def A5Y:A0D prog 49 []=some A9U:=by simp[A0D,A1k,A9U]
def C7J{d}:A0D prog 46 [(0,I 1),(1,I d)]=some (.agg [I 1,I d,eS]):=by simp[A0D,A1k,A1E,A0d,AV.cells,AV.storable]
def C7O{n d}:A0D prog 49 [(0,I n),(1,S ⟨#[99,111,100,105,102,105,99,97,116,105,111,110]⟩),(2,I d),(3,.agg [I 1,I d,eS])]=some (.agg [I n,S B1D,I d,I 1,I d,eS,A0E]):=by simp[A0D,A1k,A1E,A0d,AV.cells,AV.storable,B1D]
def C7H{p}:A0D prog 128 [(0,I 1),(1,A8K p)]=some (.agg (A1y.rep p).row):=by simp[A0D,A1k,A1E,A0d,AV.cells,AV.storable,A1y.row]
def C7D{x}:A0D prog 128 [(0,I 0),(3,I 1),(5,.agg x.row)]=some (.agg (A1y.ins x).row):=by rw[x.row_eq];simp[A0D,A1k,A1E,A0d,AV.cells,AV.storable,A1y.row]
def C4a{a b c}:A0D prog 23 [(0,I a),(1,I b),(2,I c)]=some (.agg [I a,I b,I c]):=by simp[A0D,A1k,A1E,A0d,AV.cells,AV.storable]
def D6s:A7q prog 23=some (.agg [I 0,I 0,I 0]):=by kernel_rfl
def D4G(n:Nat)(x:A1y):A1K n x.row:=by
 cases x with
 |rep p=>have:=B7m n p;simp[A1y.row,A1K,bdd]at this|-;exact this
 |ins u=>have:=A2D n u;rw[u.row_eq]at this;simp[A1y.row,A1K,bdd]at this|-;exact this
def C9a{x y}:A0D prog 79 [(0,.agg [I x.act,I x.item,I x.n]),(1,.agg [I y.act,I y.item,I y.n])]=some (.agg (A4E (x,y))):=by simp[A0D,A1k,A1E,A0d,AV.cells,AV.storable,A4E]
def A4R(number:Int)(s:List A1P)(u:A0a)(io:Own)(r p q:Nat)(T:Env):Prop:=T 2=.list 5 (A3C s) .no/\T 5=.cptr [I u.id.act,I u.id.item,I u.id.n,I u.kind,S u.label,.list 4 (A0i u.head) .no,.list 4 (A0i u.words) .no,.list 8 (A0u u.kids) .no]/\T 8=.cptr [I number]/\T 10=.ptr r 0/\T 13=.ptr p 0/\T 15=.list 3 (A4m (A0V u).tail) io/\T 16=.ptr q 0
def A5P(number day:Int)(q:Nat)(Mc M:Mem)(items:List A1y):Prop:=A0W q Mc M/\∃iv,M[q]?=some (C3m number day iv)/\Fm 25 A1y.row (q+1) M iv items
def A5P.app{number day}{q}{Mc M}{items}(h:A5P number day q Mc M items)(hq:q<Mc.length)(X:Mem):A5P number day q Mc (M++X) items:=by obtain⟨h1,iv,h2,h3⟩:=h;have hk:Grow M (M++X):=A0c.app none M X;exact⟨h1.trans (hk.low (n:=q) (by have:=h1.1;omega) (by simp)),iv,hk.get h2 (by simp),h3.keep hk⟩
def A5P.push{number day}{q}{Mc M M'}{iv v'}{items items'}(hk:A0W q Mc M)(ho:M[q]?=some (C3m number day iv))(hf:Fm 25 A1y.row (q+1) M iv items)
 (k1:A9C 25 A1y.row M' v' items')(k2:A0c (A7h iv) M M')(k3:A7h v'=A7h iv\/∀f,A7h v'=some f->M.length<=f):
 A0l (some 1) M' (.ptr q 6) v'=some (M'.set q (C3m number day v'))/\A5P number day q Mc (M'.set q (C3m number day v')) items':=by
 have hl:q+1<=M.length:=(Z0b.1 ho).1
 have a:=hf.cells k2 ho
 have b:=hf.push hl k1 k3
 have c:q<M'.length:=(Z0b.1 a).1
 refine⟨by rw[A0f a,k1.cells,Z0d ⟨k1.store,by simp,rfl⟩];rfl,(hk.trans ((hf.low hl k2).le (by omega))).setq (Z0n _),v',by simp[c],b.setq (by omega)⟩
def C3l{K V:Type}{d:K->AV}{a:V->AV}{α:Type}{sz n}{enc:α->List AV}{M M'}{v}{items}{b}{L}(h:A1W d a M b L)(hf:Fm sz enc n M v items)(hk:A0c (A7h v) M M'):A1W d a M' b L:=by
 refine h.keep hk λe=>?_;obtain⟨es,c,h1,_⟩:=h;rcases hf.fam with⟨rfl,_⟩|rfl|⟨f,rfl,hm⟩
 .simp at e
 .simp at e
 .simp only[C5F,Z0a]at e;subst e;rw[hm]at h1;simp at h1
section
variable (gl:Nat->AV)
def B3i(u:A0a)(M:Mem)(hg:u.good)(hc:A0o u<=1000):A0e (WC gl) 67 [.agg u.row] M (λv M'=>v=.list 3 (A4m (A0V u)) .no/\M'=M):=A0e.still (enc:=IdD.row) (λ_=>rfl) C7M (D3R gl u M hg hc)
set_option maxHeartbeats 1000000 in
def D8Y(d4:gl 0=A2u)(d9:gl 1=A2J)(u:A0a)(l:List A0Q)(s:List A1P)(g a7:Int)(M:Mem)(ag:Fit u)(hl:l.length<=1000)(cq:∀s∈l,s.good)(hs:s.length<=1000)(ht:∀m∈s,m.to.length<=40):A0e (WC gl) 20 [.agg u.row,.list 5 (A2h l) .no,.list 5 (A3C s) .no,I g,I a7] M (λv M'=>v=D6U u l s g a7/\M'=M):=by
 refine A0e.dataX ?_
 obtain⟨F,hF⟩:∃F,F=λx=>A0U x u:=⟨_,rfl⟩
 obtain⟨A,hA⟩:∃A,A=D6U u l s g a7:=⟨_,rfl⟩
 rw[<-hA]
 obtain⟨r,hr⟩:∃r,r=M.length:=⟨_,rfl⟩
 have e5:∀e,bdd r (A5v e):=λe=>by simp[A5v,A9U,bdd,A1K]
 obtain⟨Ma,bx⟩:∃Ma,Ma=M++[D1b]:=⟨_,rfl⟩
 have cm:Grow M Ma:=by rw[bx];exact A0c.app none _ _
 have bz:Ma[r]?=some D1b:=by rw[bx,hr];simp
 have ap:=D2o gl d4 d9 F u hF l Ma ag hl cq
 obtain⟨R,hR⟩:∃R,R=A7F F u l:=⟨_,rfl⟩
 rw[<-hR]at ap
 have bp:=u.row_eq
 rw[bp]at ap|-
 have ac:A=if R≠0 then A5v R else if C2j g a7=true then A5v 1
  else if((A0V u).tail.any λx=>decide (x.act=g))=true then A5v 5
  else if C4U u (A1G F l s)≠0 then A5v (C4U u (A1G F l s))
  else .tuple [C8I g a7 (A2x u++A3k (A1G F l s)),.list 6 ((A5a g u (A1G F l s)).map A4E) .no,I 0]:=by rw[hA,hR,hF];rfl
 have ad:∀(M5:Mem) e,Grow Ma M5->A=A5v e->r<M5.length/\(Grow M (M5.set r D1b)/\Still (M5.set r D1b) r (bdd r) [A5v e] [A]):=λM5 e h he=>by have h1:=h.get bz (by simp);refine⟨(Z0b.1 h1).1,⟨by simpa using(cm.trans h).1,λj hj _=>by rw[Z0f (by omega)];exact(cm.trans h).2 j hj (by simp)⟩,?_⟩;rw[he];exact .same (e5 e) .nil
 have ah:∀M5:Mem,Grow Ma M5->A0l (some 7) M5 (.ptr r 0) A9U=some (M5.set r D1b):=λM5 h=>by rw[A0f (h.get bz (by simp))];simp[A9U,AV.storable,AV.cells,A0d]
 refine A0m hB func20 ?_
 simp -dsimp -implicitDefEqProofs[A0k]
 rw[<-bx,<-hr]
 clear bx
 refine A0r func47 ap ?_
 rintro _ M1 ⟨⟨pr,rfl,di,ec⟩,cc⟩
 obtain⟨M2,au⟩:∃M2,M2=M1++[A0j.cells 96 pr]:=⟨_,rfl⟩
 have ab:Grow Ma M2:=by rw[au];exact cc.trans (A0c.app none _ _)
 obtain⟨p,hp⟩:∃p,p=M1.length:=⟨_,rfl⟩
 have dk:M2[p]?=some (.cells 96 pr):=by rw[au,hp];simp
 obtain⟨y0,y1,y2,y3,rfl⟩:∃a b c d,pr=[a,b,c,d]:=by
  match pr,di with
  |[a,b,c,d],_=>exact⟨a,b,c,d,rfl⟩
 by_cases hR0:R=0
 case neg=>rw[Z0d hR0]at ac;simp -dsimp -implicitDefEqProofs[A0k,A0l,A0d,AV.storable,AV.cells];rw[<-au];obtain⟨q1,q2⟩:=ad M2 R ab ac;simp -dsimp -implicitDefEqProofs[hR0,A5Y,ah M2 ab,A0v,q1];exact q2
 rw[Z0e (by simpa using hR0)]at ac
 subst hR0
 by_cases a1:g<1
 .have af:A=A5v 1:=by rw[ac,Z0d (by simp[C2j,a1])]
  have bc:¬1<=g:=by omega
  obtain⟨q1,q2⟩:=ad M2 1 ab af;simp -dsimp -implicitDefEqProofs[A0k,A0l,A0d,AV.storable,AV.cells];rw[<-au];simp -dsimp -implicitDefEqProofs[a1,bc,A5Y,ah M2 ab,A0v,q1];exact q2
 have bc:1<=g:=by omega
 by_cases a2:1048576<g
 .have af:A=A5v 1:=by rw[ac,Z0d (by simp[C2j,a2])]
  have bd:g>1048576:=a2;obtain⟨q1,q2⟩:=ad M2 1 ab af;simp -dsimp -implicitDefEqProofs[A0k,A0l,A0d,AV.storable,AV.cells];rw[<-au];simp -dsimp -implicitDefEqProofs[a1,bc,a2,bd,A5Y,ah M2 ab,A0v,q1];exact q2
 have bd:¬g>1048576:=a2
 by_cases a3:a7<0
 .have af:A=A5v 1:=by rw[ac,Z0d (by simp[C2j,a3])]
  have c5:¬0<=a7:=by omega
  obtain⟨q1,q2⟩:=ad M2 1 ab af;simp -dsimp -implicitDefEqProofs[A0k,A0l,A0d,AV.storable,AV.cells];rw[<-au];simp -dsimp -implicitDefEqProofs[a1,bc,a2,bd,a3,c5,A5Y,ah M2 ab,A0v,q1];exact q2
 have c5:0<=a7:=by omega
 by_cases a4:1048576<a7
 .have af:A=A5v 1:=by rw[ac,Z0d (by simp[C2j,a4])]
  have cw:a7>1048576:=a4;obtain⟨q1,q2⟩:=ad M2 1 ab af;simp -dsimp -implicitDefEqProofs[A0k,A0l,A0d,AV.storable,AV.cells];rw[<-au];simp -dsimp -implicitDefEqProofs[a1,bc,a2,bd,a3,c5,a4,cw,A5Y,ah M2 ab,A0v,q1];exact q2
 have cw:¬a7>1048576:=a4
 have c8:=B3i gl u M2 ag.1 ag.2.2
 have bl:(A0V u).tail.length<=1000:=by have:=A5A u;have:=ag.2.2;simp;omega
 rw[Z0e (by simp[C2j];omega)]at ac
 have df:=C0R gl (A0V u).tail .no g M2 bl
 rw[bp]at c8
 simp -dsimp -implicitDefEqProofs[A0k,A0l,A0d,AV.storable,AV.cells]
 rw[<-au,<-hp]
 simp -dsimp -implicitDefEqProofs[a1,bc,a2,bd,a3,c5,a4,cw]
 refine A0g func67 c8 ?_
 have e8:(1:Int)<=(A0V u).length:=by have:=A5A u;have:=A5R u;omega
 have ej:(A4m (A0V u)).tail=A4m (A0V u).tail:=by simp[A4m,List.map_tail]
 simp -dsimp -implicitDefEqProofs[e8]
 rw[ej]
 generalize A9E _ _ _ _ _=io
 refine A0g func68 (C0R gl (A0V u).tail io g M2 bl) ?_
 cases hany:(A0V u).tail.any λx=>decide (x.act=g)
 case true=>
  have af:A=A5v 5:=by rw[ac,Z0d hany]
  obtain⟨q1,q2⟩:=ad M2 5 ab af;simp -dsimp -implicitDefEqProofs[A5Y,ah M2 ab,A0v,q1];exact q2
 rw[Z0e (by rw[hany];simp)]at ac
 obtain⟨q,hq⟩:∃q,q=M2.length:=⟨_,rfl⟩
 obtain⟨Mc,cg⟩:∃Mc,Mc=M2++[C3m g a7 A0E]:=⟨_,rfl⟩
 have ct:Mc[q]?=some (C3m g a7 A0E):=by rw[cg,hq];simp
 have d5:Grow M2 Mc:=by rw[cg];exact A0c.app none _ _
 have c3:q<Mc.length:=(Z0b.1 ct).1
 have c9:A5P g a7 q Mc Mc []:=⟨A0W.refl _ _,A0E,ct,.nil⟩
 have ex:=A2q u.kids
 have ew:=A7g u
 have du:=ag.2.2
 simp -dsimp -implicitDefEqProofs[C7J,C7O,A0k,A0l,A0d,AV.storable,AV.cells]
 rw[<-cg,<-hq]
 refine A6F (.exit 0) (λT M5=>A4R g s u io r p q T/\T 14=I 0/\A5P g a7 q Mc M5 (A2x u)) ?_ ?_
 .refine A0F hB u.kids.length 74 (λT M5=>∃i:Nat,i<=u.kids.length/\A4R g s u io r p q T/\T 14=I 0/\T 72=.list 8 (A0u u.kids) .no/\T 73=I u.kids.length/\T 74=I i/\A5P g a7 q Mc M5 ((A2x u).take i)) ?_ ?_
  .exact⟨0,by omega,by simp[A4R],by simp,by simp,by simp,by simp,by simpa using c9⟩
  rintro T M5 ⟨i,i1,⟨t2,t5,t8,y,a0,z,w⟩,a5,t72,be,bs,hm⟩;by_cases hi:i<u.kids.length;case neg=>
   (have aj:¬(i:Int)<u.kids.length:=by omega);rw[Z0j (by simp[A2x];omega)]at hm
   simp -dsimp -implicitDefEqProofs[t2,t5,t8,y,a0,z,w,a5,t72,be,bs,aj,A4R];exact hm
  have aj:(i:Int)<u.kids.length:=by omega
  have w1:=A2s (i:=i) (by omega);obtain⟨X,hX⟩:∃X,X=u.kids[i]:=⟨_,rfl⟩;have dz:u.kids[i].row=[I X.id.act,I X.id.item,I X.id.n,I X.kind,S X.label,.list 4 (A0i X.head) .no,.list 4 (A0i X.words) .no,.list 8 (A0u X.kids) .no]:=by rw[<-hX];exact X.row_eq
  have bv:=λM=>D5V gl u X.id M ag.1 ag.2.2;rw[bp]at bv;obtain⟨M6,b4⟩:∃M6,M6=M5++[A0j.cells 27 [I X.id.act,I X.id.item,I X.id.n,I X.kind,S X.label,.list 4 (A0i X.head) .no,.list 4 (A0i X.words) .no,.list 8 (A0u X.kids) .no]]:=⟨_,rfl⟩;have e3:M6[M5.length]?=some (A0j.cells 27 [I X.id.act,I X.id.item,I X.id.n,I X.kind,S X.label,.list 4 (A0i X.head) .no,.list 4 (A0i X.words) .no,.list 8 (A0u X.kids) .no]):=by rw[b4];simp
  obtain⟨dc,iv,cn,cu⟩:=hm.app c3 [A0j.cells 27 [I X.id.act,I X.id.item,I X.id.n,I X.kind,S X.label,.list 4 (A0i X.head) .no,.list 4 (A0i X.words) .no,.list 8 (A0u X.kids) .no]];rw[<-b4]at dc cn cu;have ax:(A2x u).take (i+1)=(A2x u).take i++[.rep ((B3N u X.id).getD [])]:=by rw[Z0D (by simpa[A2x]using hi)];simp[A2x,hX]
  simp -dsimp -implicitDefEqProofs[t2,t5,t8,y,a0,z,w,a5,t72,be,bs,hi,aj,dz,A0k,A0l,A0d,AV.storable,AV.cells];rw[<-b4];simp -dsimp -implicitDefEqProofs[t2,t5,t8,y,a0,z,w,a5,t72,be,bs,A0b e3];refine A0g func70 (bv M6) ?_;simp -dsimp -implicitDefEqProofs[t2,t5,t8,y,a0,z,w,a5,t72,be,bs,A0b cn,C7H,A0q,A1f,AV.storable,AV.cells];refine B8r (C:=WC gl) (enc:=A1y.row) (e:=128) (sz:=25) (news:=[.rep ((B3N u X.id).getD [])]) (o:=.full) D3n D7B D3l cu.fam (by simp[A2x];omega) rfl rfl ?_;intro v' M7 k1 k2 k3;obtain⟨bj,ci⟩:=A5P.push dc cn cu k1 k2 k3;simp -dsimp -implicitDefEqProofs[t2,t5,t8,y,a0,z,w,a5,t72,be,bs,bj,w1,A4R];refine⟨⟨i+1,by clear w1;omega,rfl,?_⟩,by clear w1;omega⟩;rw[ax];exact ci
 clear c9 ct df
 rintro T M5 ⟨⟨t2,t5,t8,y,a0,z,w⟩,a5,cj⟩
 obtain⟨L,a,b,c,he,ed,hP⟩:=ec rfl
 simp only[Z1d,Z1O]at he
 obtain⟨rfl,rfl,rfl,rfl⟩:=he
 have hS:A6m u l:=C4j ag (hF▸hR.symm)
 obtain⟨ts,bo⟩:∃ts,ts=A1G F l s:=⟨_,rfl⟩
 obtain⟨K,hK⟩:∃K,K=A2T l:=⟨_,rfl⟩
 have cb:ts=K.map (A2l F l s l.length):=by rw[bo,hK];rfl
 rw[<-bo]at ac
 have c1:∀M6,A0W q Mc M6->Grow M1 M6:=λM6 h=>by
  have h1:Grow M1 M2:=by rw[au];exact A0c.app none _ _
  exact h.grow (h1.trans d5) (by have:=h1.1;omega)
 have dn:∀M6,A0W q Mc M6->M6[p]?=some (.cells 96 [.list 5 (A2h l) .no,.mapr a,.mapr b,.mapr c]):=λM6 h=>by have di:p<M2.length:=(Z0b.1 dk).1;rw[h.2 p (by omega)];exact d5.get dk (by simp)
 obtain⟨KL,d2,d7⟩:=hP.kd
 have b9:=d7 (-1)
 rw[show A3T l (-1) l.length=K from hK.symm]at b9
 have db:∀M6,A0W q Mc M6->A1z prog 94 M6 (.mapr c) (I (-1)) false=some (A8l KL (-1)):=λM6 h=>by rw[(d2.keep (c1 M6 h) (by simp)).get (B9v 94 130 (by kernel_rfl)) (-1:Int) B4L false];unfold A8l;cases A1C KL (-1:Int)<;>rfl
 obtain⟨b1,dl⟩:∃b1,b1=A8l KL (-1):=⟨_,rfl⟩
 rw[<-dl]at db b9
 have et:K.length<=l.length:=by rw[hK];exact B0Q _ _ _
 have cz:∀M6,A0W q Mc M6->A1V prog 130 b1=some K.length:=λM6 h=>b9.len (e':=3) (by simp)
 obtain⟨m,dp⟩:∃m,m=M5.length:=⟨_,rfl⟩
 obtain⟨M6,b4⟩:∃M6,M6=M5++[A0j.map [] 0]:=⟨_,rfl⟩
 have az:=cj.app c3 [.map [] 0]
 have ay:A1W A2C A2C M6 m ([]:List (IdD×IdD)):=by rw[dp,b4];exact A1W.new M5
 have er:q<m:=by have:=cj.1.1;omega
 rw[<-b4]at az
 have dr:=B2c (s:=s) hS
 rw[<-hF,<-bo]at dr
 have e7:∀n (h:n<l.length),∃x,F l[n].id=some x/\x.good/\x.words.length<=300/\x.head.length<=300:=by rw[hF];exact hS.fd
 have ds:=C4e (s:=s) hS hl
 rw[<-hF,<-bo]at ds
 have eo:ts.length=K.length:=by rw[cb,Z0R]
 have ch:∀n,(A4X g ((ts.take n).map (·.2.1)) u.kids.length).map (·.1)=(ts.take n).flatMap (·.2.1):=λn=>by rw[B2R,Z3s];rfl
 simp -dsimp -implicitDefEqProofs[t2,t5,t8,y,a0,z,w,a5]
 rw[<-b4,<-dp]
 simp -dsimp -implicitDefEqProofs[t2,t5,t8,y,a0,z,w,a5,A0b (dn M6 az.1),db M6 az.1,cz M6 az.1]
 refine A6F (.exit 2) (λT M7=>A4R g s u io r p q T/\T 14=I (A7r ts 0)/\T 21=.mapr m/\A5P g a7 q Mc M7 (A2x u++A3k ts)/\A1W A2C A2C M7 m (A7n g u ts)) ?_ ?_
 .refine A0F hB K.length 98 (λT M7=>∃j:Nat,j<=K.length/\A4R g s u io r p q T/\T 14=I (A7r (ts.take j) 0)/\T 21=.mapr m/\T 96=b1/\T 97=I K.length/\T 98=I j/\A5P g a7 q Mc M7 (A2x u++A3k (ts.take j))/\A1W A2C A2C M7 m (A4X g ((ts.take j).map (·.2.1)) u.kids.length)) ?_ ?_
  .exact⟨0,by omega,by simp[A4R,t2,t5,t8,y,a0,z,w],by simp[a5,A7r],by simp,by simp,by simp,by simp,by simpa[A3k]using az,by simpa[A4X]using ay⟩
  clear t2 t5 t8 y a0 z w a5 az ay;rintro T M7 ⟨j,j1,⟨t2,t5,t8,y,a0,z,w⟩,a5,a6,a9,aa,a8,hm,an⟩;have dq:=a8;by_cases hj:j<K.length;case neg=>
   (have cx:¬(j:Int)<K.length:=by omega);rw[Z0j (by omega)]at hm an a5
   simp -dsimp -implicitDefEqProofs[t2,t5,t8,y,a0,z,w,a5,a6,a9,aa,a8,cx,A4R];exact⟨hm,an⟩
  have cx:(j:Int)<K.length:=by omega
  have w1:=A2s (i:=j) (by omega);have en:=b9.keep (c1 M7 hm.1) (by simp);obtain⟨pt,eg,ee⟩:=en.at1 (P:=prog) (t:=3) (f:=λk:Nat=>I k) (λ_=>rfl) E2S sz3 hj;have dg:K[j]∈A3T l (-1) l.length:=by have dy:K=A3T l (-1) l.length:=hK;rw[<-dy];exact Z0y hj
  have cd:K[j]<l.length:=A7z dg;obtain⟨t,c6⟩:∃t,t=A2l F l s l.length K[j]:=⟨_,rfl⟩;have dj:ts[j]'(by omega)=t:=by rw[c6];simp[cb]
  have aq:=D7m gl F s l L ed a b c hl cq hs ht hS.ord e7 l.length K[j] M7 cd (by omega) (hP.keep (c1 M7 hm.1));rw[<-c6]at aq;have cr:Fit t.1:=by rw[c6,hF];exact B4P hS hl cq ht cd (by omega)
  have el:A2Z t.1:=by rw[c6];exact B2V F l s _ _
  have cs:t∈ts:=by rw[<-dj];exact Z0y _
  have ep:=ds t cs;have ax:ts.take (j+1)=ts.take j++[t]:=by rw[Z0D (by omega),dj]
  obtain⟨M8,bk⟩:∃M8,M8=M7++[A0j.cells 27 t.1.row]:=⟨_,rfl⟩;have bq:M8[M7.length]?=some (A0j.cells 27 t.1.row):=by rw[bk];simp
  have c7:=hm.app c3 [A0j.cells 27 t.1.row];have bb:=an.keep (A0c.app none M7 [A0j.cells 27 t.1.row]) (by simp);rw[<-bk]at c7 bb;obtain⟨xt,dm⟩:∃xt,xt=M7.length:=⟨_,rfl⟩;rw[<-dm]at bq;have ey:q<xt:=by have:=hm.1.1;omega
  have eu:m≠xt:=by have:=an.lt;omega
  simp -dsimp -implicitDefEqProofs[t2,t5,t8,y,a0,z,w,a5,a6,a9,aa,a8,cx,eg,ee,A0b (dn M7 hm.1)];refine A0g func71 aq ?_;simp -dsimp -implicitDefEqProofs[t2,t5,t8,y,a0,z,w,a5,a6,a9,aa,a8,C9A,A0k,A0l,A0d,AV.storable,AV.cells];rw[<-bk,<-dm];simp -dsimp -implicitDefEqProofs[t2,t5,t8,y,a0,z,w,a5,a6,a9,aa,a8,A0b bq];refine A0r func72 (C0F gl d4 d9 t.1 M8 cr el) ?_;rintro _ M8 ⟨⟨tx,rfl⟩,rfl⟩;simp -dsimp -implicitDefEqProofs[-B3J];refine C2e (λT M9=>M9=M8/\A4R g s u io r p q T/\T 14=I (A7r (ts.take j) 0)/\T 21=.mapr m/\T 24=.ptr xt 0/\T 25=.list 3 (A4m t.2.1) .no/\T 26=I (C6H t)/\T 96=b1/\T 97=I K.length/\T 98=I j) ?_ ?_
  .by_cases hfe:B0h t.1=0
   .simp -dsimp -implicitDefEqProofs[t2,t5,t8,y,a0,z,w,a5,a6,a9,aa,a8,hfe,C6H,A4R]
   .simp -dsimp -implicitDefEqProofs[t2,t5,t8,y,a0,z,w,a5,a6,a9,aa,a8,hfe,C6H,A4R]
  clear t2 t5 t8 y a0 z w a5 a6 a9 aa a8;rintro T _ ⟨rfl,⟨t2,t5,t8,y,a0,z,w⟩,a5,a6,ai,bw,c0,a9,aa,a8⟩;simp -dsimp -implicitDefEqProofs[t2,t5,t8,y,a0,z,w,a5,a6,ai,bw,c0,a9,aa,a8];refine A0g func73 (C6f gl _ _ _) ?_;have d1:A9f (A7r (ts.take j) 0) (C6H t)=A7r (ts.take (j+1)) 0:=by rw[ax,A7r,A7r,Z3O];rfl
  rw[d1];simp -dsimp -implicitDefEqProofs[t2,t5,t8,y,a0,z,w,a5,a6,ai,bw,c0,a9,aa,a8];refine A6F (.exit 4) (λT M9=>A4R g s u io r p q T/\T 14=I (A7r (ts.take (j+1)) 0)/\T 21=.mapr m/\T 24=.ptr xt 0/\T 96=b1/\T 97=I K.length/\T 98=I j/\M9[xt]?=some (A0j.cells 27 t.1.row)/\A5P g a7 q Mc M9 (A2x u++A3k (ts.take j))/\A1W A2C A2C M9 m (A4X g ((ts.take (j+1)).map (·.2.1)) u.kids.length)) ?_ ?_
  .refine A0F hB t.2.1.length 122 (λT M9=>∃i:Nat,i<=t.2.1.length/\A4R g s u io r p q T/\T 14=I (A7r (ts.take (j+1)) 0)/\T 21=.mapr m/\T 24=.ptr xt 0/\T 96=b1/\T 97=I K.length/\T 98=I j/\T 120=.list 3 (A4m t.2.1) .no/\T 121=I t.2.1.length/\T 122=I i/\M9[xt]?=some (A0j.cells 27 t.1.row)/\A5P g a7 q Mc M9 (A2x u++A3k (ts.take j))/\A1W A2C A2C M9 m (A4X g ((ts.take j).map (·.2.1)) u.kids.length++(t.2.1.zipIdx.take i).map λx=>(x.1,(⟨g,(u.kids.length+j:Nat),(x.2:Int)+1⟩:IdD)))) ?_ ?_
   .exact⟨0,by omega,by simp[A4R,t2,t5,t8,y,a0,z,w],by simp,by simp[a6],by simp[ai],by simp[a9],by simp[aa],by simp[a8],by simp,by simp,by simp,bq,c7,by simpa using bb⟩
   clear t2 t5 t8 y a0 z w a5 a6 ai bw c0 a9 aa a8 hm an c7 bb bq bk aq;rintro T M9 ⟨i,i1,⟨t2,t5,t8,y,a0,z,w⟩,a5,a6,ai,a9,aa,a8,bu,bg,bi,av,d3,ak⟩;(have eb:A4X g ((ts.take (j+1)).map (·.2.1)) u.kids.length=A4X g ((ts.take j).map (·.2.1)) u.kids.length++t.2.1.zipIdx.map λx=>(x.1,(⟨g,(u.kids.length+j:Nat),(x.2:Int)+1⟩:IdD)):=by rw[ax,Z0S,C0o];simp[A4X,Z0B,Z1y (show j<=ts.length by omega)]);by_cases hi:i<t.2.1.length;case neg=>
    (have aj:¬(i:Int)<t.2.1.length:=by omega);have cy:t.2.1.zipIdx.take i=t.2.1.zipIdx:=Z0j (by simp;omega)
    rw[cy,<-eb]at ak;simp -dsimp -implicitDefEqProofs[t2,t5,t8,y,a0,z,w,a5,a6,ai,a9,aa,a8,bu,bg,bi,aj,A4R];refine⟨av,d3,?_⟩;rw[<-Z1w];exact ak
   (have aj:(i:Int)<t.2.1.length:=by omega);have w2:=A2s (i:=i) (by omega)
   obtain⟨x,hx⟩:∃x,x=t.2.1[i]:=⟨_,rfl⟩;(have cv:t.2.1[i].row=[I x.act,I x.item,I x.n]:=by rw[<-hx];rfl);obtain⟨am,b7⟩:∃am,am=M9++[A0j.cells 23 [I x.act,I x.item,I x.n]]:=⟨_,rfl⟩;(have ca:Grow M9 am:=by rw[b7];exact A0c.app none _ _);(have bn:am[M9.length]?=some (A0j.cells 23 [I x.act,I x.item,I x.n]):=by rw[b7];simp);obtain⟨b3,iv,b2,ae⟩:=d3.app c3 [A0j.cells 23 [I x.act,I x.item,I x.n]];have al:=ak.keep ca (by simp);rw[<-b7]at b3 b2 ae;have cf:=ca.get av (by simp);(have bh:A1V prog 47 iv=some (u.kids.length+j):=by rw[ae.fam.len (e':=128) (by simp)];simp[A2x,A3k,Z0B,Z1y (show j<=ts.length by omega)]);obtain⟨kj,e0⟩:∃kj,kj=u.kids.length+j:=⟨_,rfl⟩;rw[<-e0]at bh al;have eh:x∉(A4X g ((ts.take j).map (·.2.1)) u.kids.length++(t.2.1.zipIdx.take i).map λx=>(x.1,(⟨g,(kj:Nat),(x.2:Int)+1⟩:IdD))).map (·.1):=by
    (have h1:(ts.take (j+1)).flatMap (·.2.1)=(ts.take j).flatMap (·.2.1)++t.2.1:=by rw[ax,Z1s];simp);have h2:((ts.take (j+1)).flatMap (·.2.1)).Nodup:=by have h:=dr.1;rw[<-Z0X (j+1) ts,Z1s]at h;exact(Z1V.1 h).1
    rw[h1]at h2;(have h3:(t.2.1.zipIdx.take i).map (λx=>x.1)=t.2.1.take i:=by rw[Z1w];congr 1;exact C2z _ 0);rw[Z0S,ch,Z1G];rw[show((λx:IdD×IdD=>x.1)∘λx:IdD×Nat=>(x.1,(⟨g,(kj:Nat),(x.2:Int)+1⟩:IdD)))=λx=>x.1 from rfl,h3];intro ek;(have h4:(ts.take j).flatMap (·.2.1)++t.2.1=((ts.take j).flatMap (·.2.1)++t.2.1.take i)++x::t.2.1.drop (i+1):=by rw[hx,Z0W,<-Z0l hi,Z0X]);rw[h4]at h2;exact(Z1V.1 h2).2.2 x ek x (by simp) rfl
   obtain⟨de,q1,q2,q3⟩:=al.put (A8D 129 23 (by kernel_rfl)) x (⟨g,(kj:Nat),(i:Int)+1⟩:IdD);rw[B7T eh]at q2;have e9:A1o prog 129 am (.mapr m) (.agg [I x.act,I x.item,I x.n]) (.agg [I g,I kj,I ((i:Int)+1)])=some de:=q1;(have cy:t.2.1.zipIdx.take (i+1)=t.2.1.zipIdx.take i++[(x,i)]:=by rw[Z0D (by simpa using hi),hx];simp);have eq:q<am.length:=(Z0b.1 b2).1;have dh:A5P g a7 q Mc de (A2x u++A3k (ts.take j)):=⟨b3.trans (q3.low (n:=q) (by omega) (λf hf=>by simp at hf;omega)),iv,q3.get b2 (by simp;omega),ae.fam.keep q3 (λf hf e=>by simp at e;have:=ae.fam;obtain⟨es,cl,h1,_⟩:=al;rcases ae.fam with⟨rfl,_⟩|rfl|⟨f',rfl,hm⟩<;>simp at hf;subst hf;rw[e,hm]at h1;simp at h1),ae.lat⟩;simp -dsimp -implicitDefEqProofs[t2,t5,t8,y,a0,z,w,a5,a6,ai,a9,aa,a8,bu,bg,bi,hi,aj,cv,A0k,A0l,A0d,AV.storable,AV.cells];rw[<-b7];simp -dsimp -implicitDefEqProofs[t2,t5,t8,y,a0,z,w,a5,a6,ai,a9,aa,a8,bu,bg,bi,A0b bn,A0b b2,bh,w2,C4a,e9,A4R];(have ea:((kj:Nat):Int)=(u.kids.length:Int)+(j:Int):=by omega);rw[ea]at q2;refine⟨⟨i+1,by clear w2;omega,by simp,q3.get cf (by simp;omega),dh,?_⟩,by clear w2;omega⟩;rw[<-Z1w,<-Z1w,cy,Z0S,<-Z0W];exact q2
  clear t2 t5 t8 y a0 z w a5 a6 ai bw c0 a9 aa a8 hm an c7 bb bq bk aq;rintro T M9 ⟨⟨t2,t5,t8,y,a0,z,w⟩,a5,a6,ai,a9,aa,a8,av,⟨b3,iv,b2,ae⟩,ak⟩;simp -dsimp -implicitDefEqProofs[t2,t5,t8,y,a0,z,w,a5,a6,ai,a9,aa,a8,A0b b2,A0b av,C7D,A0q,A1f,AV.storable,AV.cells];refine B8r (C:=WC gl) (enc:=A1y.row) (e:=128) (sz:=25) (news:=[.ins t.1]) (o:=.full) D3n D7B D3l ae.fam (by simp[A2x,A3k];omega) rfl rfl ?_;intro v' am k1 k2 k3;obtain⟨bj,bt⟩:=A5P.push b3 b2 ae k1 k2 k3;have al:=(C3l ak ae k2).keep (A0c.set am q (C3m g a7 v')) (by simp;omega);simp -dsimp -implicitDefEqProofs[t2,t5,t8,y,a0,z,w,a5,a6,ai,a9,aa,a8,dq,bj,w1,A4R];refine⟨⟨j+1,Nat.succ_le_of_lt hj,rfl,by simp,?_,?_⟩,Nat.sub_lt_sub_left hj (Nat.lt_succ_self j)⟩
  .rw[ax];simpa[A3k]using bt
  .rw[<-Z1w];exact al
 clear t2 t5 t8 y a0 z w a5 az ay cj
 rintro T M7 ⟨⟨t2,t5,t8,y,a0,z,w⟩,a5,a6,⟨dx,iv,c4,cp⟩,an⟩
 have b0:Grow Ma M7:=cc.trans (c1 M7 dx)
 have ar:A1V prog 47 iv=some (u.kids.length+ts.length):=by rw[cp.fam.len (e':=128) (by simp)];simp[A2x,A3k]
 obtain⟨kt,da⟩:∃kt,kt=u.kids.length+ts.length:=⟨_,rfl⟩
 rw[<-da]at ar
 have aw:C4U u ts=if 32<kt then 6 else A7r ts 0:=by rw[C4U,da]
 by_cases h32:32<kt
 .have ao:(32:Int)<kt:=by omega
  have b5:(kt:Int)>32:=ao;rw[Z0d h32]at aw;have af:A=A5v 6:=by rw[ac,aw];rfl
  obtain⟨q1,q2⟩:=ad M7 6 b0 af;simp -dsimp -implicitDefEqProofs[t2,t5,t8,y,a0,z,w,a5,a6,A0b c4,ar,h32,ao,b5,A5Y,ah M7 b0,A0v,q1];exact q2
 have ao:¬(32:Int)<kt:=by omega
 have b5:¬(kt:Int)>32:=ao
 rw[Z0e h32]at aw
 by_cases he0:A7r ts 0=0
 case neg=>
  have af:A=A5v (A7r ts 0):=by rw[ac,aw,Z0d he0]
  obtain⟨q1,q2⟩:=ad M7 _ b0 af;simp -dsimp -implicitDefEqProofs[t2,t5,t8,y,a0,z,w,a5,a6,A0b c4,ar,h32,ao,b5,he0,A5Y,ah M7 b0,A0v,q1];exact q2
 rw[Z0e (by rw[aw,he0];simp)]at ac
 have br:=B9A (s:=s) hS g
 rw[<-hF,<-bo]at br
 rw[br]at ac
 simp -dsimp -implicitDefEqProofs[t2,t5,t8,y,a0,z,w,a5,a6,A0b c4,ar,h32,ao,b5,he0]
 obtain⟨W,hW⟩:∃W,W=A7n g u ts:=⟨_,rfl⟩
 rw[<-hW]at an ac
 obtain⟨I1,c2⟩:∃I1,I1=(A0V u).tail:=⟨_,rfl⟩
 rw[<-c2]at ac bl
 rw[<-c2]at z
 obtain⟨n7,em⟩:∃n7,n7=M7.length:=⟨_,rfl⟩
 have ci:m<n7:=by rw[em];exact an.lt
 have ei:q<n7:=by omega
 have e6:r<n7:=by have:=(Z0b.1 (b0.get bz (by simp))).1;omega
 refine A0F hB I1.length 155 (λT M8=>∃i:Nat,i<=I1.length/\T 10=.ptr r 0/\T 16=.ptr q 0/\T 21=.mapr m/\T 153=.list 3 (A4m I1) io/\T 154=I I1.length/\T 155=I i/\A0W n7 M7 M8/\Fm 6 A4E n7 M8 (T 31) ((I1.take i).map λx=>(x,(A1C W x).getD idZ))) ?_ ?_
 .refine⟨0,by omega,by simp[y],by simp[w],by simp[a6],by simp[c2],by simp[c2],by simp,A0W.refl _ _,?_⟩;simp -dsimp -implicitDefEqProofs;exact .nil
 clear t2 t5 t8 y a0 z w a5 a6
 rintro T M8 ⟨i,i1,y,w,a6,b8,b6,ba,bm,ck⟩
 generalize ce:T 31=dv at*
 by_cases hi:i<I1.length
 case neg=>
  have aj:¬(i:Int)<I1.length:=by omega
  rw[Z0j (by omega)]at ck;have dw:M8[q]?=some (C3m g a7 iv):=(bm.2 q ei).trans c4;have d8:M8[r]?=some D1b:=(bm.2 r e6).trans (b0.get bz (by simp));have dt:Grow M M8:=bm.grow (cm.trans b0) (by omega);have e4:r<M8.length:=(Z0b.1 d8).1;have bj:A0l (some 7) M8 (.ptr r 0) (.agg [I g,S B1D,I a7,I 1,I a7,eS,iv])=some (M8.set r (C3m g a7 iv)):=by rw[A0f d8];simp[AV.storable,AV.cells,A0d,cp.fam.store]
  simp -dsimp -implicitDefEqProofs[y,w,a6,b8,b6,ba,aj,ce,A0b dw,bj,A0v,e4];rw[ac];refine⟨⟨by simpa using dt.1,λj hj _=>by rw[Z0f (by omega)];exact dt.2 j hj (by simp)⟩,?_⟩;exact .tuple (.agg (.same trivial (.same trivial (.same trivial (.same trivial (.same trivial (.same trivial (cp.data (A7x (D4G _) _) .nil))))))) (ck.data (A7x (λx=>by simp[A4E,A1K,bdd]) _) (.same trivial .nil))) .nil
 have aj:(i:Int)<I1.length:=by omega
 have w1:=A2s (i:=i) (by omega)
 obtain⟨x,hx⟩:∃x,x=I1[i]:=⟨_,rfl⟩
 have cv:I1[i].row=[I x.act,I x.item,I x.n]:=by rw[<-hx];rfl
 obtain⟨xa,dd⟩:∃xa,xa=M8.length:=⟨_,rfl⟩
 obtain⟨M9,co⟩:∃M9,M9=M8++[A0j.cells 23 [I x.act,I x.item,I x.n]]:=⟨_,rfl⟩
 have b3:Grow M8 M9:=by rw[co];exact A0c.app none _ _
 have av:M9[xa]?=some (A0j.cells 23 [I x.act,I x.item,I x.n]):=by rw[co,dd];simp
 have ae:=ck.keep b3
 have bf:=bm.trans (b3.low (n:=n7) (by have:=bm.1;omega) (by simp))
 have ak:A1W A2C A2C M9 m W:=by obtain⟨es,cl,e1,e2⟩:=an;exact⟨es,cl,(bf.2 m ci).trans e1,e2⟩
 have d6:A1z prog 129 M9 (.mapr m) (.agg [I x.act,I x.item,I x.n]) false=some (.agg [I ((A1C W x).getD idZ).act,I ((A1C W x).getD idZ).item,I ((A1C W x).getD idZ).n]):=by rw[show AV.agg [I x.act,I x.item,I x.n]=A2C x from rfl,ak.get (A8D 129 23 (by kernel_rfl)) x D6s false];cases A1C W x<;>rfl
 have d0:n7<=M9.length:=by have:=bf.1;omega
 have ax:(I1.take (i+1)).map (λx=>(x,(A1C W x).getD idZ))=(I1.take i).map (λx=>(x,(A1C W x).getD idZ))++[(x,(A1C W x).getD idZ)]:=by rw[Z0D hi,Z0S,hx];rfl
 simp -dsimp -implicitDefEqProofs[y,w,a6,b8,b6,ba,hi,aj,cv,A0k,A0l,A0d,AV.storable,AV.cells]
 rw[<-co,<-dd]
 refine A6r hB (A0I gl) (λk=>if k=1\/k=3\/k=4 then 1 else if k=7 then 2 else 0) (λk=>if k=4 then m else xa) (λ_=>false) [xa,m] (by intro j _ _;by_cases h:j=4<;>simp[h]) (by rfl) (by kernel_rfl) ?_
 simp -dsimp -implicitDefEqProofs[y,w,a6,b8,b6,ba,ce,A0R,A7f,A0b av,d6,C9a,A0q,A1f,AV.storable,AV.cells]
 refine⟨rfl,B8r (C:=WC gl) (enc:=A4E) (e:=79) (sz:=6) (news:=[(x,(A1C W x).getD idZ)]) (o:=.full) D8I E3w E1S ae.fam (by simp;omega) rfl rfl ?_⟩
 intro v' am k1 k2 k3
 have bn:=ae.cells k2 av
 have bt:am[m]?=M9[m]?:=by refine k2.2 m (by omega) λe=>?_;have:=ae.lat m e;omega
 simp -dsimp -implicitDefEqProofs[y,w,a6,b8,b6,ba,av,bn,bt,w1]
 refine⟨⟨i+1,by clear w1;omega,by simp,bf.trans ((ae.low d0 k2).le (Z0n _)),?_⟩,by clear w1;omega⟩
 rw[<-Z1w,ax]
 exact ae.push d0 k1 k3
end
section
variable (gl:Nat->AV)
set_option maxHeartbeats 1000000 in
def C3w(ay:gl 0=A2u)(u t:A0a)(g:Int)(i:Nat)(b3:Int)(M:Mem)(hf:Fit u)(b8:Fit t)(hw:wcU t<=1000000000)(hx:Fit (A1U g i t 0 0))(be:u.kids.length<64)(bd:A1R t<8)
 (b9:A0o u+A0o t<=1024)(aq:B5r u (A1U g i t 0 0)=0)(a7:((A0V (A1U g i t 0 0)).any λy=>(A0V u).any λz=>decide (z=y))=false):
 A0e (WC gl) 232 [.agg u.row,.agg u.row,.agg (enR g i b3 (.ins t))] M (λv M'=>v=.tuple [.agg (A7I u (u.kids++[A1U g i t 0 0])).row,I 0]/\M'=M):=by
 refine A0e.dataX ?_
 obtain⟨x,aj⟩:∃x,x=A1U g i t 0 0:=⟨_,rfl⟩
 have bf:A0o x=A0o t:=by rw[aj,A8p]
 have ar:A1R x=A1R t:=by rw[aj,B6b]
 have a2:=λM=>D4t gl t g i M b8 hw
 rw[<-aj]at hx aq a7 a2|-
 have b7:u.id.row=[I u.id.act,I u.id.item,I u.id.n]:=rfl
 have b0:A0U u.id u=some u:=by obtain⟨a,b,c,d,e,f⟩:=u;rw[A0U];exact Z0d rfl
 have ac:∀l:List IdD,l=A0V u->((A0V x).any λy=>l.any λz=>decide (z=y))=false:=λl h=>by rw[h];exact a7
 obtain⟨b,hb⟩:∃b,b=M.length:=⟨_,rfl⟩
 obtain⟨M1,ah⟩:∃M1,M1=M++[z8]:=⟨_,rfl⟩
 have h1:M1[b]?=some z8:=by rw[ah,hb];simp
 have b5:Grow M M1:=by rw[ah];exact A0c.app none _ _
 have af:=C7a gl u t M1 hf
 obtain⟨M2,a4⟩:∃M2,M2=M1++[A0j.cells 23 [I u.id.act,I u.id.item,I u.id.n],A0j.cells 3 [I u.kids.length]]:=⟨_,rfl⟩
 obtain⟨p,hp⟩:∃p,p=M1.length:=⟨_,rfl⟩
 have ai:M2[p]?=some (A0j.cells 23 [I u.id.act,I u.id.item,I u.id.n]):=by rw[a4,hp];simp
 have au:M2[p+1]?=some (A0j.cells 3 [I u.kids.length]):=by rw[a4,hp];simp[Z1h]
 have b6:Grow M1 M2:=by rw[a4];exact A0c.app none _ _
 have w:=B2j gl u u.id M2 hf
 rw[b0]at w
 obtain⟨q,hq⟩:∃q,q=M2.length:=⟨_,rfl⟩
 obtain⟨M3,ak⟩:∃M3,M3=M2++[A0j.cells 27 [I u.id.act,I u.id.item,I u.id.n,I u.kind,S u.label,.list 4 (A0i u.head) .no,.list 4 (A0i u.words) .no,.list 8 (A0u u.kids) .no]]:=⟨_,rfl⟩
 have b1:M3[q]?=some (A0j.cells 27 [I u.id.act,I u.id.item,I u.id.n,I u.kind,S u.label,.list 4 (A0i u.head) .no,.list 4 (A0i u.words) .no,.list 8 (A0u u.kids) .no]):=by rw[ak,hq];simp
 have a3:Grow M2 M3:=by rw[ak];exact A0c.app none _ _
 obtain⟨r,hr⟩:∃r,r=M3.length:=⟨_,rfl⟩
 obtain⟨M4,ad⟩:∃M4,M4=M3++[A0j.cells 27 [I x.id.act,I x.id.item,I x.id.n,I x.kind,S x.label,.list 4 (A0i x.head) .no,.list 4 (A0i x.words) .no,.list 8 (A0u x.kids) .no]]:=⟨_,rfl⟩
 have a1:M4[r]?=some (A0j.cells 27 [I x.id.act,I x.id.item,I x.id.n,I x.kind,S x.label,.list 4 (A0i x.head) .no,.list 4 (A0i x.words) .no,.list 8 (A0u x.kids) .no]):=by rw[ad,hr];simp
 have a0:Grow M3 M4:=by rw[ad];exact A0c.app none _ _
 have bb:=A2q u.kids
 have ba:A0x u.kids<A0o u:=by obtain⟨a,b,c,d,e,f⟩:=u;rw[A0o];show A0x f<_;omega
 have bc:=hf.2.2
 have m:=λM=>D3g gl ay u x M (by omega)
 rw[aq]at m
 have j:=λM=>D5X gl u x M hf hx
 rw[ar,Z0z (by omega)]at j
 have a6:=λM=>B1C gl u M hf.1 hf.2.2
 have a8:=λM=>B1C gl x M hx.1 hx.2.2
 obtain⟨s,hs⟩:∃s,s=M4.length:=⟨_,rfl⟩
 obtain⟨iu,ag⟩:∃iu,iu=A0V u:=⟨_,rfl⟩
 obtain⟨M5,al⟩:∃M5,M5=M4++[A0j.cells 85 [.list 3 (A4m iu) .no]]:=⟨_,rfl⟩
 have av:M5[s]?=some (A0j.cells 85 [.list 3 (A4m iu) .no]):=by rw[al,hs];simp
 have a5:Grow M4 M5:=by rw[al];exact A0c.app none _ _
 have o:=λM=>B3i gl u M hf.1 hf.2.2
 have a9:=λM=>B3i gl x M hx.1 hx.2.2
 rw[<-ag]at o
 have an:iu.length<=1000:=by rw[ag,A5A];exact hf.2.2
 have aa:=D6F gl (λy=>iu.any λz=>decide (z=y)) 286 [.ptr s 0] (A0V x) .no M5 (by rw[A5A];exact hx.2.2) (λy _=>A1T func286 rfl rfl (C7A gl iu y s M5 an av))
 rw[ac iu ag]at aa
 have p1:=(a3.trans (a0.trans a5)).get ai (by simp)
 have p2:=(a3.trans (a0.trans a5)).get au (by simp)
 have r1:=a5.get a1 (by simp)
 have ab:=B8v gl u 289 [.ptr (p+1) 0,.ptr r 0] (u.kids++[x]) M5 hf (E3r gl u x (by omega) (p+1) r M5 p2 (by rw[x.row_eq];exact r1))
 have am:Grow M1 M5:=b6.trans (a3.trans (a0.trans a5))
 have h5:=am.get h1 (by simp)
 have b4:b<M5.length:=(Z0b.1 h5).1
 have az:=a3.get ai (by simp)
 have ap:=a0.get az (by simp)
 have ao:=a0.get b1 (by simp)
 have aw:¬(u.kids.length:Int)>=64:=by omega
 have w1:IntKind.i64.wrap ((A0o u:Int)+A0o x)=(A0o u:Int)+A0o x:=by rw[A0Z (by omega) (by omega)]
 have ae:¬(A0o u:Int)+A0o x>1024:=by omega
 have b2:=x.row_eq
 have ax:=t.row_eq
 rw[b7]at af w j ab
 rw[A1Z]at w
 rw[b2]at a2 m j a8 a9
 rw[ax]at a2
 rw[u.row_eq]at af w m j a6 o ab|-
 refine A0m hB func232 ?_
 simp -dsimp -implicitDefEqProofs[A0k,enR,A1y.row]
 rw[<-ah,<-hb]
 refine A0g func282 af ?_
 simp -dsimp -implicitDefEqProofs[A0k,A0l,A0d,A0L,A0K]
 rw[<-a4,<-hp]
 simp -dsimp -implicitDefEqProofs[A0b ai]
 refine A0g func32 w ?_
 simp -dsimp -implicitDefEqProofs[A0k,A0l,A0d,A0L,A0K]
 rw[<-ak,<-hq]
 refine A0g func283 (a2 M3) ?_
 simp -dsimp -implicitDefEqProofs[A0k,A0l,A0d,A0L,A0K]
 rw[<-ad,<-hr]
 simp -dsimp -implicitDefEqProofs[A0b ao,A0b a1]
 refine A0g func284 (m M4) ?_
 simp -dsimp -implicitDefEqProofs
 refine A1v hB (A0I gl) (λk=>if k=1\/k=6\/k=7\/k=13 then 1 else 0) (λk=>if k=1 then q else if k=6 then p else r) (by rfl) (by kernel_rfl) ?_
 simp -dsimp -implicitDefEqProofs[A0b ao,A0b a1,A0b ap,A0R,A7f,aw]
 refine A2F func285 j ?_
 simp -dsimp -implicitDefEqProofs
 refine A2F func30 a6 ?_
 simp -dsimp -implicitDefEqProofs[A0b a1,A0R,A7f]
 refine A2F func30 a8 ?_
 simp -dsimp -implicitDefEqProofs[w1,ae]
 refine A0g func67 (o M4) ?_
 simp -dsimp -implicitDefEqProofs[A0k,A0l,A0d,AV.storable,AV.cells]
 rw[<-al,<-hs]
 simp -dsimp -implicitDefEqProofs[A0b r1]
 refine A0g func67 (a9 M5) ?_
 simp -dsimp -implicitDefEqProofs
 refine A0g func68 aa ?_
 simp -dsimp -implicitDefEqProofs[A0b p1]
 refine A0g func288 ab ?_
 simp -dsimp -implicitDefEqProofs[A0f h5,A0L,A0K,A0v b4,A0h]
 exact⟨A1g (b5.trans am) (by omega),.tuple (.same (by simp only[bdd];exact A2D _ _) (.same trivial .nil)) .nil⟩
end
section
mutual
def B9I:∀(u:A0a),(A4w (λ_=>true) (λ(_:Unit) _=>()) u ()).1=true
 |.mk id k l h w ks=>by rw[A4w,Z0d rfl];exact B6n ks
def B6n:∀(ks:List A0a),(A3v (λ_=>true) (λ(_:Unit) _=>()) ks ()).1=true
 |[]=>by rw[A3v]
 |k::ks=>by rw[A3v,Z0d (B9I k)];exact B6n ks
end
section
variable (gl:Nat->AV)
def C3O(u:A0a)(M:Mem)(hf:Fit u)(hb:A2Z u):A0e (WC gl) 86 [.agg u.row,fnV 389] M (λv M'=>v=B true/\M'=M):=by
 refine A3Z (λ_=>trivial) ?_;have h:=A9u gl 389 [] [] (λ_=>true) (λ(_:Unit) _=>()) (λM1 _=>Grow M M1) (λ_ u=>A2Z u/\u.lims) (λ_ ks=>B2x ks/\A6D ks) ?_ ?_ ?_ ?_ ?_ u () M hf.1 ⟨hb,hf.2.1⟩ (A0c.refl _ _)
 .rw[B9I]at h;exact h
 .intro a u h;exact⟨by have:=((A6V u).1 h.1);obtain⟨a,b,c,d,e,f⟩:=u;rw[A2Z]at h;exact h.1.2.2.2,(A3r u h.2).2⟩
 .intro a k ks h;rw[B2x,A6D]at h;exact⟨h.1.1,h.2.1⟩
 .intro a k ks h _;rw[B2x,A6D]at h;exact⟨h.1.2,h.2.2⟩
 .intro M1 a X h;exact h.trans (A0c.app none _ _)
 .intro u a M1 hg hk hj;refine(A1T func389 rfl rfl (C9b gl M1 u hk.1 hk.2)).mono ?_;rintro _ _ ⟨rfl,rfl⟩;exact⟨rfl,hj⟩
def C3s(b:gl 0=A2u)(a:gl 1=A2J)(u:A0a)(M:Mem)(hf:Fit u)(hb:A2Z u)(hv:B0E u=true):A0e (WC gl) 364 [.agg u.row] M (λv M'=>v=B true/\M'=M):=by have h1:=λM=>B4t gl b a u M hf;have h2:=λM=>C3O gl u M hf hb;rw[B3w hb,hv]at h1;rw[u.row_eq]at h1 h2|-;refine A0m hB func364 ?_;simp -dsimp -implicitDefEqProofs;refine A0g func109 (h1 M) ?_;simp -dsimp -implicitDefEqProofs;refine A0g func86 (h2 M) ?_;simp -dsimp -implicitDefEqProofs
def C2M(c:gl 0=A2u)(b:gl 1=A2J)(u:A0a)(M:Mem)(hf:Fit u)(hb:A2Z u)(hk:u.kind≠0)(hv:B0h u=0)(a:A0e (WC gl) 72 [.agg u.row] M (λv M'=>(∃t,v=.tuple [S t,I (B0h u)])/\M'=M)):A0e (WC gl) 303 [.agg u.row] M (λv M'=>v=B true/\M'=M):=by
 have d:B0E u=true:=by
  unfold B0h at hv;split at hv
  .assumption
  .simp at hv
 have h2:=C3s gl c b u M hf hb d;rw[hv]at a;rw[u.row_eq]at h2 a|-;refine A0m hB func303 ?_;simp -dsimp -implicitDefEqProofs;refine A0r func72 a ?_;rintro _ M1 ⟨⟨t,rfl⟩,rfl⟩;simp -dsimp -implicitDefEqProofs;refine A0g func364 h2 ?_;simp -dsimp -implicitDefEqProofs[hk]
def D1K(c:gl 0=A2u)(b:gl 1=A2J)(u:A0a)(M:Mem)(hf:Fit u)(hb:A2Z u)(hk:u.kind≠0)(hv:B0h u=0)(a:A0e (WC gl) 72 [.agg u.row] M (λv M'=>(∃t,v=.tuple [S t,I (B0h u)])/\M'=M)):A0e (WC gl) 301 [.agg (A1y.ins u).row] M (λv M'=>v=B true/\M'=M):=by have h2:=C2M gl c b u M hf hb hk hv a;rw[u.row_eq]at h2;refine A0m hB func301 ?_;simp -dsimp -implicitDefEqProofs[A1y.row];refine A0g func302 (C5X gl M 1) ?_;simp -dsimp -implicitDefEqProofs;refine A0g func303 h2 ?_;simp -dsimp -implicitDefEqProofs
end
end
@[simp] def E6i{a:ByteArray}{x y z:Int}:A1B prog .neq 152 (.agg [S a,I x,I y,I z]) (.agg [S a,I x,I y,I z])=some (B false):=by
 have h1:prog.eqGuardType prog.depth 152=false:=by kernel_rfl
 have h2:prog.stoodInHeld 152=false:=by kernel_rfl
 have h3:prog.stoodInHeld 150=false:=by kernel_rfl
 simp[A1B,A3I,A5h,A4J,A3q,h1,B2q,h2,h3,A3H]
@[simp] def E6Z{k d:Int}:A1B prog .eql 46 (.agg [I k,I d,eS]) (.agg [I k,I d,eS])=some (B true):=by
 have h1:prog.eqGuardType prog.depth 46=false:=by kernel_rfl
 have h2:prog.stoodInHeld 46=false:=by kernel_rfl
 simp[A1B,A3I,A5h,A4J,A3q,h1,B2q,h2,A3H]
section
variable (gl:Nat->AV)
def C0w(l:List A0M)(o1 o2:Own)(M:Mem)(hl:l.length<=100000000):A0e (WC gl) 84 [.list 4 (A0i l) o1,.list 4 (A0i l) o2] M (λv M'=>v=B true/\M'=M):=by
 refine A0m hB func84 ?_;simp -dsimp -implicitDefEqProofs;refine A0F hB l.length 13 (λT M1=>∃i:Nat,M1=M/\i<=l.length/\T 0=.list 4 (A0i l) o1/\T 1=.list 4 (A0i l) o2/\T 12=I l.length/\T 13=I i) ?_ ?_
 .exact⟨0,rfl,by omega,by simp,by simp,by simp,by simp⟩
 rintro T M1 ⟨i,rfl,i1,t0,t1,b,c⟩;by_cases hi:i<l.length
 .have a:(i:Int)<l.length:=by omega
  have w1:IntKind.i64.wrap ((i:Int)+1)=(i+1:Nat):=by rw[A0Z (by omega) (by omega)];omega
  simp -dsimp -implicitDefEqProofs[t0,t1,b,c,a];refine A1v hB (A0I gl) (λ_=>0) (λ_=>0) (by rfl) (by kernel_rfl) ?_;simp -dsimp -implicitDefEqProofs[t0,t1,b,c,hi,a,A0M.row,w1];exact⟨⟨i+1,by clear w1;omega,rfl⟩,by clear w1;omega⟩
 .have a:¬(i:Int)<l.length:=by omega
  simp -dsimp -implicitDefEqProofs[t0,t1,b,c,a]
def D4i(l:List A0a)(o1 o2:Own)(M:Mem)(hl:l.length<=1000000)(h:∀u∈l,∀M,A0e (WC gl) 28 [.agg u.row,.agg u.row] M (λv M'=>v=B true/\M'=M)):
 A0e (WC gl) 85 [.list 8 (A0u l) o1,.list 8 (A0u l) o2,fnV 28] M (λv M'=>v=B true/\M'=M):=by
 refine A3Z (λ_=>trivial) ?_
 refine A0m hB func85 ?_
 simp -dsimp -implicitDefEqProofs
 refine A0F hB l.length 17 (λT M1=>∃i:Nat,Grow M M1/\i<=l.length/\T 1=.list 8 (A0u l) o2/\T 2=fnV 28/\T 15=.list 8 (A0u l) o1/\T 16=I l.length/\T 17=I i) ?_ ?_
 .exact⟨0,Grow.refl _,by omega,by simp,by simp,by simp,by simp,by simp⟩
 rintro T M1 ⟨i,hg,i1,t1,t2,e,c,d⟩
 by_cases hi:i<l.length
 case neg=>
  have g:¬(i:Int)<l.length:=by omega
  simp -dsimp -implicitDefEqProofs[t1,t2,e,c,d,g];exact hg
 have g:(i:Int)<l.length:=by omega
 have w1:=A2s (i:=i) (by omega)
 obtain⟨x,hx⟩:∃x,x=l[i]:=⟨_,rfl⟩
 have k:l[i]=x:=hx.symm
 have j:=A9T l i hi
 rw[k]at j
 obtain⟨M2,b⟩:∃M2,M2=M1++[A0j.cells 27 x.row]:=⟨_,rfl⟩
 have ha:M2[M1.length]?=some (A0j.cells 27 [I x.id.act,I x.id.item,I x.id.n,I x.kind,S x.label,.list 4 (A0i x.head) .no,.list 4 (A0i x.words) .no,.list 8 (A0u x.kids) .no]):=by rw[b,x.row_eq];simp
 have p:Grow M1 M2:=by rw[b];exact A0c.app none _ _
 obtain⟨M3,f⟩:∃M3,M3=M2++[A0j.cells 27 x.row]:=⟨_,rfl⟩
 have hb:M3[M2.length]?=some (A0j.cells 27 [I x.id.act,I x.id.item,I x.id.n,I x.kind,S x.label,.list 4 (A0i x.head) .no,.list 4 (A0i x.words) .no,.list 8 (A0u x.kids) .no]):=by rw[f,x.row_eq];simp
 have m:Grow M2 M3:=by rw[f];exact A0c.app none _ _
 have o:=m.get ha (by simp)
 have a:=h x (by rw[hx];exact Z0y hi) M3
 rw[x.row_eq]at a
 simp -dsimp -implicitDefEqProofs[t1,t2,e,c,d,hi,g,j,k,A0k,A0l,A0d,A0L,A0K]
 rw[show M1++[A0j.cells 27 x.row,A0j.cells 27 x.row]=M3 by rw[f,b];simp]
 simp -dsimp -implicitDefEqProofs[t1,t2,e,c,d,A0b o,show M1.length+1=M2.length by rw[b];simp,A0b hb]
 refine A0g func28 a ?_
 simp -dsimp -implicitDefEqProofs[t1,t2,e,c,d,w1]
 exact⟨⟨hg.trans (p.trans m),i+1,by clear w1;omega,rfl⟩,by clear w1;omega⟩
def C5v:∀(u:A0a) (M:Mem),u.lims->A0e (WC gl) 28 [.agg u.row,.agg u.row] M (λv M'=>v=B true/\M'=M)
 |.mk id kind lab hd ws ks,M,hlm=>by
  obtain⟨⟨b,a,e,-⟩,c⟩:=A3r _ hlm;have b:hd.length<=100000000:=b;have a:ws.length<=100000000:=a;have e:ks.length<=1000:=e;have c:=A3E.1 c;have d:(A0a.mk id kind lab hd ws ks).row=[I id.act,I id.item,I id.n,I kind,S lab,.list 4 (A0i hd) .no,.list 4 (A0i ws) .no,.list 8 (A0u ks) .no]:=by rw[A0a.row]
  have he:=B4h id id;rw[Z0w rfl]at he;have hk:=D4i gl ks .no .no M (by omega) (λk hk M=>by have:=A0a.kid_lt (u:=.mk id kind lab hd ws ks) hk;exact C5v k M (c k hk));rw[d];refine A0m hB func28 ?_;simp -dsimp -implicitDefEqProofs[he];refine A0g func84 (C0w gl hd .no .no M b) ?_;simp -dsimp -implicitDefEqProofs;refine A0g func84 (C0w gl ws .no .no M a) ?_;simp -dsimp -implicitDefEqProofs;refine A0g func85 hk ?_;simp -dsimp -implicitDefEqProofs
termination_by u=>SizeOf.sizeOf u
def C4R(M:Mem):A0e (WC gl) 84 [A0E,A0E] M (λv M'=>v=B true/\M'=M):=by
 refine A0m hB func84 ?_;simp -dsimp -implicitDefEqProofs;refine A0F hB 0 13 (λT M1=>M1=M/\T 12=I 0/\T 13=I 0) ?_ ?_
 .exact⟨rfl,by simp,by simp⟩
 rintro T M1 ⟨rfl,a,b⟩;simp -dsimp -implicitDefEqProofs[a,b]
def B4p(M:Mem):A0e (WC gl) 326 [A0E,A0E] M (λv M'=>v=B true/\M'=M):=by
 refine A0m hB func326 ?_;simp -dsimp -implicitDefEqProofs;refine A0F hB 0 13 (λT M1=>M1=M/\T 12=I 0/\T 13=I 0) ?_ ?_
 .exact⟨rfl,by simp,by simp⟩
 rintro T M1 ⟨rfl,a,b⟩;simp -dsimp -implicitDefEqProofs[a,b]
def B5i(M:Mem):A0e (WC gl) 178 [A0E,A0E] M (λv M'=>v=B true/\M'=M):=by
 refine A0m hB func178 ?_;simp -dsimp -implicitDefEqProofs;refine A0F hB 0 13 (λT M1=>M1=M/\T 12=I 0/\T 13=I 0) ?_ ?_
 .exact⟨rfl,by simp,by simp⟩
 rintro T M1 ⟨rfl,a,b⟩;simp -dsimp -implicitDefEqProofs[a,b]
def D6K(M:Mem):A0e (WC gl) 85 [A0E,A0E,fnV 28] M (λv M'=>v=B true/\M'=M):=by
 refine A0m hB func85 ?_;simp -dsimp -implicitDefEqProofs;refine A0F hB 0 17 (λT M1=>M1=M/\T 16=I 0/\T 17=I 0) ?_ ?_
 .exact⟨rfl,by simp,by simp⟩
 rintro T M1 ⟨rfl,a,b⟩;simp -dsimp -implicitDefEqProofs[a,b]
def C0I(M:Mem):A0e (WC gl) 327 [A0E,A0E,fnV 243] M (λv M'=>v=B true/\M'=M):=by
 refine A0m hB func327 ?_;simp -dsimp -implicitDefEqProofs;refine A0F hB 0 17 (λT M1=>M1=M/\T 16=I 0/\T 17=I 0) ?_ ?_
 .exact⟨rfl,by simp,by simp⟩
 rintro T M1 ⟨rfl,a,b⟩;simp -dsimp -implicitDefEqProofs[a,b]
def D5K(M:Mem):A0e (WC gl) 28 [.agg [I 0,I 0,I 0,I 0,eS,A0E,A0E,A0E],.agg [I 0,I 0,I 0,I 0,eS,A0E,A0E,A0E]] M (λv M'=>v=B true/\M'=M):=by have he:=B4h idZ idZ;rw[Z0w rfl]at he;simp only[idZ]at he;refine A0m hB func28 ?_;simp -dsimp -implicitDefEqProofs[he];refine A0g func84 (C4R gl M) ?_;simp -dsimp -implicitDefEqProofs;refine A0g func84 (C4R gl M) ?_;simp -dsimp -implicitDefEqProofs;refine A0g func85 (D6K gl M) ?_;simp -dsimp -implicitDefEqProofs
def C1A(x:A1y)(M:Mem)(hp:∀p,x=.rep p->p.length<=1000000)(hu:∀u,x=.ins u->u.lims):A0e (WC gl) 243 [.agg x.row,.agg x.row] M (λv M'=>v=B true/\M'=M):=by
 cases x with
 |rep p=>have h1:=C1a gl p p .no .no M (hp p rfl);rw[Z0w rfl]at h1;have h2:=D5K gl M;refine A0m hB func243 ?_;simp -dsimp -implicitDefEqProofs[A1y.row];refine A0g func178 h1 ?_;simp -dsimp -implicitDefEqProofs;refine A0g func178 (B5i gl M) ?_;simp -dsimp -implicitDefEqProofs;refine A0g func326 (B4p gl M) ?_;simp -dsimp -implicitDefEqProofs;refine A0g func326 (B4p gl M) ?_;simp -dsimp -implicitDefEqProofs;refine A0g func28 h2 ?_;simp -dsimp -implicitDefEqProofs;refine A0g func327 (C0I gl M) ?_;simp -dsimp -implicitDefEqProofs
 |ins u=>have h2:=C5v gl u M (hu u rfl);rw[u.row_eq]at h2;refine A0m hB func243 ?_;simp -dsimp -implicitDefEqProofs[A1y.row];refine A0g func178 (B5i gl M) ?_;simp -dsimp -implicitDefEqProofs;refine A0g func178 (B5i gl M) ?_;simp -dsimp -implicitDefEqProofs;refine A0g func326 (B4p gl M) ?_;simp -dsimp -implicitDefEqProofs;refine A0g func326 (B4p gl M) ?_;simp -dsimp -implicitDefEqProofs;refine A0g func28 h2 ?_;simp -dsimp -implicitDefEqProofs;refine A0g func327 (C0I gl M) ?_;simp -dsimp -implicitDefEqProofs
end
def C9H{P:Program}{t kt et:TypeId}{k v:AV}{es:List (AV×AV×Nat)}{c:Nat}{M:Mem}(h1:A7m P t=some (kt,et))(h2:(A5I P kt||B4s P kt)=true)(h3:A4V P 30 kt k=true)(h4:A2I P kt k es=some none):A1o P t (M++[.map es c]) (.mapr M.length) k v=some (M++[.map (es++[(k,v,c)]) (c+1)]):=by
 have h:(M++[A0j.map es c])[M.length]?=some (.map es c):=by simp
 simp only[A1o,h1,h,h2,h3,Z3o,Z0F,h4]
 simp
def C3U{P:Program}{t kt et:TypeId}{k v:AV}{es:List (AV×AV×Nat)}{c b i:Nat}{M:Mem}(h0:M[b]?=some (.map es c))(h1:A7m P t=some (kt,et))(h2:(A5I P kt||B4s P kt)=true)(h3:A4V P 30 kt k=true)(h4:A2I P kt k es=some (some (i,v))):A1z P t M (.mapr b) k true=some (.tuple [v,.val (.bool true)]):=by simp only[A1z,h1,A4r,h0,h2,h3,Z3o,Z0F,h4]
def B3s{k:Int}{v:AV}{es:List (AV×AV×Nat)}{c:Nat}{M:Mem}(h4:A2I prog 3 (I k) es=some none):A1o prog 227 (M++[.map es c]) (.mapr M.length) (I k) v=some (M++[.map (es++[(I k,v,c)]) (c+1)]):=C9H (kt:=3) (et:=225) (by kernel_rfl) (by kernel_rfl) rfl h4
def A7k{k:Int}{v:AV}{es:List (AV×AV×Nat)}{c:Nat}{M:Mem}(h4:A2I prog 3 (I k) es=some none):A1o prog 262 (M++[.map es c]) (.mapr M.length) (I k) v=some (M++[.map (es++[(I k,v,c)]) (c+1)]):=C9H (kt:=3) (et:=260) (by kernel_rfl) (by kernel_rfl) rfl h4
def doE:List (AV×AV×Nat):=[(I 0,fnV 232,0),(I 1,fnV 233,1),(I 2,fnV 234,2),(I 3,fnV 235,3),(I 4,fnV 236,4),(I 5,fnV 237,5),(I 6,fnV 238,6)]
def rlV(a b:FuncId):AV:=.agg [fnV a,fnV b]
def ruE:List (AV×AV×Nat):=[(I 0,rlV 300 301,0),(I 1,rlV 304 305,1),(I 2,rlV 306 307,2),(I 3,rlV 310 311,3),(I 4,rlV 312 313,4),(I 5,rlV 314 315,5),(I 6,rlV 316 317,6),(I 7,rlV 444 445,7),(I 8,rlV 444 445,8),(I 9,rlV 444 445,9),(I 10,rlV 318 319,10),(I 11,rlV 321 322,11)]
def A4B{a b:FuncId}:A0D prog 260 [(0,fnV a),(1,fnV b)]=some (rlV a b):=by simp[A0D,A1k,A1E,A0d,AV.cells,AV.storable,rlV]
section
variable (gl:Nat->AV)
def B6k(M:Mem):A0e (WC gl) 189 [] M (λv M'=>v=.mapr M.length/\M'=M++[.map doE 7]):=by refine A0m hB func189 ?_;simp -dsimp -implicitDefEqProofs;rw[B3s (by kernel_rfl)];simp -dsimp -implicitDefEqProofs;rw[B3s (by kernel_rfl)];simp -dsimp -implicitDefEqProofs;rw[B3s (by kernel_rfl)];simp -dsimp -implicitDefEqProofs;rw[B3s (by kernel_rfl)];simp -dsimp -implicitDefEqProofs;rw[B3s (by kernel_rfl)];simp -dsimp -implicitDefEqProofs;rw[B3s (by kernel_rfl)];simp -dsimp -implicitDefEqProofs;rw[B3s (by kernel_rfl)];simp -dsimp -implicitDefEqProofs;rfl
def B5P(a:gl 3=.cptr [fnV 444,fnV 445])(M:Mem):A0e (WC gl) 239 [] M (λv M'=>v=.mapr M.length/\M'=M++[.map ruE 12]):=by
 have c:(WC gl).gl 3=.cptr [fnV 444,fnV 445]:=a;have b:A1d prog 260 [fnV 444,fnV 445]=some (rlV 444 445):=by kernel_rfl
 refine A0m hB func239 ?_;simp -dsimp -implicitDefEqProofs[A4B,a,b];rw[A7k (by kernel_rfl)];simp -dsimp -implicitDefEqProofs[A4B,a,b];rw[A7k (by kernel_rfl)];simp -dsimp -implicitDefEqProofs[A4B,a,b];rw[A7k (by kernel_rfl)];simp -dsimp -implicitDefEqProofs[A4B,a,b];rw[A7k (by kernel_rfl)];simp -dsimp -implicitDefEqProofs[A4B,a,b];rw[A7k (by kernel_rfl)];simp -dsimp -implicitDefEqProofs[A4B,a,b];rw[A7k (by kernel_rfl)];simp -dsimp -implicitDefEqProofs[A4B,a,b];rw[A7k (by kernel_rfl)];simp -dsimp -implicitDefEqProofs[A4B,a,b];rw[A7k (by kernel_rfl)];simp -dsimp -implicitDefEqProofs[A4B,a,b];rw[A7k (by kernel_rfl)];simp -dsimp -implicitDefEqProofs[A4B,a,b];rw[A7k (by kernel_rfl)];simp -dsimp -implicitDefEqProofs[A4B,a,b];rw[A7k (by kernel_rfl)];simp -dsimp -implicitDefEqProofs[A4B,a,b];rw[A7k (by kernel_rfl)];simp -dsimp -implicitDefEqProofs[A4B,a,b];rfl
end
end Go.Abs
