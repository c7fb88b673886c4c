/- The texts CfB, CeS, CeT, CbX2, CbX3, CeU, CeV, CeW. -/
import Derived.Test.YtmpdkagfplajjaaGreatDoorGG37
set_option linter.all false
namespace Go.Abs
open Go.Proofs TryTypes
section
def C7o{α β:Type}[DecidableEq β](f:α->β):∀{L:List α} {y:α},(L.map f).Nodup->y∈L->L.find? (λv=>decide (f v=f y))=some y
 |x::L,y,hn,hy=>by
  simp only[Z0s,Z1A]at hn;rw[Z3K];rcases Z0t.1 hy with rfl|hy
  .simp
  .have:f x≠f y:=λe=>hn.1 (e▸Z0G.2 ⟨y,hy,rfl⟩);rw[Z0y this];exact C7o f hn.2 hy
def D0P{u y:A0a}(hn:(A0T u).Nodup)(hy:y∈A5m u):A1i y.id u=some y:=by rw[B0a];exact C7o A0a.id (by rw[A6E];exact hn) hy
def C9x{x:IdD}{u:A0a}(h:x∉A0T u):A2A x u=[]:=by
 have h1:=A8x x u;cases hr:A2A x u with
 |nil=>rfl
 |cons r rs=>
  rw[hr]at h1;cases hl:(r::rs).getLast? with
  |none=>simp at hl
  |some v=>rw[hl]at h1;obtain⟨e1,e2⟩:=B1n h1;exact absurd (by rw[<-A6E,<-e1];exact Z0G.2 ⟨v,e2,rfl⟩) h
def B1Y{k:A0a}{x:IdD}(hx:x∈A0T k):∀{ks:List A0a},k∈ks->x∈A2a ks
 |b::bs,hk=>by
  rw[A2a];rcases Z0t.1 hk with rfl|hk
  .exact Z1K _ hx
  .exact Z2v _ (B1Y hx hk)
def B6q{x:IdD}:∀{ks:List A0a} {k:A0a},(A2a ks).Nodup->k∈ks->x∈A0T k->A2A x k≠[]->A4U x ks=A2A x k
 |a::ks,k,hn,hk,hx,hne=>by
  rw[A2a]at hn;obtain⟨n1,n2,n3⟩:=Z1J.1 hn;rw[A4U];rcases Z0t.1 hk with rfl|hk
  .cases hr:A2A x k with
   |nil=>exact absurd hr hne
   |cons r rs=>rfl
  ·(have:x∉A0T a:=λh=>by refine n3 x h x ?_ rfl;exact B1Y hx hk);rw[C9x this];exact B6q n2 hk hx hne
def C0e(u:A0a):u.id∈A0T u:=by obtain⟨a,b,c,d,e,f⟩:=u;rw[A0T];simp[A0a.id]
def B9R{k:A0a}:∀{ks:List A0a},(A2a ks).Nodup->k∈ks->(A0T k).Nodup
 |b::bs,hn,hk=>by
  rw[A2a]at hn;obtain⟨n1,n2,n3⟩:=Z1J.1 hn;rcases Z0t.1 hk with rfl|hk
  .exact n1
  .exact B9R n2 hk
def B0x{q:A0a}:∀{ks:List A0a},q∈A4Q ks->∃k∈ks,q∈A5m k
 |[],h=>by rw[A4Q]at h;simp at h
 |b::bs,h=>by
  rw[A4Q]at h;rcases Z0P.1 h with h|h
  .exact⟨b,by simp,h⟩
  .obtain⟨k,hk,hq⟩:=B0x h;exact⟨k,by simp[hk],hq⟩
def B0w(u:A0a):u∈A5m u:=by obtain⟨a,b,c,d,e,f⟩:=u;rw[A5m];simp
mutual
def C0C:∀(u v:A0a),v∈A5m u->∀k∈v.kids,k∈A5m u
 |.mk a b c d e ks,v,hv,k,hk=>by
  rw[A5m]at hv|-;rcases Z0t.1 hv with rfl|hv
  .exact Z1Y _ (A7K (B0w k) hk)
  .exact Z1Y _ (B5P ks v hv k hk)
def B5P:∀(ks:List A0a) (v:A0a),v∈A4Q ks->∀k∈v.kids,k∈A4Q ks
 |[],v,hv,_,_=>by rw[A4Q]at hv;simp at hv
 |a::ks,v,hv,k,hk=>by
  rw[A4Q]at hv|-;rcases Z0P.1 hv with hv|hv
  .exact Z1K _ (C0C a v hv k hk)
  .exact Z2v _ (B5P ks v hv k hk)
end
def B8s(y:A0a):A2A y.id y=[y]:=by obtain⟨a,b,c,d,e,f⟩:=y;rw[A2A];exact Z0d rfl
def C7d(y:A0a):∀(u q:A0a),(A0T u).Nodup->q∈A5m u->y∈q.kids->∃b,A2A y.id u=b++[q,y]
 |.mk id k l h w ks,q,hn,hq,hy=>by
  rw[A0T]at hn;rw[A5m]at hq;obtain⟨n1,n2⟩:=Z1A.1 hn;have f:y∈A4Q ks:=by
   rcases Z0t.1 hq with rfl|hq
   .exact A7K (B0w y) hy
   .exact B5P ks q hq y hy
  have g:id≠y.id:=λe=>n1 (by rw[e,<-B9D];exact Z0G.2 ⟨y,f,rfl⟩);rw[A2A,Z0c g];rcases Z0t.1 hq with rfl|hq
  .have hy:y∈ks:=hy;rw[B6q n2 hy (C0e y) (by rw[B8s];simp),B8s];exact⟨[],rfl⟩
  .obtain⟨c,hc,d⟩:=B0x hq;have:=A0a.kid_lt (u:=.mk id k l h w ks) hc;obtain⟨b,hp⟩:=C7d y c q (B9R n2 hc) d hy;(have i:y.id∈A0T c:=by rw[<-A6E];exact Z0G.2 ⟨y,C0C c q d y hy,rfl⟩);rw[B6q n2 hc i (by rw[hp];simp),hp];cases b with
   |nil=>exact⟨[_],rfl⟩
   |cons a b=>exact⟨_::a::b,rfl⟩
termination_by u=>SizeOf.sizeOf u
def E0k{u q y:A0a}(hn:(A0T u).Nodup)(hq:q∈A5m u)(hy:y∈q.kids):D8g y.id u=some q:=by obtain⟨a,hp⟩:=C7d y u q hn hq hy;rw[D8g,hp,show a++[q,y]=(a++[q])++[y]by simp,List.dropLast_concat];simp
def B2N(a:Int):∀(ts:List A4Z) (j:Nat),(∀t∈ts,A0j t.1=t.2.1.length)->(A4G a (ts.map (·.2.1)) j).map (·.2)=A2a (A1q a ts j)
 |[],j,_=>by rw[A1q,A2a];rfl
 |t::ts,j,h=>by rw[Z0s,A4G,A1q,A2a,Z0Q,B2N a ts (j+1) λq hq=>h q (by simp[hq]),A7a,h t (by simp)];congr 1;unfold B4f;rw[Z1s];have e:=List.zipIdx_map_snd 0 t.2.1;rw[<-e,Z1s];rfl
section
variable {u:A0a} {l:List A0C} {s:List A2m}
def B5z(u:A0a)(l:List A0C)(s:List A2m)(number:Int)(x:IdD):IdD:=(A1V (A7Q number u (A2o (λy=>A1i y u) l s)) x).getD idZ
def C7C(hS:A7D u l)(a:Int):((A7Q a u (A2o (λy=>A1i y u) l s)).map (·.1)).Nodup:=by rw[B3Y];exact(B2U (s:=s) hS).1
def B7p(hS:A7D u l):∀t∈A2o (λy=>A1i y u) l s,A0j t.1=t.2.1.length:=by intro t ht;obtain⟨n,hn,rfl⟩:=Z0G.1 ht;exact B2o hS.ord l.length n (A7A hn) (by omega)
def D1Z(hS:A7D u l)(a:Int):(A7Q a u (A2o (λy=>A1i y u) l s)).map (·.2)=A2a (A1q a (A2o (λy=>A1i y u) l s) u.kids.length):=B2N a _ _ (B7p hS)
def C6s(hS:A7D u l)(a:Int){x:IdD}(hx:x∈(A0T u).tail):(x,B5z u l s a x)∈A7Q a u (A2o (λy=>A1i y u) l s):=by have h1:=((B2U (s:=s) hS).2 x).2 hx;rw[<-B3Y (u:=u) a]at h1;obtain⟨y,hy,rfl⟩:=Z0G.1 h1;have:=B9d _ (C7C hS a) y hy;rw[B5z,this];exact hy
def C1V{α β:Type}(f:α->β):∀{L:List α} {a b:α},(L.map f).Nodup->a∈L->b∈L->f a=f b->a=b
 |x::L,a,b,hn,ha,hb,e=>by
  simp only[Z0s,Z1A]at hn;rcases Z0t.1 ha with h1|h1<;>rcases Z0t.1 hb with h2|h2
  .rw[h1,h2]
  .rw[h1]at e;exact absurd (Z0G.2 ⟨b,h2,e.symm⟩) hn.1
  .rw[h2]at e;exact absurd (Z0G.2 ⟨a,h1,e⟩) hn.1
  .exact C1V f hn.2 h1 h2 e
def D5E(hS:A7D u l)(a:Int){x y:IdD}(hx:x∈(A0T u).tail)(hy:y∈(A0T u).tail)(e:B5z u l s a x=B5z u l s a y):x=y:=by
 have h1:=C6s (s:=s) hS a hx;have h2:=C6s (s:=s) hS a hy;have hn:((A7Q a u (A2o (λy=>A1i y u) l s)).map (·.2)).Nodup:=by rw[D1Z hS];exact(A8W a _ _).1
 have:=C1V (λq:IdD×IdD=>q.2) hn h1 h2 e;simpa using congrArg Prod.fst this
def D0g(hS:A7D u l)(a:Int):A5F a u (A2o (λy=>A1i y u) l s)=(A0T u).tail.map λx=>(x,B5z u l s a x):=C0O hS a
def B5u(hS:A7D u l)(a:Int):A0j (A3x u a (A2o (λy=>A1i y u) l s))=l.length+1:=by
 have h1:∀ts:List A4Z,(∀t∈ts,A0j t.1=t.2.1.length)->A0f (ts.map (·.1))=(ts.flatMap (·.2.1)).length:=by
  intro ts;induction ts with
  |nil=>intro _;rfl
  |cons t ts ih=>intro h;rw[Z0s,A0f,Z0W,Z0r,ih λq hq=>h q (by simp[hq]),h t (by simp)]
 have hp:∀j,j<l.length->-1<=A2t l j/\A2t l j<j:=λj hj=>by have:=hS.ord j hj j hj (Z0n _);simpa[A2t,hj]using this
 obtain⟨h2,h3⟩:=B7h (par:=λk=>A2t l k) (N:=l.length) hp;have hl:(B0J (λk=>A2t l k) l.length).length=l.length:=by have e1:=Z3M h2 (l₂:=List.range l.length) λx hx=>Z1q.2 ((h3 x).1 hx);have e2:=Z3M List.nodup_range (l₂:=B0J (λk=>A2t l k) l.length) λx hx=>(h3 x).2 (Z1q.1 hx);simp at e1 e2;omega
 rw[A3x,A0j,A5M,h1 _ (B7p hS),C2w,Z0K,hl];omega
end
end
set_option maxRecDepth 100000
open Go.Proofs TryTypes Tryz
def D1I{u k:A0a}{ks:List A0a}(hk:u.kids=k::ks)(hn:(A0T u).Nodup):D8t k.id u=.tuple [.agg u.id.row,I 0,B true]:=by
 have h1:=E0k (u:=u) (q:=u) (y:=k) hn (B0w u) (by rw[hk];simp);have h2:A1i k.id k=some k:=by obtain⟨a,b,c,d,e,f⟩:=k;rw[A1i];exact Z0d rfl
 rw[D8t,h1];simp only[hk,A3S,h2,Z3r,Z0M];rfl
def enR(number:Int)(i:Nat)(day:Int)(it:A1L):List AV:=[I number,I i,I day]++it.row
@[simp] def D7N(a:Int)(i:Nat)(b:Int)(it:A1L):(enR a i b it).length=28:=by simp[enR]
section
variable (gl:Nat->AV)
def C1q(u k:A0a)(ks:List A0a)(M:Mem)(hk:u.kids=k::ks)(hf:Fit u)(hn:(A0T u).Nodup):A0c (WC gl) 291 [.agg u.row,.agg k.id.row] M (λv M'=>v=.agg (A8l u ks).row/\M'=M):=by
 refine A0c.dataX ?_;have hx:k.id.row=[I k.id.act,I k.id.item,I k.id.n]:=rfl;have j:u.id.row=[I u.id.act,I u.id.item,I u.id.n]:=rfl;have q:=A1Q u.kids;have s:A0f u.kids<A0j u:=by obtain⟨a,b,c,d,e,f⟩:=u;rw[A0j];show A0f f<_;omega
 have r:=hf.2.2;have l:ks.length<=1000:=by have:=congrArg List.length hk;rw[Z0x]at this;omega
 obtain⟨b,hb⟩:∃b,b=M.length:=⟨_,rfl⟩;obtain⟨M1,i⟩:∃M1,M1=M++[z8]:=⟨_,rfl⟩;have h1:M1[b]?=some z8:=by rw[i,hb];simp
 have p:Grow M M1:=by rw[i];exact A0d.app none _ _
 have g:=D3s gl u k.id M1 hf;rw[D1I hk hn,hx,j]at g;obtain⟨M2,h⟩:∃M2,M2=M1++[A0p.cells 23 [I u.id.act,I u.id.item,I u.id.n],A0p.cells 3 [I 0]]:=⟨_,rfl⟩;have hq:M2[M1.length+1]?=some (A0p.cells 3 [I 0]):=by rw[h];simp[Z0Z]
 have hp:M2[M1.length]?=some (A0p.cells 23 [I u.id.act,I u.id.item,I u.id.n]):=by rw[h];simp
 have m:Grow M1 M2:=by rw[h];exact A0d.app none _ _
 have hw:=B9G gl u 359 [.ptr (M1.length+1) 0] ks M2 hf (E4p gl u k ks hk l _ M2 hq);rw[j]at hw;have h2:=m.get h1 (by simp);have o:b<M2.length:=(Z0a.1 h2).1;rw[u.row_eq]at g hw;rw[u.row_eq,hx];refine A0o hB func291 ?_;simp -dsimp -implicitDefEqProofs[A0l];rw[<-i,<-hb];refine A0i func34 g ?_;simp -dsimp -implicitDefEqProofs[A0l,A0m,A0e,A0K,A0I];rw[<-h];simp -dsimp -implicitDefEqProofs[A0b hp];refine A0i func288 hw ?_;simp -dsimp -implicitDefEqProofs[A0h h2,A0K,A0I,A0z o,A0k];exact⟨A1o (p.trans m) (by omega),.same (by simp only[bdd];exact A2U _ _) .nil⟩
def C4Q(u k:A0a)(ks:List A0a)(d:List AV)(M:Mem)(hk:u.kids=k::ks)(hf:Fit u)(hn:(A0T u).Nodup):A0c (WC gl) 233 [.agg u.row,.agg k.row,.agg d] M (λv M'=>v=.tuple [.agg (A8l u ks).row,I 0]/\M'=M):=by
 refine A0c.dataX ?_;have hx:k.id.row=[I k.id.act,I k.id.item,I k.id.n]:=rfl;obtain⟨b,hb⟩:∃b,b=M.length:=⟨_,rfl⟩;obtain⟨M1,a⟩:∃M1,M1=M++[z8]:=⟨_,rfl⟩;have h1:M1[b]?=some z8:=by rw[a,hb];simp
 have e:Grow M M1:=by rw[a];exact A0d.app none _ _
 have c:b<M1.length:=(Z0a.1 h1).1;have hw:=C1q gl u k ks M1 hk hf hn;rw[hx]at hw;rw[u.row_eq]at hw|-;rw[k.row_eq];refine A0o hB func233 ?_;simp -dsimp -implicitDefEqProofs[A0l];rw[<-a,<-hb];refine A0i func291 hw ?_;simp -dsimp -implicitDefEqProofs[A0h h1,A0K,A0I,A0z c,A0k];exact⟨A1o e (by omega),.tuple (.same (by simp only[bdd];exact A2U _ _) (.same trivial .nil)) .nil⟩
end
abbrev fnV(g:FuncId):AV:=.func (.func g) [] []
def C4J:List AV:=[fnV 399,fnV 402,fnV 404,fnV 406]
def B5k(x:IdD)(n:Nat):List AV:=[I x.act,I x.item,I x.n,I n]
abbrev z4:A0p:=.cells 335 [I 0,I 0,I 0,I 0]
def C6A:A0w prog 366 [(0,fnV 399),(1,fnV 402),(2,fnV 404),(3,fnV 406)]=none:=by kernel_rfl
def E0G:B4A prog 366 [(0,fnV 399),(1,fnV 402),(2,fnV 404),(3,fnV 406)]=some (.agg C4J):=by kernel_rfl
section
variable (gl:Nat->AV)
def C2e(M:Mem):A0c (WC gl) 240 [A0x] M (λv M'=>v=B true/\M'=M):=by
 refine A0o hB func240 ?_;simp -dsimp -implicitDefEqProofs;refine A0y hB 0 7 (λT M1=>T 0=A0x/\T 5=A0x/\T 6=I 0/\T 7=I 0/\M1=M) ?_ ?_
 .exact⟨by simp,by simp,by simp,by simp,rfl⟩
 rintro T M1 ⟨t0,t5,t6,t7,rfl⟩;simp -dsimp -implicitDefEqProofs[t0,t5,t6,t7]
def D1b(u:A0a)(M:Mem):A0c (WC gl) 328 [.agg u.row,A0x] M (λv M'=>v=.list 8 (A0q [u]) .no/\M'=M):=by
 refine A0c.dataX ?_;have hv:=λM=>C2e gl M;have a:A0q [u]=[u.row]:=by rw[A0q,A0q]
 have hb:=C2q M.length [u];rw[a]at hb|-;rw[u.row_eq]at hb|-;refine A0o (hQ [58]) func328 ?_;simp -dsimp -implicitDefEqProofs;refine A0i func240 (hv M) ?_;simp -dsimp -implicitDefEqProofs[A0l,A0n,A0W,AV.storable,AV.cells];exact⟨A0d.app none _ _,.dis hb .nil⟩
def C5S(M:Mem):A0c (WC gl) 384 [] M (λv M'=>v=.agg C4J/\M'=M):=by
 refine A0c.dataX ?_;obtain⟨M1,a⟩:∃M1,M1=M++[A0p.cells 366 [.val .nilFunc,.val .nilFunc,.val .nilFunc,.val .nilFunc]]:=⟨_,rfl⟩;have h1:M1[M.length]?=some (A0p.cells 366 [.val .nilFunc,.val .nilFunc,.val .nilFunc,.val .nilFunc]):=by rw[a];simp
 have c:M.length<M1.length:=(Z0a.1 h1).1;have b:Grow M M1:=by rw[a];exact A0d.app none _ _
 refine A0o hB func384 ?_;simp -dsimp -implicitDefEqProofs[A0l,C6A];rw[<-a];simp -dsimp -implicitDefEqProofs[A0Q,A0E,A1u,A1p,A0Y,C6A,E0G,A0h h1,A0K,A0I,C4J,A0z c,A0k];exact⟨A1o b (Z0n _),.same (by simp[bdd,A1Y]) .nil⟩
def C8B(u:A0a)(M:Mem)(hf:Fit u):A0c (WC gl) 400 [.agg u.row,.agg u.id.row,fnV 403] M (λv M'=>v=.tuple [.agg (B5k u.id u.kids.length),I 0]/\M'=M):=by
 refine A0c.dataX ?_;have hx:u.id.row=[I u.id.act,I u.id.item,I u.id.n]:=rfl;have p:A1i u.id u=some u:=by obtain⟨a,b,c,d,e,f⟩:=u;rw[A1i];exact Z0d rfl
 obtain⟨b,hb⟩:∃b,b=M.length:=⟨_,rfl⟩;obtain⟨M1,h⟩:∃M1,M1=M++[z4]:=⟨_,rfl⟩;have h1:M1[b]?=some z4:=by rw[h,hb];simp
 have o:Grow M M1:=by rw[h];exact A0d.app none _ _
 have i:=B7T gl u u.id M1 hf;rw[p,hx]at i;obtain⟨M2,g⟩:∃M2,M2=M1++[A0p.cells 27 u.row]:=⟨_,rfl⟩;have hp:M2[M1.length]?=some (A0p.cells 27 [I u.id.act,I u.id.item,I u.id.n,I u.kind,S u.label,.list 4 (A0g u.head) .no,.list 4 (A0g u.words) .no,.list 8 (A0q u.kids) .no]):=by rw[g,u.row_eq];simp
 have j:Grow M1 M2:=by rw[g];exact A0d.app none _ _
 have h2:=j.get h1 (by simp);have l:b<M2.length:=(Z0a.1 h2).1;have m:A0w prog 335 [(0,.agg [I u.id.act,I u.id.item,I u.id.n]),(1,I u.kids.length)]=some (.agg (B5k u.id u.kids.length)):=by simp[A0w,A1e,A1r,A0e,AV.cells,AV.storable,B5k]
 rw[hx];rw[u.row_eq]at i g|-;refine A0o hB func400 ?_;simp -dsimp -implicitDefEqProofs[A0l];rw[<-h,<-hb];refine A0i func32 i ?_;simp -dsimp -implicitDefEqProofs[A0l,A2p,u.row_eq,A0m,A0e,A0K,A0I];rw[<-g];refine A0X hB (A0t gl) (λk=>if k=3 then 1 else if k=7 then 2 else 0) (λ_=>M1.length) (by rfl) (by kernel_rfl) ?_;simp -dsimp -implicitDefEqProofs[A0b hp,A1a,A5n];refine A1G func403 (λM=>D4a gl M u.kids.length) ?_;simp -dsimp -implicitDefEqProofs[m,A0h h2,B5k,A0K,A0I,A0z l,A0k];exact⟨A1o (o.trans j) (by omega),.same (by simp[bdd,A1Y]) .nil⟩
def C8p(u:A0a)(M:Mem)(hf:Fit u):A0c (WC gl) 402 [.agg u.row,.agg u.id.row] M (λv M'=>v=.tuple [.agg (B5k u.id u.kids.length),I 0]/\M'=M):=by
 refine A0c.dataX ?_;have hx:u.id.row=[I u.id.act,I u.id.item,I u.id.n]:=rfl;obtain⟨b,hb⟩:∃b,b=M.length:=⟨_,rfl⟩;obtain⟨M1,c⟩:∃M1,M1=M++[z4]:=⟨_,rfl⟩;have h1:M1[b]?=some z4:=by rw[c,hb];simp
 have e:Grow M M1:=by rw[c];exact A0d.app none _ _
 have d:b<M1.length:=(Z0a.1 h1).1;have a:=C8B gl u M1 hf;rw[hx]at a|-;rw[u.row_eq]at a|-;refine A0o hB func402 ?_;simp -dsimp -implicitDefEqProofs[A0l];rw[<-c,<-hb];refine A0i func400 a ?_;simp -dsimp -implicitDefEqProofs[A0h h1,B5k,A0K,A0I,A0z d,A0k];exact⟨A1o e (by omega),.same (by simp[bdd,A1Y]) .nil⟩
def C6e(u:A0a)(M:Mem)(hf:Fit u):A0c (WC gl) 350 [.agg u.row,A0x,I 1] M (λv M'=>v=.tuple [.agg u.id.row,I u.kids.length,I 0]/\M'=M):=by
 refine A0c.dataX ?_;have hx:u.id.row=[I u.id.act,I u.id.item,I u.id.n]:=rfl;obtain⟨b,hb⟩:∃b,b=M.length:=⟨_,rfl⟩;obtain⟨M1,e⟩:∃M1,M1=M++[A0p.cells 23 [I 0,I 0,I 0]]:=⟨_,rfl⟩;have h1:M1[b]?=some (A0p.cells 23 [I 0,I 0,I 0]):=by rw[e,hb];simp
 have p:Grow M M1:=by rw[e];exact A0d.app none _ _
 have f:=B3B gl u u A0x M1 (λM=>D1b gl u M);obtain⟨M2,c⟩:∃M2,M2=M1++[A0p.cells 23 [I u.id.act,I u.id.item,I u.id.n]]:=⟨_,rfl⟩;have hp:M2[M1.length]?=some (A0p.cells 23 [I u.id.act,I u.id.item,I u.id.n]):=by rw[c];simp
 have g:Grow M1 M2:=by rw[c];exact A0d.app none _ _
 have a:=λM=>C8p gl u M hf;obtain⟨M3,d⟩:∃M3,M3=M2++[A0p.cells 335 (B5k u.id u.kids.length)]:=⟨_,rfl⟩;have hq:M3[M2.length]?=some (A0p.cells 335 [I u.id.act,I u.id.item,I u.id.n,I u.kids.length]):=by rw[d];simp[B5k]
 have i:Grow M2 M3:=by rw[d];exact A0d.app none _ _
 have h3:=i.get (g.get h1 (by simp)) (by simp);have m:b<M3.length:=(Z0a.1 h3).1;have j:C8I prog (some (.array 4 365)) (.agg C4J) (I 1)=some (fnV 402):=by kernel_rfl
 rw[hx]at f a|-;rw[u.row_eq]at f a|-;refine A0o hB func350 ?_;simp -dsimp -implicitDefEqProofs[A0l];rw[<-e,<-hb];refine A0i func351 (C1w gl M1 1) ?_;simp -dsimp -implicitDefEqProofs;refine A0i func191 f ?_;simp -dsimp -implicitDefEqProofs[A0l,A0m,A0e,A0K,A0I];rw[<-c];have h:M1.length<M2.length:=(Z0a.1 hp).1;have l:∀X,(M2++[A0p.cells 335 X])[M1.length]?=M2[M1.length]?:=λX=>by rw[Z0h h]
 refine A5r hB (A0t gl) (λk=>if k=4 then 1 else if k=9\/k=10 then 2 else 0) (λ_=>M1.length) (λ_=>false) [M1.length] (by intros;simp) (by rfl) (by kernel_rfl) ?_;simp -dsimp -implicitDefEqProofs;refine A1G func384 (λM=>C5S gl M) ?_;simp -dsimp -implicitDefEqProofs[j,A0b hp,A1a,A5n];refine A1G func402 a ?_;simp -dsimp -implicitDefEqProofs[A0l,A0m,A0e,A0K,A0I,B5k,l];rw[show M2++[A0p.cells 335 [I u.id.act,I u.id.item,I u.id.n,I u.kids.length]]=M3 by rw[d];rfl];have q:b<M2.length:=(Z0a.1 (g.get h1 (by simp))).1;have o:∀X,(M3.set b X)[M2.length]?=M3[M2.length]?:=λX=>Z0e (by omega);refine A5r hB (A0t gl) (λk=>if k=1\/k=3 then 1 else if k=4 then 2 else 0) (λ_=>M2.length) (λ_=>false) [M2.length] (by intros;simp) (by rfl) (by kernel_rfl) ?_;simp -dsimp -implicitDefEqProofs[A0b hq,A1a,A5n,o,A0h h3,A0K,A0I,A0z m,A0k];exact⟨A1o ((p.trans g).trans i) (by omega),.same (by simp[bdd,A1Y]) .nil⟩
def C8v(u x:A0a)(M:Mem)(hf:Fit u):A0c (WC gl) 282 [.agg u.row,.agg (A1L.ins x).row] M (λv M'=>v=.tuple [.agg u.id.row,I u.kids.length,I 0]/\M'=M):=by
 refine A0c.dataX ?_;have hx:u.id.row=[I u.id.act,I u.id.item,I u.id.n]:=rfl;obtain⟨b,hb⟩:∃b,b=M.length:=⟨_,rfl⟩;obtain⟨M1,a⟩:∃M1,M1=M++[A0p.cells 23 [I 0,I 0,I 0]]:=⟨_,rfl⟩;have h1:M1[b]?=some (A0p.cells 23 [I 0,I 0,I 0]):=by rw[a,hb];simp
 have e:Grow M M1:=by rw[a];exact A0d.app none _ _
 have d:b<M1.length:=(Z0a.1 h1).1;have c:=C6e gl u M1 hf;rw[hx]at c|-;rw[u.row_eq]at c|-;refine A0o hB func282 ?_;simp -dsimp -implicitDefEqProofs[A0l,A1L.row];rw[<-a,<-hb];refine A0i func350 c ?_;simp -dsimp -implicitDefEqProofs[A0h h1,A0K,A0I,A0z d,A0k];exact⟨A1o e (by omega),.same (by simp[bdd,A1Y]) .nil⟩
end
section
variable (gl:Nat->AV)
def D6n(x:IdD)(n:Int)(M:Mem):A0c (WC gl) 69 [.agg x.row,.cptr [I n]] M (λv M'=>v=B (decide (x.act=n))/\M'=M):=by refine A0o hB func69 ?_;simp -dsimp -implicitDefEqProofs[IdD.row];rfl
def D7o(s:List IdD)(o:Own)(n:Int)(M:Mem)(hl:s.length<=1000):A0c (WC gl) 123 [.list 3 (A4C s) o,.func (.func 69) [] [.cptr [I n]]] M (λv M'=>v=I (A3S (λx:IdD=>decide (x.act=n)) s 0)/\M'=M):=by
 refine A0o hB func123 ?_;simp -dsimp -implicitDefEqProofs;refine A0y hB s.length 8 (λT M1=>∃i:Nat,M1=M/\i<=s.length/\T 0=.list 3 (A4C s) o/\T 1=.func (.func 69) [] [.cptr [I n]]/\T 7=I s.length/\T 8=I i/\A3S (λx:IdD=>decide (x.act=n)) s 0=A3S (λx:IdD=>decide (x.act=n)) (s.drop i) i) ?_ ?_
 .exact⟨0,rfl,by omega,by simp,by simp,by simp,by simp,by simp⟩
 rintro T M1 ⟨i,rfl,h1,t0,t1,t7,t8,h2⟩;by_cases hi:i<s.length
 .have a:(i:Int)<s.length:=by omega
  have w1:=A1E (i:=i) (by omega);have h3:=C3x hi h2;have hm:=D6n gl s[i] n M1;simp only[IdD.row]at hm;simp -dsimp -implicitDefEqProofs[t0,t1,t7,t8,hi,a,IdD.row];refine A0i func69 hm ?_;by_cases c:s[i].act=n
  .rw[Z0d (by simpa using c)]at h3;simp -dsimp -implicitDefEqProofs[t0,t1,t7,t8,Z0v c,c,h3]
  .rw[Z0c (by simpa using c)]at h3;simp -dsimp -implicitDefEqProofs[t0,t1,t7,t8,Z0y c,c,w1];exact⟨⟨i+1,by clear w1;omega,rfl,h3⟩,by clear w1;omega⟩
 .have a:¬(i:Int)<s.length:=by omega
  rw[Z0o (by omega)]at h2;simp -dsimp -implicitDefEqProofs[t0,t1,t7,t8,a,h2,A3S]
def C2i(s:List IdD)(o:Own)(n:Int)(M:Mem)(hl:s.length<=1000):A0c (WC gl) 68 [.list 3 (A4C s) o,.func (.func 69) [] [.cptr [I n]]] M (λv M'=>v=B (s.any λx=>decide (x.act=n))/\M'=M):=by refine A0o hB func68 ?_;have he:=A8H (λx:IdD=>decide (x.act=n)) s 0;simp -dsimp -implicitDefEqProofs;refine A0i func123 (D7o gl s o n M hl) ?_;generalize A3S (λx:IdD=>decide (x.act=n)) s 0=k at*;simp -dsimp -implicitDefEqProofs[<-he]
end
abbrev D2q:A0p:=.cells 49 [I 0,eS,I 0,I 0,I 0,eS,A0x]
abbrev C4L(number day:Int)(iv:AV):A0p:=.cells 49 [I number,S A9K,I day,I 1,I day,eS,iv]
def A6q:A0w prog 49 []=some B0F:=by simp[A0w,A1e,B0F]
def C9f{d}:A0w prog 46 [(0,I 1),(1,I d)]=some (.agg [I 1,I d,eS]):=by simp[A0w,A1e,A1r,A0e,AV.cells,AV.storable]
def C9i{n d}:A0w prog 49 [(0,I n),(1,S ⟨#[99,111,100,105,102,105,99,97,116,105,111,110]⟩),(2,I d),(3,.agg [I 1,I d,eS])]=some (.agg [I n,S A9K,I d,I 1,I d,eS,A0x]):=by simp[A0w,A1e,A1r,A0e,AV.cells,AV.storable,A9K]
def C9c{p}:A0w prog 128 [(0,I 1),(1,A9r p)]=some (.agg (A1L.rep p).row):=by simp[A0w,A1e,A1r,A0e,AV.cells,AV.storable,A1L.row]
def C8Z{x}:A0w prog 128 [(0,I 0),(3,I 1),(5,.agg x.row)]=some (.agg (A1L.ins x).row):=by rw[x.row_eq];simp[A0w,A1e,A1r,A0e,AV.cells,AV.storable,A1L.row]
def C5D{a b c}:A0w prog 23 [(0,I a),(1,I b),(2,I c)]=some (.agg [I a,I b,I c]):=by simp[A0w,A1e,A1r,A0e,AV.cells,AV.storable]
def D8c:A8O prog 23=some (.agg [I 0,I 0,I 0]):=by kernel_rfl
def D6s(n:Nat)(x:A1L):A1Y n x.row:=by
 cases x with
 |rep p=>have:=B4q n p;simp[A1L.row,A1Y,bdd]at this|-;exact this
 |ins u=>have:=A2U n u;rw[u.row_eq]at this;simp[A1L.row,A1Y,bdd]at this|-;exact this
def D0n{x y}:A0w prog 79 [(0,.agg [I x.act,I x.item,I x.n]),(1,.agg [I y.act,I y.item,I y.n])]=some (.agg (A5b (x,y))):=by simp[A0w,A1e,A1r,A0e,AV.cells,AV.storable,A5b]
def A5e(number:Int)(s:List A2m)(u:A0a)(io:Own)(r p q:Nat)(T:Env):Prop:=T 2=.list 5 (A4g s) .no/\T 5=.cptr [I u.id.act,I u.id.item,I u.id.n,I u.kind,S u.label,.list 4 (A0g u.head) .no,.list 4 (A0g u.words) .no,.list 8 (A0q u.kids) .no]/\T 8=.cptr [I number]/\T 10=.ptr r 0/\T 13=.ptr p 0/\T 15=.list 3 (A4C (A0T u).tail) io/\T 16=.ptr q 0
def A6a(number day:Int)(q:Nat)(Mc M:Mem)(items:List A1L):Prop:=A1c q Mc M/\∃iv,M[q]?=some (C4L number day iv)/\Fm 25 A1L.row (q+1) M iv items
def A6a.app{number day}{q}{Mc M}{items}(h:A6a number day q Mc M items)(hq:q<Mc.length)(X:Mem):A6a number day q Mc (M++X) items:=by obtain⟨h1,iv,h2,h3⟩:=h;have hk:Grow M (M++X):=A0d.app none M X;exact⟨h1.trans (hk.low (n:=q) (by have:=h1.1;omega) (by simp)),iv,hk.get h2 (by simp),h3.keep hk⟩
def A6a.push{number day}{q}{Mc M M'}{iv v'}{items items'}(hk:A1c q Mc M)(ho:M[q]?=some (C4L number day iv))(hf:Fm 25 A1L.row (q+1) M iv items)
 (k1:B0k 25 A1L.row M' v' items')(k2:A0d (A7F iv) M M')(k3:A7F v'=A7F iv\/∀f,A7F v'=some f->M.length<=f):
 A0m (some 1) M' (.ptr q 6) v'=some (M'.set q (C4L number day v'))/\A6a number day q Mc (M'.set q (C4L number day v')) items':=by
 have hl:q+1<=M.length:=(Z0a.1 ho).1
 have a:=hf.cells k2 ho
 have b:=hf.push hl k1 k3
 have c:q<M'.length:=(Z0a.1 a).1
 refine⟨by rw[A0h a,k1.cells,Z0d ⟨k1.store,by simp,rfl⟩];rfl,(hk.trans ((hf.low hl k2).le (by omega))).setq (Z0n _),v',by simp[c],b.setq (by omega)⟩
def C4K{K V:Type}{d:K->AV}{a:V->AV}{α:Type}{sz n}{enc:α->List AV}{M M'}{v}{items}{b}{L}(h:A2i d a M b L)(hf:Fm sz enc n M v items)(hk:A0d (A7F v) M M'):A2i d a M' b L:=by
 refine h.keep hk λe=>?_;obtain⟨es,c,h1,_⟩:=h;rcases hf.fam with⟨rfl,_⟩|rfl|⟨f,rfl,hm⟩
 .simp at e
 .simp at e
 .simp only[C7e,Z0b]at e;subst e;rw[hm]at h1;simp at h1
section
variable (gl:Nat->AV)
def B3N(u:A0a)(M:Mem)(hg:u.good)(hc:A0j u<=1000):A0c (WC gl) 67 [.agg u.row] M (λv M'=>v=.list 3 (A4C (A0T u)) .no/\M'=M):=A0c.still (enc:=IdD.row) (λ_=>rfl) C9h (D5C gl u M hg hc)
set_option maxHeartbeats 1000000 in
def D5M(d5:gl 0=A2h)(da:gl 1=A2s)(u:A0a)(l:List A0C)(s:List A2m)(g a7:Int)(M:Mem)(ag:Fit u)(hl:l.length<=1000)(cr:∀s∈l,s.good)(hs:s.length<=1000)(ht:∀m∈s,m.to.length<=40):A0c (WC gl) 20 [.agg u.row,.list 5 (A1U l) .no,.list 5 (A4g s) .no,I g,I a7] M (λv M'=>v=D8K u l s g a7/\M'=M):=by
 refine A0c.dataX ?_
 obtain⟨F,hF⟩:∃F,F=λx=>A1i x u:=⟨_,rfl⟩
 obtain⟨A,hA⟩:∃A,A=D8K u l s g a7:=⟨_,rfl⟩
 rw[<-hA]
 obtain⟨r,hr⟩:∃r,r=M.length:=⟨_,rfl⟩
 have e6:∀e,bdd r (A5N e):=λe=>by simp[A5N,B0F,bdd,A1Y]
 obtain⟨Ma,bz⟩:∃Ma,Ma=M++[D2q]:=⟨_,rfl⟩
 have cn:Grow M Ma:=by rw[bz];exact A0d.app none _ _
 have c0:Ma[r]?=some D2q:=by rw[bz,hr];simp
 have ap:=C5o gl d5 da F u hF l Ma ag hl cr
 obtain⟨R,hR⟩:∃R,R=A6i F u l:=⟨_,rfl⟩
 rw[<-hR]at ap
 have bq:=u.row_eq
 rw[bq]at ap|-
 have ac:A=if R≠0 then A5N R else if C3O g a7=true then A5N 1
  else if((A0T u).tail.any λx=>decide (x.act=g))=true then A5N 5
  else if C4a u (A2o F l s)≠0 then A5N (C4a u (A2o F l s))
  else .tuple [C7M g a7 (A2E u++A3j (A2o F l s)),.list 6 ((A5F g u (A2o F l s)).map A5b) .no,I 0]:=by rw[hA,hR,hF];rfl
 have ad:∀(M5:Mem) e,Grow Ma M5->A=A5N e->r<M5.length/\(Grow M (M5.set r D2q)/\Still (M5.set r D2q) r (bdd r) [A5N e] [A]):=λM5 e h he=>by have h1:=h.get c0 (by simp);refine⟨(Z0a.1 h1).1,⟨by simpa using(cn.trans h).1,λj hj _=>by rw[Z0e (by omega)];exact(cn.trans h).2 j hj (by simp)⟩,?_⟩;rw[he];exact .same (e6 e) .nil
 have ah:∀M5:Mem,Grow Ma M5->A0m (some 7) M5 (.ptr r 0) B0F=some (M5.set r D2q):=λM5 h=>by rw[A0h (h.get c0 (by simp))];simp[B0F,AV.storable,AV.cells,A0e]
 refine A0o hB func20 ?_
 simp -dsimp -implicitDefEqProofs[A0l]
 rw[<-bz,<-hr]
 clear bz
 refine A0s func47 ap ?_
 rintro _ M1 ⟨⟨pr,rfl,dj,ed⟩,cd⟩
 obtain⟨M2,au⟩:∃M2,M2=M1++[A0p.cells 96 pr]:=⟨_,rfl⟩
 have ab:Grow Ma M2:=by rw[au];exact cd.trans (A0d.app none _ _)
 obtain⟨p,hp⟩:∃p,p=M1.length:=⟨_,rfl⟩
 have dl:M2[p]?=some (.cells 96 pr):=by rw[au,hp];simp
 obtain⟨y0,y1,y2,y3,rfl⟩:∃a b c d,pr=[a,b,c,d]:=by
  match pr,dj with
  |[a,b,c,d],_=>exact⟨a,b,c,d,rfl⟩
 by_cases hR0:R=0
 case neg=>rw[Z0d hR0]at ac;simp -dsimp -implicitDefEqProofs[A0l,A0m,A0e,AV.storable,AV.cells];rw[<-au];obtain⟨q1,q2⟩:=ad M2 R ab ac;simp -dsimp -implicitDefEqProofs[hR0,A6q,ah M2 ab,A0z,q1];exact q2
 rw[Z0c (by simpa using hR0)]at ac
 subst hR0
 by_cases a1:g<1
 .have af:A=A5N 1:=by rw[ac,Z0d (by simp[C3O,a1])]
  have bc:¬1<=g:=by omega
  obtain⟨q1,q2⟩:=ad M2 1 ab af;simp -dsimp -implicitDefEqProofs[A0l,A0m,A0e,AV.storable,AV.cells];rw[<-au];simp -dsimp -implicitDefEqProofs[a1,bc,A6q,ah M2 ab,A0z,q1];exact q2
 have bc:1<=g:=by omega
 by_cases a2:1048576<g
 .have af:A=A5N 1:=by rw[ac,Z0d (by simp[C3O,a2])]
  have bd:g>1048576:=a2;obtain⟨q1,q2⟩:=ad M2 1 ab af;simp -dsimp -implicitDefEqProofs[A0l,A0m,A0e,AV.storable,AV.cells];rw[<-au];simp -dsimp -implicitDefEqProofs[a1,bc,a2,bd,A6q,ah M2 ab,A0z,q1];exact q2
 have bd:¬g>1048576:=a2
 by_cases a3:a7<0
 .have af:A=A5N 1:=by rw[ac,Z0d (by simp[C3O,a3])]
  have c6:¬0<=a7:=by omega
  obtain⟨q1,q2⟩:=ad M2 1 ab af;simp -dsimp -implicitDefEqProofs[A0l,A0m,A0e,AV.storable,AV.cells];rw[<-au];simp -dsimp -implicitDefEqProofs[a1,bc,a2,bd,a3,c6,A6q,ah M2 ab,A0z,q1];exact q2
 have c6:0<=a7:=by omega
 by_cases a4:1048576<a7
 .have af:A=A5N 1:=by rw[ac,Z0d (by simp[C3O,a4])]
  have cx:a7>1048576:=a4;obtain⟨q1,q2⟩:=ad M2 1 ab af;simp -dsimp -implicitDefEqProofs[A0l,A0m,A0e,AV.storable,AV.cells];rw[<-au];simp -dsimp -implicitDefEqProofs[a1,bc,a2,bd,a3,c6,a4,cx,A6q,ah M2 ab,A0z,q1];exact q2
 have cx:¬a7>1048576:=a4
 have c9:=B3N gl u M2 ag.1 ag.2.2
 have bm:(A0T u).tail.length<=1000:=by have:=A5a u;have:=ag.2.2;simp;omega
 rw[Z0c (by simp[C3O];omega)]at ac
 have dg:=C2i gl (A0T u).tail .no g M2 bm
 rw[bq]at c9
 simp -dsimp -implicitDefEqProofs[A0l,A0m,A0e,AV.storable,AV.cells]
 rw[<-au,<-hp]
 simp -dsimp -implicitDefEqProofs[a1,bc,a2,bd,a3,c6,a4,cx]
 refine A0i func67 c9 ?_
 have e9:(1:Int)<=(A0T u).length:=by have:=A5a u;have:=A3X u;omega
 have ej:(A4C (A0T u)).tail=A4C (A0T u).tail:=by simp[A4C,List.map_tail]
 simp -dsimp -implicitDefEqProofs[e9]
 rw[ej]
 generalize B0o _ _ _ _ _=io
 refine A0i func68 (C2i gl (A0T u).tail io g M2 bm) ?_
 cases hany:(A0T u).tail.any λx=>decide (x.act=g)
 case true=>
  have af:A=A5N 5:=by rw[ac,Z0d hany]
  obtain⟨q1,q2⟩:=ad M2 5 ab af;simp -dsimp -implicitDefEqProofs[A6q,ah M2 ab,A0z,q1];exact q2
 rw[Z0c (by rw[hany];simp)]at ac
 obtain⟨q,hq⟩:∃q,q=M2.length:=⟨_,rfl⟩
 obtain⟨Mc,ch⟩:∃Mc,Mc=M2++[C4L g a7 A0x]:=⟨_,rfl⟩
 have cu:Mc[q]?=some (C4L g a7 A0x):=by rw[ch,hq];simp
 have d6:Grow M2 Mc:=by rw[ch];exact A0d.app none _ _
 have c4:q<Mc.length:=(Z0a.1 cu).1
 have ca:A6a g a7 q Mc Mc []:=⟨A1c.refl _ _,A0x,cu,.nil⟩
 have ex:=A1Q u.kids
 have ew:=A7E u
 have dw:=ag.2.2
 simp -dsimp -implicitDefEqProofs[C9f,C9i,A0l,A0m,A0e,AV.storable,AV.cells]
 rw[<-ch,<-hq]
 refine A7L (.exit 0) (λT M5=>A5e g s u io r p q T/\T 14=I 0/\A6a g a7 q Mc M5 (A2E u)) ?_ ?_
 .refine A0y hB u.kids.length 74 (λT M5=>∃i:Nat,i<=u.kids.length/\A5e g s u io r p q T/\T 14=I 0/\T 72=.list 8 (A0q u.kids) .no/\T 73=I u.kids.length/\T 74=I i/\A6a g a7 q Mc M5 ((A2E u).take i)) ?_ ?_
  .exact⟨0,by omega,by simp[A5e],by simp,by simp,by simp,by simp,by simpa using ca⟩
  rintro T M5 ⟨i,i1,⟨t2,t5,t8,y,a0,z,w⟩,a5,t72,be,bt,hm⟩;by_cases hi:i<u.kids.length;case neg=>
   (have aj:¬(i:Int)<u.kids.length:=by omega);rw[Z0k (by simp[A2E];omega)]at hm
   simp -dsimp -implicitDefEqProofs[t2,t5,t8,y,a0,z,w,a5,t72,be,bt,aj,A5e];exact hm
  have aj:(i:Int)<u.kids.length:=by omega
  have w1:=A1E (i:=i) (by omega);obtain⟨X,hX⟩:∃X,X=u.kids[i]:=⟨_,rfl⟩;have e0:u.kids[i].row=[I X.id.act,I X.id.item,I X.id.n,I X.kind,S X.label,.list 4 (A0g X.head) .no,.list 4 (A0g X.words) .no,.list 8 (A0q X.kids) .no]:=by rw[<-hX];exact X.row_eq
  have bw:=λM=>D7C gl u X.id M ag.1 ag.2.2;rw[bq]at bw;obtain⟨M6,b4⟩:∃M6,M6=M5++[A0p.cells 27 [I X.id.act,I X.id.item,I X.id.n,I X.kind,S X.label,.list 4 (A0g X.head) .no,.list 4 (A0g X.words) .no,.list 8 (A0q X.kids) .no]]:=⟨_,rfl⟩;have e4:M6[M5.length]?=some (A0p.cells 27 [I X.id.act,I X.id.item,I X.id.n,I X.kind,S X.label,.list 4 (A0g X.head) .no,.list 4 (A0g X.words) .no,.list 8 (A0q X.kids) .no]):=by rw[b4];simp
  obtain⟨dd,iv,co,cv⟩:=hm.app c4 [A0p.cells 27 [I X.id.act,I X.id.item,I X.id.n,I X.kind,S X.label,.list 4 (A0g X.head) .no,.list 4 (A0g X.words) .no,.list 8 (A0q X.kids) .no]];rw[<-b4]at dd co cv;have ax:(A2E u).take (i+1)=(A2E u).take i++[.rep ((A6A u X.id).getD [])]:=by rw[Z0D (by simpa[A2E]using hi)];simp[A2E,hX]
  simp -dsimp -implicitDefEqProofs[t2,t5,t8,y,a0,z,w,a5,t72,be,bt,hi,aj,e0,A0l,A0m,A0e,AV.storable,AV.cells];rw[<-b4];simp -dsimp -implicitDefEqProofs[t2,t5,t8,y,a0,z,w,a5,t72,be,bt,A0b e4];refine A0i func70 (bw M6) ?_;simp -dsimp -implicitDefEqProofs[t2,t5,t8,y,a0,z,w,a5,t72,be,bt,A0b co,C9c,A0n,A0W,AV.storable,AV.cells];refine B9C (C:=WC gl) (enc:=A1L.row) (e:=128) (sz:=25) (news:=[.rep ((A6A u X.id).getD [])]) (o:=.full) D4V D9r D4N cv.fam (by simp[A2E];omega) rfl rfl ?_;intro v' M7 k1 k2 k3;obtain⟨bj,cj⟩:=A6a.push dd co cv k1 k2 k3;simp -dsimp -implicitDefEqProofs[t2,t5,t8,y,a0,z,w,a5,t72,be,bt,bj,w1,A5e];refine⟨⟨i+1,by clear w1;omega,rfl,?_⟩,by clear w1;omega⟩;rw[ax];exact cj
 clear ca cu dg
 rintro T M5 ⟨⟨t2,t5,t8,y,a0,z,w⟩,a5,ck⟩
 obtain⟨L,a,b,c,he,ee,hP⟩:=ed rfl
 simp only[Z1c,Z1M]at he
 obtain⟨rfl,rfl,rfl,rfl⟩:=he
 have hS:A7D u l:=C5K ag (hF▸hR.symm)
 obtain⟨ts,bp⟩:∃ts,ts=A2o F l s:=⟨_,rfl⟩
 obtain⟨K,hK⟩:∃K,K=A2Y l:=⟨_,rfl⟩
 have cc:ts=K.map (A2M F l s l.length):=by rw[bp,hK];rfl
 rw[<-bp]at ac
 have c2:∀M6,A1c q Mc M6->Grow M1 M6:=λM6 h=>by
  have h1:Grow M1 M2:=by rw[au];exact A0d.app none _ _
  exact h.grow (h1.trans d6) (by have:=h1.1;omega)
 have dp:∀M6,A1c q Mc M6->M6[p]?=some (.cells 96 [.list 5 (A1U l) .no,.mapr a,.mapr b,.mapr c]):=λM6 h=>by have dj:p<M2.length:=(Z0a.1 dl).1;rw[h.2 p (by omega)];exact d6.get dl (by simp)
 obtain⟨KL,d3,d8⟩:=hP.kd
 have b9:=d8 (-1)
 rw[show A2T l (-1) l.length=K from hK.symm]at b9
 have dc:∀M6,A1c q Mc M6->A1S prog 94 M6 (.mapr c) (I (-1)) false=some (A8S KL (-1)):=λM6 h=>by rw[(d3.keep (c2 M6 h) (by simp)).get (C0I 94 130 (by kernel_rfl)) (-1:Int) B5r false];unfold A8S;cases A1V KL (-1:Int)<;>rfl
 obtain⟨b1,dm⟩:∃b1,b1=A8S KL (-1):=⟨_,rfl⟩
 rw[<-dm]at dc b9
 have et:K.length<=l.length:=by rw[hK];exact B1B _ _ _
 have d0:∀M6,A1c q Mc M6->A2v prog 130 b1=some K.length:=λM6 h=>b9.len (e':=3) (by simp)
 obtain⟨m,dq⟩:∃m,m=M5.length:=⟨_,rfl⟩
 obtain⟨M6,b4⟩:∃M6,M6=M5++[A0p.map [] 0]:=⟨_,rfl⟩
 have az:=ck.app c4 [.map [] 0]
 have ay:A2i A2R A2R M6 m ([]:List (IdD×IdD)):=by rw[dq,b4];exact A2i.new M5
 have er:q<m:=by have:=ck.1.1;omega
 rw[<-b4]at az
 have ds:=B2U (s:=s) hS
 rw[<-hF,<-bp]at ds
 have e8:∀n (h:n<l.length),∃x,F l[n].id=some x/\x.good/\x.words.length<=300/\x.head.length<=300:=by rw[hF];exact hS.fd
 have dt:=C5G (s:=s) hS hl
 rw[<-hF,<-bp]at dt
 have eo:ts.length=K.length:=by rw[cc,Z0K]
 have ci:∀n,(A4G g ((ts.take n).map (·.2.1)) u.kids.length).map (·.1)=(ts.take n).flatMap (·.2.1):=λn=>by rw[A8p,Z2s];rfl
 simp -dsimp -implicitDefEqProofs[t2,t5,t8,y,a0,z,w,a5]
 rw[<-b4,<-dq]
 simp -dsimp -implicitDefEqProofs[t2,t5,t8,y,a0,z,w,a5,A0b (dp M6 az.1),dc M6 az.1,d0 M6 az.1]
 refine A7L (.exit 2) (λT M7=>A5e g s u io r p q T/\T 14=I (A6X ts 0)/\T 21=.mapr m/\A6a g a7 q Mc M7 (A2E u++A3j ts)/\A2i A2R A2R M7 m (A7Q g u ts)) ?_ ?_
 .refine A0y hB K.length 98 (λT M7=>∃j:Nat,j<=K.length/\A5e g s u io r p q T/\T 14=I (A6X (ts.take j) 0)/\T 21=.mapr m/\T 96=b1/\T 97=I K.length/\T 98=I j/\A6a g a7 q Mc M7 (A2E u++A3j (ts.take j))/\A2i A2R A2R M7 m (A4G g ((ts.take j).map (·.2.1)) u.kids.length)) ?_ ?_
  .exact⟨0,by omega,by simp[A5e,t2,t5,t8,y,a0,z,w],by simp[a5,A6X],by simp,by simp,by simp,by simp,by simpa[A3j]using az,by simpa[A4G]using ay⟩
  clear t2 t5 t8 y a0 z w a5 az ay;rintro T M7 ⟨j,j1,⟨t2,t5,t8,y,a0,z,w⟩,a5,a6,a9,aa,a8,hm,an⟩;have dr:=a8;by_cases hj:j<K.length;case neg=>
   (have cy:¬(j:Int)<K.length:=by omega);rw[Z0k (by omega)]at hm an a5
   simp -dsimp -implicitDefEqProofs[t2,t5,t8,y,a0,z,w,a5,a6,a9,aa,a8,cy,A5e];exact⟨hm,an⟩
  have cy:(j:Int)<K.length:=by omega
  have w1:=A1E (i:=j) (by omega);have en:=b9.keep (c2 M7 hm.1) (by simp);obtain⟨pt,eg,ef⟩:=en.at1 (P:=prog) (t:=3) (f:=λk:Nat=>I k) (λ_=>rfl) E4z sz3 hj;have dh:K[j]∈A2T l (-1) l.length:=by have dz:K=A2T l (-1) l.length:=hK;rw[<-dz];exact Z0q hj
  have ce:K[j]<l.length:=A7A dh;obtain⟨t,c7⟩:∃t,t=A2M F l s l.length K[j]:=⟨_,rfl⟩;have dk:ts[j]'(by omega)=t:=by rw[c7];simp[cc]
  have aq:=D9d gl F s l L ee a b c hl cr hs ht hS.ord e8 l.length K[j] M7 ce (by omega) (hP.keep (c2 M7 hm.1));rw[<-c7]at aq;have cs:Fit t.1:=by rw[c7,hF];exact B5t hS hl cr ht ce (by omega)
  have el:A3n t.1:=by rw[c7];exact B3E F l s _ _
  have ct:t∈ts:=by rw[<-dk];exact Z0q _
  have ep:=dt t ct;have ax:ts.take (j+1)=ts.take j++[t]:=by rw[Z0D (by omega),dk]
  obtain⟨M8,bk⟩:∃M8,M8=M7++[A0p.cells 27 t.1.row]:=⟨_,rfl⟩;have br:M8[M7.length]?=some (A0p.cells 27 t.1.row):=by rw[bk];simp
  have c8:=hm.app c4 [A0p.cells 27 t.1.row];have bb:=an.keep (A0d.app none M7 [A0p.cells 27 t.1.row]) (by simp);rw[<-bk]at c8 bb;obtain⟨xt,dn⟩:∃xt,xt=M7.length:=⟨_,rfl⟩;rw[<-dn]at br;have ey:q<xt:=by have:=hm.1.1;omega
  have eu:m≠xt:=by have:=an.lt;omega
  simp -dsimp -implicitDefEqProofs[t2,t5,t8,y,a0,z,w,a5,a6,a9,aa,a8,cy,eg,ef,A0b (dp M7 hm.1)];refine A0i func71 aq ?_;simp -dsimp -implicitDefEqProofs[t2,t5,t8,y,a0,z,w,a5,a6,a9,aa,a8,D0O,A0l,A0m,A0e,AV.storable,AV.cells];rw[<-bk,<-dn];simp -dsimp -implicitDefEqProofs[t2,t5,t8,y,a0,z,w,a5,a6,a9,aa,a8,A0b br];refine A0s func72 (C1R gl d5 da t.1 M8 cs el) ?_;rintro _ M8 ⟨⟨tx,rfl⟩,rfl⟩;simp -dsimp -implicitDefEqProofs[-A8n];refine B5D (λT M9=>M9=M8/\A5e g s u io r p q T/\T 14=I (A6X (ts.take j) 0)/\T 21=.mapr m/\T 24=.ptr xt 0/\T 25=.list 3 (A4C t.2.1) .no/\T 26=I (C5e t)/\T 96=b1/\T 97=I K.length/\T 98=I j) ?_ ?_
  .by_cases hfe:B0R t.1=0
   .simp -dsimp -implicitDefEqProofs[t2,t5,t8,y,a0,z,w,a5,a6,a9,aa,a8,hfe,C5e,A5e]
   .simp -dsimp -implicitDefEqProofs[t2,t5,t8,y,a0,z,w,a5,a6,a9,aa,a8,hfe,C5e,A5e]
  clear t2 t5 t8 y a0 z w a5 a6 a9 aa a8;rintro T _ ⟨rfl,⟨t2,t5,t8,y,a0,z,w⟩,a5,a6,ai,bx,c1,a9,aa,a8⟩;simp -dsimp -implicitDefEqProofs[t2,t5,t8,y,a0,z,w,a5,a6,ai,bx,c1,a9,aa,a8];refine A0i func73 (C7E gl _ _ _) ?_;have d2:A5I (A6X (ts.take j) 0) (C5e t)=A6X (ts.take (j+1)) 0:=by rw[ax,A6X,A6X,Z3Y];rfl
  rw[d2];simp -dsimp -implicitDefEqProofs[t2,t5,t8,y,a0,z,w,a5,a6,ai,bx,c1,a9,aa,a8];refine A7L (.exit 4) (λT M9=>A5e g s u io r p q T/\T 14=I (A6X (ts.take (j+1)) 0)/\T 21=.mapr m/\T 24=.ptr xt 0/\T 96=b1/\T 97=I K.length/\T 98=I j/\M9[xt]?=some (A0p.cells 27 t.1.row)/\A6a g a7 q Mc M9 (A2E u++A3j (ts.take j))/\A2i A2R A2R M9 m (A4G g ((ts.take (j+1)).map (·.2.1)) u.kids.length)) ?_ ?_
  .refine A0y hB t.2.1.length 122 (λT M9=>∃i:Nat,i<=t.2.1.length/\A5e g s u io r p q T/\T 14=I (A6X (ts.take (j+1)) 0)/\T 21=.mapr m/\T 24=.ptr xt 0/\T 96=b1/\T 97=I K.length/\T 98=I j/\T 120=.list 3 (A4C t.2.1) .no/\T 121=I t.2.1.length/\T 122=I i/\M9[xt]?=some (A0p.cells 27 t.1.row)/\A6a g a7 q Mc M9 (A2E u++A3j (ts.take j))/\A2i A2R A2R M9 m (A4G g ((ts.take j).map (·.2.1)) u.kids.length++(t.2.1.zipIdx.take i).map λx=>(x.1,(⟨g,(u.kids.length+j:Nat),(x.2:Int)+1⟩:IdD)))) ?_ ?_
   .exact⟨0,by omega,by simp[A5e,t2,t5,t8,y,a0,z,w],by simp,by simp[a6],by simp[ai],by simp[a9],by simp[aa],by simp[a8],by simp,by simp,by simp,br,c8,by simpa using bb⟩
   clear t2 t5 t8 y a0 z w a5 a6 ai bx c1 a9 aa a8 hm an c8 bb br bk aq;rintro T M9 ⟨i,i1,⟨t2,t5,t8,y,a0,z,w⟩,a5,a6,ai,a9,aa,a8,bv,bg,bi,av,d4,ak⟩;(have ec:A4G g ((ts.take (j+1)).map (·.2.1)) u.kids.length=A4G g ((ts.take j).map (·.2.1)) u.kids.length++t.2.1.zipIdx.map λx=>(x.1,(⟨g,(u.kids.length+j:Nat),(x.2:Int)+1⟩:IdD)):=by rw[ax,Z0Q,C1B];simp[A4G,Z0E,Z1H (show j<=ts.length by omega)]);by_cases hi:i<t.2.1.length;case neg=>
    (have aj:¬(i:Int)<t.2.1.length:=by omega);have cz:t.2.1.zipIdx.take i=t.2.1.zipIdx:=Z0k (by simp;omega)
    rw[cz,<-ec]at ak;simp -dsimp -implicitDefEqProofs[t2,t5,t8,y,a0,z,w,a5,a6,ai,a9,aa,a8,bv,bg,bi,aj,A5e];refine⟨av,d4,?_⟩;rw[<-Z1w];exact ak
   (have aj:(i:Int)<t.2.1.length:=by omega);have w2:=A1E (i:=i) (by omega)
   obtain⟨x,hx⟩:∃x,x=t.2.1[i]:=⟨_,rfl⟩;(have cw:t.2.1[i].row=[I x.act,I x.item,I x.n]:=by rw[<-hx];rfl);obtain⟨am,b7⟩:∃am,am=M9++[A0p.cells 23 [I x.act,I x.item,I x.n]]:=⟨_,rfl⟩;(have cb:Grow M9 am:=by rw[b7];exact A0d.app none _ _);(have bo:am[M9.length]?=some (A0p.cells 23 [I x.act,I x.item,I x.n]):=by rw[b7];simp);obtain⟨b3,iv,b2,ae⟩:=d4.app c4 [A0p.cells 23 [I x.act,I x.item,I x.n]];have al:=ak.keep cb (by simp);rw[<-b7]at b3 b2 ae;have cg:=cb.get av (by simp);(have bh:A2v prog 47 iv=some (u.kids.length+j):=by rw[ae.fam.len (e':=128) (by simp)];simp[A2E,A3j,Z0E,Z1H (show j<=ts.length by omega)]);obtain⟨kj,e3⟩:∃kj,kj=u.kids.length+j:=⟨_,rfl⟩;rw[<-e3]at bh al;have eh:x∉(A4G g ((ts.take j).map (·.2.1)) u.kids.length++(t.2.1.zipIdx.take i).map λx=>(x.1,(⟨g,(kj:Nat),(x.2:Int)+1⟩:IdD))).map (·.1):=by
    (have h1:(ts.take (j+1)).flatMap (·.2.1)=(ts.take j).flatMap (·.2.1)++t.2.1:=by rw[ax,Z1r];simp);have h2:((ts.take (j+1)).flatMap (·.2.1)).Nodup:=by have h:=ds.1;rw[<-Z0S (j+1) ts,Z1r]at h;exact(Z1J.1 h).1
    rw[h1]at h2;(have h3:(t.2.1.zipIdx.take i).map (λx=>x.1)=t.2.1.take i:=by rw[Z1w];congr 1;exact C4e _ 0);rw[Z0Q,ci,Z1s];rw[show((λx:IdD×IdD=>x.1)∘λx:IdD×Nat=>(x.1,(⟨g,(kj:Nat),(x.2:Int)+1⟩:IdD)))=λx=>x.1 from rfl,h3];intro ek;(have h4:(ts.take j).flatMap (·.2.1)++t.2.1=((ts.take j).flatMap (·.2.1)++t.2.1.take i)++x::t.2.1.drop (i+1):=by rw[hx,Z0T,<-Z0i hi,Z0S]);rw[h4]at h2;exact(Z1J.1 h2).2.2 x ek x (by simp) rfl
   obtain⟨df,q1,q2,q3⟩:=al.put (A9j 129 23 (by kernel_rfl)) x (⟨g,(kj:Nat),(i:Int)+1⟩:IdD);rw[B9h eh]at q2;have ea:A1N prog 129 am (.mapr m) (.agg [I x.act,I x.item,I x.n]) (.agg [I g,I kj,I ((i:Int)+1)])=some df:=q1;(have cz:t.2.1.zipIdx.take (i+1)=t.2.1.zipIdx.take i++[(x,i)]:=by rw[Z0D (by simpa using hi),hx];simp);have eq:q<am.length:=(Z0a.1 b2).1;have di:A6a g a7 q Mc df (A2E u++A3j (ts.take j)):=⟨b3.trans (q3.low (n:=q) (by omega) (λf hf=>by simp at hf;omega)),iv,q3.get b2 (by simp;omega),ae.fam.keep q3 (λf hf e=>by simp at e;have:=ae.fam;obtain⟨es,cl,h1,_⟩:=al;rcases ae.fam with⟨rfl,_⟩|rfl|⟨f',rfl,hm⟩<;>simp at hf;subst hf;rw[e,hm]at h1;simp at h1),ae.lat⟩;simp -dsimp -implicitDefEqProofs[t2,t5,t8,y,a0,z,w,a5,a6,ai,a9,aa,a8,bv,bg,bi,hi,aj,cw,A0l,A0m,A0e,AV.storable,AV.cells];rw[<-b7];simp -dsimp -implicitDefEqProofs[t2,t5,t8,y,a0,z,w,a5,a6,ai,a9,aa,a8,bv,bg,bi,A0b bo,A0b b2,bh,w2,C5D,ea,A5e];(have eb:((kj:Nat):Int)=(u.kids.length:Int)+(j:Int):=by omega);rw[eb]at q2;refine⟨⟨i+1,by clear w2;omega,by simp,q3.get cg (by simp;omega),di,?_⟩,by clear w2;omega⟩;rw[<-Z1w,<-Z1w,cz,Z0Q,<-Z0T];exact q2
  clear t2 t5 t8 y a0 z w a5 a6 ai bx c1 a9 aa a8 hm an c8 bb br bk aq;rintro T M9 ⟨⟨t2,t5,t8,y,a0,z,w⟩,a5,a6,ai,a9,aa,a8,av,⟨b3,iv,b2,ae⟩,ak⟩;simp -dsimp -implicitDefEqProofs[t2,t5,t8,y,a0,z,w,a5,a6,ai,a9,aa,a8,A0b b2,A0b av,C8Z,A0n,A0W,AV.storable,AV.cells];refine B9C (C:=WC gl) (enc:=A1L.row) (e:=128) (sz:=25) (news:=[.ins t.1]) (o:=.full) D4V D9r D4N ae.fam (by simp[A2E,A3j];omega) rfl rfl ?_;intro v' am k1 k2 k3;obtain⟨bj,bu⟩:=A6a.push b3 b2 ae k1 k2 k3;have al:=(C4K ak ae k2).keep (A0d.set am q (C4L g a7 v')) (by simp;omega);simp -dsimp -implicitDefEqProofs[t2,t5,t8,y,a0,z,w,a5,a6,ai,a9,aa,a8,dr,bj,w1,A5e];refine⟨⟨j+1,Nat.succ_le_of_lt hj,rfl,by simp,?_,?_⟩,Nat.sub_lt_sub_left hj (Nat.lt_succ_self j)⟩
  .rw[ax];simpa[A3j]using bu
  .rw[<-Z1w];exact al
 clear t2 t5 t8 y a0 z w a5 az ay ck
 rintro T M7 ⟨⟨t2,t5,t8,y,a0,z,w⟩,a5,a6,⟨dy,iv,c5,cq⟩,an⟩
 have b0:Grow Ma M7:=cd.trans (c2 M7 dy)
 have ar:A2v prog 47 iv=some (u.kids.length+ts.length):=by rw[cq.fam.len (e':=128) (by simp)];simp[A2E,A3j]
 obtain⟨kt,db⟩:∃kt,kt=u.kids.length+ts.length:=⟨_,rfl⟩
 rw[<-db]at ar
 have aw:C4a u ts=if 32<kt then 6 else A6X ts 0:=by rw[C4a,db]
 by_cases h32:32<kt
 .have ao:(32:Int)<kt:=by omega
  have b5:(kt:Int)>32:=ao;rw[Z0d h32]at aw;have af:A=A5N 6:=by rw[ac,aw];rfl
  obtain⟨q1,q2⟩:=ad M7 6 b0 af;simp -dsimp -implicitDefEqProofs[t2,t5,t8,y,a0,z,w,a5,a6,A0b c5,ar,h32,ao,b5,A6q,ah M7 b0,A0z,q1];exact q2
 have ao:¬(32:Int)<kt:=by omega
 have b5:¬(kt:Int)>32:=ao
 rw[Z0c h32]at aw
 by_cases he0:A6X ts 0=0
 case neg=>
  have af:A=A5N (A6X ts 0):=by rw[ac,aw,Z0d he0]
  obtain⟨q1,q2⟩:=ad M7 _ b0 af;simp -dsimp -implicitDefEqProofs[t2,t5,t8,y,a0,z,w,a5,a6,A0b c5,ar,h32,ao,b5,he0,A6q,ah M7 b0,A0z,q1];exact q2
 rw[Z0c (by rw[aw,he0];simp)]at ac
 have bs:=C0O (s:=s) hS g
 rw[<-hF,<-bp]at bs
 rw[bs]at ac
 simp -dsimp -implicitDefEqProofs[t2,t5,t8,y,a0,z,w,a5,a6,A0b c5,ar,h32,ao,b5,he0]
 obtain⟨W,hW⟩:∃W,W=A7Q g u ts:=⟨_,rfl⟩
 rw[<-hW]at an ac
 obtain⟨I1,c3⟩:∃I1,I1=(A0T u).tail:=⟨_,rfl⟩
 rw[<-c3]at ac bm
 rw[<-c3]at z
 obtain⟨n7,em⟩:∃n7,n7=M7.length:=⟨_,rfl⟩
 have cj:m<n7:=by rw[em];exact an.lt
 have ei:q<n7:=by omega
 have e7:r<n7:=by have:=(Z0a.1 (b0.get c0 (by simp))).1;omega
 refine A0y hB I1.length 155 (λT M8=>∃i:Nat,i<=I1.length/\T 10=.ptr r 0/\T 16=.ptr q 0/\T 21=.mapr m/\T 153=.list 3 (A4C I1) io/\T 154=I I1.length/\T 155=I i/\A1c n7 M7 M8/\Fm 6 A5b n7 M8 (T 31) ((I1.take i).map λx=>(x,(A1V W x).getD idZ))) ?_ ?_
 .refine⟨0,by omega,by simp[y],by simp[w],by simp[a6],by simp[c3],by simp[c3],by simp,A1c.refl _ _,?_⟩;simp -dsimp -implicitDefEqProofs;exact .nil
 clear t2 t5 t8 y a0 z w a5 a6
 rintro T M8 ⟨i,i1,y,w,a6,b8,b6,ba,bn,cm⟩
 generalize cf:T 31=dv at*
 by_cases hi:i<I1.length
 case neg=>
  have aj:¬(i:Int)<I1.length:=by omega
  rw[Z0k (by omega)]at cm;have dx:M8[q]?=some (C4L g a7 iv):=(bn.2 q ei).trans c5;have d9:M8[r]?=some D2q:=(bn.2 r e7).trans (b0.get c0 (by simp));have du:Grow M M8:=bn.grow (cn.trans b0) (by omega);have e5:r<M8.length:=(Z0a.1 d9).1;have bj:A0m (some 7) M8 (.ptr r 0) (.agg [I g,S A9K,I a7,I 1,I a7,eS,iv])=some (M8.set r (C4L g a7 iv)):=by rw[A0h d9];simp[AV.storable,AV.cells,A0e,cq.fam.store]
  simp -dsimp -implicitDefEqProofs[y,w,a6,b8,b6,ba,aj,cf,A0b dx,bj,A0z,e5];rw[ac];refine⟨⟨by simpa using du.1,λj hj _=>by rw[Z0e (by omega)];exact du.2 j hj (by simp)⟩,?_⟩;exact .tuple (.agg (.same trivial (.same trivial (.same trivial (.same trivial (.same trivial (.same trivial (cq.data (A8d (D6s _) _) .nil))))))) (cm.data (A8d (λx=>by simp[A5b,A1Y,bdd]) _) (.same trivial .nil))) .nil
 have aj:(i:Int)<I1.length:=by omega
 have w1:=A1E (i:=i) (by omega)
 obtain⟨x,hx⟩:∃x,x=I1[i]:=⟨_,rfl⟩
 have cw:I1[i].row=[I x.act,I x.item,I x.n]:=by rw[<-hx];rfl
 obtain⟨xa,de⟩:∃xa,xa=M8.length:=⟨_,rfl⟩
 obtain⟨M9,cp⟩:∃M9,M9=M8++[A0p.cells 23 [I x.act,I x.item,I x.n]]:=⟨_,rfl⟩
 have b3:Grow M8 M9:=by rw[cp];exact A0d.app none _ _
 have av:M9[xa]?=some (A0p.cells 23 [I x.act,I x.item,I x.n]):=by rw[cp,de];simp
 have ae:=cm.keep b3
 have bf:=bn.trans (b3.low (n:=n7) (by have:=bn.1;omega) (by simp))
 have ak:A2i A2R A2R M9 m W:=by obtain⟨es,cl,e1,e2⟩:=an;exact⟨es,cl,(bf.2 m cj).trans e1,e2⟩
 have d7:A1S prog 129 M9 (.mapr m) (.agg [I x.act,I x.item,I x.n]) false=some (.agg [I ((A1V W x).getD idZ).act,I ((A1V W x).getD idZ).item,I ((A1V W x).getD idZ).n]):=by rw[show AV.agg [I x.act,I x.item,I x.n]=A2R x from rfl,ak.get (A9j 129 23 (by kernel_rfl)) x D8c false];cases A1V W x<;>rfl
 have d1:n7<=M9.length:=by have:=bf.1;omega
 have ax:(I1.take (i+1)).map (λx=>(x,(A1V W x).getD idZ))=(I1.take i).map (λx=>(x,(A1V W x).getD idZ))++[(x,(A1V W x).getD idZ)]:=by rw[Z0D hi,Z0Q,hx];rfl
 simp -dsimp -implicitDefEqProofs[y,w,a6,b8,b6,ba,hi,aj,cw,A0l,A0m,A0e,AV.storable,AV.cells]
 rw[<-cp,<-de]
 refine A5r hB (A0t gl) (λk=>if k=1\/k=3\/k=4 then 1 else if k=7 then 2 else 0) (λk=>if k=4 then m else xa) (λ_=>false) [xa,m] (by intro j _ _;by_cases h:j=4<;>simp[h]) (by rfl) (by kernel_rfl) ?_
 simp -dsimp -implicitDefEqProofs[y,w,a6,b8,b6,ba,cf,A1a,A5n,A0b av,d7,D0n,A0n,A0W,AV.storable,AV.cells]
 refine⟨rfl,B9C (C:=WC gl) (enc:=A5b) (e:=79) (sz:=6) (news:=[(x,(A1V W x).getD idZ)]) (o:=.full) E0w E5e E3C ae.fam (by simp;omega) rfl rfl ?_⟩
 intro v' am k1 k2 k3
 have bo:=ae.cells k2 av
 have bu:am[m]?=M9[m]?:=by refine k2.2 m (by omega) λe=>?_;have:=ae.lat m e;omega
 simp -dsimp -implicitDefEqProofs[y,w,a6,b8,b6,ba,av,bo,bu,w1]
 refine⟨⟨i+1,by clear w1;omega,by simp,bf.trans ((ae.low d1 k2).le (Z0n _)),?_⟩,by clear w1;omega⟩
 rw[<-Z1w,ax]
 exact ae.push d1 k1 k3
end
section
variable (gl:Nat->AV)
set_option maxHeartbeats 1000000 in
def C4U(ay:gl 0=A2h)(u t:A0a)(g:Int)(i:Nat)(b3:Int)(M:Mem)(hf:Fit u)(b8:Fit t)(hw:wcU t<=1000000000)(hx:Fit (A1B g i t 0 0))(be:u.kids.length<64)(bd:A1D t<8)
 (b9:A0j u+A0j t<=1024)(aq:B5W u (A1B g i t 0 0)=0)(a7:((A0T (A1B g i t 0 0)).any λy=>(A0T u).any λz=>decide (z=y))=false):
 A0c (WC gl) 232 [.agg u.row,.agg u.row,.agg (enR g i b3 (.ins t))] M (λv M'=>v=.tuple [.agg (A8l u (u.kids++[A1B g i t 0 0])).row,I 0]/\M'=M):=by
 refine A0c.dataX ?_
 obtain⟨x,aj⟩:∃x,x=A1B g i t 0 0:=⟨_,rfl⟩
 have bf:A0j x=A0j t:=by rw[aj,A8X]
 have ar:A1D x=A1D t:=by rw[aj,B6R]
 have a2:=λM=>D6d gl t g i M b8 hw
 rw[<-aj]at hx aq a7 a2|-
 have b7:u.id.row=[I u.id.act,I u.id.item,I u.id.n]:=rfl
 have b0:A1i u.id u=some u:=by obtain⟨a,b,c,d,e,f⟩:=u;rw[A1i];exact Z0d rfl
 have ac:∀l:List IdD,l=A0T u->((A0T x).any λy=>l.any λz=>decide (z=y))=false:=λl h=>by rw[h];exact a7
 obtain⟨b,hb⟩:∃b,b=M.length:=⟨_,rfl⟩
 obtain⟨M1,ah⟩:∃M1,M1=M++[z8]:=⟨_,rfl⟩
 have h1:M1[b]?=some z8:=by rw[ah,hb];simp
 have b5:Grow M M1:=by rw[ah];exact A0d.app none _ _
 have af:=C8v gl u t M1 hf
 obtain⟨M2,a4⟩:∃M2,M2=M1++[A0p.cells 23 [I u.id.act,I u.id.item,I u.id.n],A0p.cells 3 [I u.kids.length]]:=⟨_,rfl⟩
 obtain⟨p,hp⟩:∃p,p=M1.length:=⟨_,rfl⟩
 have ai:M2[p]?=some (A0p.cells 23 [I u.id.act,I u.id.item,I u.id.n]):=by rw[a4,hp];simp
 have au:M2[p+1]?=some (A0p.cells 3 [I u.kids.length]):=by rw[a4,hp];simp[Z0Z]
 have b6:Grow M1 M2:=by rw[a4];exact A0d.app none _ _
 have w:=B7T gl u u.id M2 hf
 rw[b0]at w
 obtain⟨q,hq⟩:∃q,q=M2.length:=⟨_,rfl⟩
 obtain⟨M3,ak⟩:∃M3,M3=M2++[A0p.cells 27 [I u.id.act,I u.id.item,I u.id.n,I u.kind,S u.label,.list 4 (A0g u.head) .no,.list 4 (A0g u.words) .no,.list 8 (A0q u.kids) .no]]:=⟨_,rfl⟩
 have b1:M3[q]?=some (A0p.cells 27 [I u.id.act,I u.id.item,I u.id.n,I u.kind,S u.label,.list 4 (A0g u.head) .no,.list 4 (A0g u.words) .no,.list 8 (A0q u.kids) .no]):=by rw[ak,hq];simp
 have a3:Grow M2 M3:=by rw[ak];exact A0d.app none _ _
 obtain⟨r,hr⟩:∃r,r=M3.length:=⟨_,rfl⟩
 obtain⟨M4,ad⟩:∃M4,M4=M3++[A0p.cells 27 [I x.id.act,I x.id.item,I x.id.n,I x.kind,S x.label,.list 4 (A0g x.head) .no,.list 4 (A0g x.words) .no,.list 8 (A0q x.kids) .no]]:=⟨_,rfl⟩
 have a1:M4[r]?=some (A0p.cells 27 [I x.id.act,I x.id.item,I x.id.n,I x.kind,S x.label,.list 4 (A0g x.head) .no,.list 4 (A0g x.words) .no,.list 8 (A0q x.kids) .no]):=by rw[ad,hr];simp
 have a0:Grow M3 M4:=by rw[ad];exact A0d.app none _ _
 have bb:=A1Q u.kids
 have ba:A0f u.kids<A0j u:=by obtain⟨a,b,c,d,e,f⟩:=u;rw[A0j];show A0f f<_;omega
 have bc:=hf.2.2
 have m:=λM=>D4H gl ay u x M (by omega)
 rw[aq]at m
 have j:=λM=>D7F gl u x M hf hx
 rw[ar,Z0y (by omega)]at j
 have a6:=λM=>B5h gl u M hf.1 hf.2.2
 have a8:=λM=>B5h gl x M hx.1 hx.2.2
 obtain⟨s,hs⟩:∃s,s=M4.length:=⟨_,rfl⟩
 obtain⟨iu,ag⟩:∃iu,iu=A0T u:=⟨_,rfl⟩
 obtain⟨M5,al⟩:∃M5,M5=M4++[A0p.cells 85 [.list 3 (A4C iu) .no]]:=⟨_,rfl⟩
 have av:M5[s]?=some (A0p.cells 85 [.list 3 (A4C iu) .no]):=by rw[al,hs];simp
 have a5:Grow M4 M5:=by rw[al];exact A0d.app none _ _
 have o:=λM=>B3N gl u M hf.1 hf.2.2
 have a9:=λM=>B3N gl x M hx.1 hx.2.2
 rw[<-ag]at o
 have an:iu.length<=1000:=by rw[ag,A5a];exact hf.2.2
 have aa:=D8s gl (λy=>iu.any λz=>decide (z=y)) 286 [.ptr s 0] (A0T x) .no M5 (by rw[A5a];exact hx.2.2) (λy _=>A0V func286 rfl rfl (C8W gl iu y s M5 an av))
 rw[ac iu ag]at aa
 have p1:=(a3.trans (a0.trans a5)).get ai (by simp)
 have p2:=(a3.trans (a0.trans a5)).get au (by simp)
 have r1:=a5.get a1 (by simp)
 have ab:=B9G gl u 289 [.ptr (p+1) 0,.ptr r 0] (u.kids++[x]) M5 hf (E5a gl u x (by omega) (p+1) r M5 p2 (by rw[x.row_eq];exact r1))
 have am:Grow M1 M5:=b6.trans (a3.trans (a0.trans a5))
 have h5:=am.get h1 (by simp)
 have b4:b<M5.length:=(Z0a.1 h5).1
 have az:=a3.get ai (by simp)
 have ap:=a0.get az (by simp)
 have ao:=a0.get b1 (by simp)
 have aw:¬(u.kids.length:Int)>=64:=by omega
 have w1:IntKind.i64.wrap ((A0j u:Int)+A0j x)=(A0j u:Int)+A0j x:=by rw[A0J (by omega) (by omega)]
 have ae:¬(A0j u:Int)+A0j x>1024:=by omega
 have b2:=x.row_eq
 have ax:=t.row_eq
 rw[b7]at af w j ab
 rw[A2p]at w
 rw[b2]at a2 m j a8 a9
 rw[ax]at a2
 rw[u.row_eq]at af w m j a6 o ab|-
 refine A0o hB func232 ?_
 simp -dsimp -implicitDefEqProofs[A0l,enR,A1L.row]
 rw[<-ah,<-hb]
 refine A0i func282 af ?_
 simp -dsimp -implicitDefEqProofs[A0l,A0m,A0e,A0K,A0I]
 rw[<-a4,<-hp]
 simp -dsimp -implicitDefEqProofs[A0b ai]
 refine A0i func32 w ?_
 simp -dsimp -implicitDefEqProofs[A0l,A0m,A0e,A0K,A0I]
 rw[<-ak,<-hq]
 refine A0i func283 (a2 M3) ?_
 simp -dsimp -implicitDefEqProofs[A0l,A0m,A0e,A0K,A0I]
 rw[<-ad,<-hr]
 simp -dsimp -implicitDefEqProofs[A0b ao,A0b a1]
 refine A0i func284 (m M4) ?_
 simp -dsimp -implicitDefEqProofs
 refine A0X hB (A0t gl) (λk=>if k=1\/k=6\/k=7\/k=13 then 1 else 0) (λk=>if k=1 then q else if k=6 then p else r) (by rfl) (by kernel_rfl) ?_
 simp -dsimp -implicitDefEqProofs[A0b ao,A0b a1,A0b ap,A1a,A5n,aw]
 refine A1G func285 j ?_
 simp -dsimp -implicitDefEqProofs
 refine A1G func30 a6 ?_
 simp -dsimp -implicitDefEqProofs[A0b a1,A1a,A5n]
 refine A1G func30 a8 ?_
 simp -dsimp -implicitDefEqProofs[w1,ae]
 refine A0i func67 (o M4) ?_
 simp -dsimp -implicitDefEqProofs[A0l,A0m,A0e,AV.storable,AV.cells]
 rw[<-al,<-hs]
 simp -dsimp -implicitDefEqProofs[A0b r1]
 refine A0i func67 (a9 M5) ?_
 simp -dsimp -implicitDefEqProofs
 refine A0i func68 aa ?_
 simp -dsimp -implicitDefEqProofs[A0b p1]
 refine A0i func288 ab ?_
 simp -dsimp -implicitDefEqProofs[A0h h5,A0K,A0I,A0z b4,A0k]
 exact⟨A1o (b5.trans am) (by omega),.tuple (.same (by simp only[bdd];exact A2U _ _) (.same trivial .nil)) .nil⟩
end
section
mutual
def C0U:∀(u:A0a),(A4J (λ_=>true) (λ(_:Unit) _=>()) u ()).1=true
 |.mk id k l h w ks=>by rw[A4J,Z0d rfl];exact B7d ks
def B7d:∀(ks:List A0a),(A3K (λ_=>true) (λ(_:Unit) _=>()) ks ()).1=true
 |[]=>by rw[A3K]
 |k::ks=>by rw[A3K,Z0d (C0U k)];exact B7d ks
end
section
variable (gl:Nat->AV)
def C5r(u:A0a)(M:Mem)(hf:Fit u)(hb:A3n u):A0c (WC gl) 86 [.agg u.row,fnV 389] M (λv M'=>v=B true/\M'=M):=by
 refine A3f (λ_=>trivial) ?_;have h:=B0b gl 389 [] [] (λ_=>true) (λ(_:Unit) _=>()) (λM1 _=>Grow M M1) (λ_ u=>A3n u/\u.lims) (λ_ ks=>B3o ks/\A5s ks) ?_ ?_ ?_ ?_ ?_ u () M hf.1 ⟨hb,hf.2.1⟩ (A0d.refl _ _)
 .rw[C0U]at h;exact h
 .intro a u h;exact⟨by have:=((A7u u).1 h.1);obtain⟨a,b,c,d,e,f⟩:=u;rw[A3n]at h;exact h.1.2.2.2,(A3t u h.2).2⟩
 .intro a k ks h;rw[B3o,A5s]at h;exact⟨h.1.1,h.2.1⟩
 .intro a k ks h _;rw[B3o,A5s]at h;exact⟨h.1.2,h.2.2⟩
 .intro M1 a X h;exact h.trans (A0d.app none _ _)
 .intro u a M1 hg hk hj;refine(A0V func389 rfl rfl (D0o gl M1 u hk.1 hk.2)).mono ?_;rintro _ _ ⟨rfl,rfl⟩;exact⟨rfl,hj⟩
def C4R(b:gl 0=A2h)(a:gl 1=A2s)(u:A0a)(M:Mem)(hf:Fit u)(hb:A3n u)(hv:B1s u=true):A0c (WC gl) 364 [.agg u.row] M (λv M'=>v=B true/\M'=M):=by have h1:=λM=>B4V gl b a u M hf;have h2:=λM=>C5r gl u M hf hb;rw[B4e hb,hv]at h1;rw[u.row_eq]at h1 h2|-;refine A0o hB func364 ?_;simp -dsimp -implicitDefEqProofs;refine A0i func109 (h1 M) ?_;simp -dsimp -implicitDefEqProofs;refine A0i func86 (h2 M) ?_;simp -dsimp -implicitDefEqProofs
def C4n(c:gl 0=A2h)(b:gl 1=A2s)(u:A0a)(M:Mem)(hf:Fit u)(hb:A3n u)(hk:u.kind≠0)(hv:B0R u=0)(a:A0c (WC gl) 72 [.agg u.row] M (λv M'=>(∃t,v=.tuple [S t,I (B0R u)])/\M'=M)):A0c (WC gl) 303 [.agg u.row] M (λv M'=>v=B true/\M'=M):=by
 have d:B1s u=true:=by
  unfold B0R at hv;split at hv
  .assumption
  .simp at hv
 have h2:=C4R gl c b u M hf hb d;rw[hv]at a;rw[u.row_eq]at h2 a|-;refine A0o hB func303 ?_;simp -dsimp -implicitDefEqProofs;refine A0s func72 a ?_;rintro _ M1 ⟨⟨t,rfl⟩,rfl⟩;simp -dsimp -implicitDefEqProofs;refine A0i func364 h2 ?_;simp -dsimp -implicitDefEqProofs[hk]
def D3b(c:gl 0=A2h)(b:gl 1=A2s)(u:A0a)(M:Mem)(hf:Fit u)(hb:A3n u)(hk:u.kind≠0)(hv:B0R u=0)(a:A0c (WC gl) 72 [.agg u.row] M (λv M'=>(∃t,v=.tuple [S t,I (B0R u)])/\M'=M)):A0c (WC gl) 301 [.agg (A1L.ins u).row] M (λv M'=>v=B true/\M'=M):=by have h2:=C4n gl c b u M hf hb hk hv a;rw[u.row_eq]at h2;refine A0o hB func301 ?_;simp -dsimp -implicitDefEqProofs[A1L.row];refine A0i func302 (C7v gl M 1) ?_;simp -dsimp -implicitDefEqProofs;refine A0i func303 h2 ?_;simp -dsimp -implicitDefEqProofs
end
end
@[simp] def E7W{a:ByteArray}{x y z:Int}:A1z prog .neq 152 (.agg [S a,I x,I y,I z]) (.agg [S a,I x,I y,I z])=some (B false):=by
 have h1:prog.eqGuardType prog.depth 152=false:=by kernel_rfl
 have h2:prog.stoodInHeld 152=false:=by kernel_rfl
 have h3:prog.stoodInHeld 150=false:=by kernel_rfl
 simp[A1z,A2O,A4s,A3I,A3F,h1,A8a,h2,h3,A2N]
@[simp] def E8R{k d:Int}:A1z prog .eql 46 (.agg [I k,I d,eS]) (.agg [I k,I d,eS])=some (B true):=by
 have h1:prog.eqGuardType prog.depth 46=false:=by kernel_rfl
 have h2:prog.stoodInHeld 46=false:=by kernel_rfl
 simp[A1z,A2O,A4s,A3I,A3F,h1,A8a,h2,A2N]
section
variable (gl:Nat->AV)
def C1H(l:List A0H)(o1 o2:Own)(M:Mem)(hl:l.length<=100000000):A0c (WC gl) 84 [.list 4 (A0g l) o1,.list 4 (A0g l) o2] M (λv M'=>v=B true/\M'=M):=by
 refine A0o hB func84 ?_;simp -dsimp -implicitDefEqProofs;refine A0y hB l.length 13 (λT M1=>∃i:Nat,M1=M/\i<=l.length/\T 0=.list 4 (A0g l) o1/\T 1=.list 4 (A0g l) o2/\T 12=I l.length/\T 13=I i) ?_ ?_
 .exact⟨0,rfl,by omega,by simp,by simp,by simp,by simp⟩
 rintro T M1 ⟨i,rfl,i1,t0,t1,b,c⟩;by_cases hi:i<l.length
 .have a:(i:Int)<l.length:=by omega
  have w1:IntKind.i64.wrap ((i:Int)+1)=(i+1:Nat):=by rw[A0J (by omega) (by omega)];omega
  simp -dsimp -implicitDefEqProofs[t0,t1,b,c,a];refine A0X hB (A0t gl) (λ_=>0) (λ_=>0) (by rfl) (by kernel_rfl) ?_;simp -dsimp -implicitDefEqProofs[t0,t1,b,c,hi,a,A0H.row,w1];exact⟨⟨i+1,by clear w1;omega,rfl⟩,by clear w1;omega⟩
 .have a:¬(i:Int)<l.length:=by omega
  simp -dsimp -implicitDefEqProofs[t0,t1,b,c,a]
def D5T(l:List A0a)(o1 o2:Own)(M:Mem)(hl:l.length<=1000000)(h:∀u∈l,∀M,A0c (WC gl) 28 [.agg u.row,.agg u.row] M (λv M'=>v=B true/\M'=M)):
 A0c (WC gl) 85 [.list 8 (A0q l) o1,.list 8 (A0q l) o2,fnV 28] M (λv M'=>v=B true/\M'=M):=by
 refine A3f (λ_=>trivial) ?_
 refine A0o hB func85 ?_
 simp -dsimp -implicitDefEqProofs
 refine A0y hB l.length 17 (λT M1=>∃i:Nat,Grow M M1/\i<=l.length/\T 1=.list 8 (A0q l) o2/\T 2=fnV 28/\T 15=.list 8 (A0q l) o1/\T 16=I l.length/\T 17=I i) ?_ ?_
 .exact⟨0,Grow.refl _,by omega,by simp,by simp,by simp,by simp,by simp⟩
 rintro T M1 ⟨i,hg,i1,t1,t2,e,c,d⟩
 by_cases hi:i<l.length
 case neg=>
  have g:¬(i:Int)<l.length:=by omega
  simp -dsimp -implicitDefEqProofs[t1,t2,e,c,d,g];exact hg
 have g:(i:Int)<l.length:=by omega
 have w1:=A1E (i:=i) (by omega)
 obtain⟨x,hx⟩:∃x,x=l[i]:=⟨_,rfl⟩
 have k:l[i]=x:=hx.symm
 have j:=A5k l i hi
 rw[k]at j
 obtain⟨M2,b⟩:∃M2,M2=M1++[A0p.cells 27 x.row]:=⟨_,rfl⟩
 have ha:M2[M1.length]?=some (A0p.cells 27 [I x.id.act,I x.id.item,I x.id.n,I x.kind,S x.label,.list 4 (A0g x.head) .no,.list 4 (A0g x.words) .no,.list 8 (A0q x.kids) .no]):=by rw[b,x.row_eq];simp
 have p:Grow M1 M2:=by rw[b];exact A0d.app none _ _
 obtain⟨M3,f⟩:∃M3,M3=M2++[A0p.cells 27 x.row]:=⟨_,rfl⟩
 have hb:M3[M2.length]?=some (A0p.cells 27 [I x.id.act,I x.id.item,I x.id.n,I x.kind,S x.label,.list 4 (A0g x.head) .no,.list 4 (A0g x.words) .no,.list 8 (A0q x.kids) .no]):=by rw[f,x.row_eq];simp
 have m:Grow M2 M3:=by rw[f];exact A0d.app none _ _
 have o:=m.get ha (by simp)
 have a:=h x (by rw[hx];exact Z0q hi) M3
 rw[x.row_eq]at a
 simp -dsimp -implicitDefEqProofs[t1,t2,e,c,d,hi,g,j,k,A0l,A0m,A0e,A0K,A0I]
 rw[show M1++[A0p.cells 27 x.row,A0p.cells 27 x.row]=M3 by rw[f,b];simp]
 simp -dsimp -implicitDefEqProofs[t1,t2,e,c,d,A0b o,show M1.length+1=M2.length by rw[b];simp,A0b hb]
 refine A0i func28 a ?_
 simp -dsimp -implicitDefEqProofs[t1,t2,e,c,d,w1]
 exact⟨⟨hg.trans (p.trans m),i+1,by clear w1;omega,rfl⟩,by clear w1;omega⟩
def C6N:∀(u:A0a) (M:Mem),u.lims->A0c (WC gl) 28 [.agg u.row,.agg u.row] M (λv M'=>v=B true/\M'=M)
 |.mk id kind lab hd ws ks,M,hlm=>by
  obtain⟨⟨b,a,e,-⟩,c⟩:=A3t _ hlm;have b:hd.length<=100000000:=b;have a:ws.length<=100000000:=a;have e:ks.length<=1000:=e;have c:=A3g.1 c;have d:(A0a.mk id kind lab hd ws ks).row=[I id.act,I id.item,I id.n,I kind,S lab,.list 4 (A0g hd) .no,.list 4 (A0g ws) .no,.list 8 (A0q ks) .no]:=by rw[A0a.row]
  have he:=B3h id id;rw[Z0v rfl]at he;have hk:=D5T gl ks .no .no M (by omega) (λk hk M=>by have:=A0a.kid_lt (u:=.mk id kind lab hd ws ks) hk;exact C6N k M (c k hk));rw[d];refine A0o hB func28 ?_;simp -dsimp -implicitDefEqProofs[he];refine A0i func84 (C1H gl hd .no .no M b) ?_;simp -dsimp -implicitDefEqProofs;refine A0i func84 (C1H gl ws .no .no M a) ?_;simp -dsimp -implicitDefEqProofs;refine A0i func85 hk ?_;simp -dsimp -implicitDefEqProofs
termination_by u=>SizeOf.sizeOf u
def C6k(M:Mem):A0c (WC gl) 84 [A0x,A0x] M (λv M'=>v=B true/\M'=M):=by
 refine A0o hB func84 ?_;simp -dsimp -implicitDefEqProofs;refine A0y hB 0 13 (λT M1=>M1=M/\T 12=I 0/\T 13=I 0) ?_ ?_
 .exact⟨rfl,by simp,by simp⟩
 rintro T M1 ⟨rfl,a,b⟩;simp -dsimp -implicitDefEqProofs[a,b]
def B4R(M:Mem):A0c (WC gl) 326 [A0x,A0x] M (λv M'=>v=B true/\M'=M):=by
 refine A0o hB func326 ?_;simp -dsimp -implicitDefEqProofs;refine A0y hB 0 13 (λT M1=>M1=M/\T 12=I 0/\T 13=I 0) ?_ ?_
 .exact⟨rfl,by simp,by simp⟩
 rintro T M1 ⟨rfl,a,b⟩;simp -dsimp -implicitDefEqProofs[a,b]
def B5M(M:Mem):A0c (WC gl) 178 [A0x,A0x] M (λv M'=>v=B true/\M'=M):=by
 refine A0o hB func178 ?_;simp -dsimp -implicitDefEqProofs;refine A0y hB 0 13 (λT M1=>M1=M/\T 12=I 0/\T 13=I 0) ?_ ?_
 .exact⟨rfl,by simp,by simp⟩
 rintro T M1 ⟨rfl,a,b⟩;simp -dsimp -implicitDefEqProofs[a,b]
def D8y(M:Mem):A0c (WC gl) 85 [A0x,A0x,fnV 28] M (λv M'=>v=B true/\M'=M):=by
 refine A0o hB func85 ?_;simp -dsimp -implicitDefEqProofs;refine A0y hB 0 17 (λT M1=>M1=M/\T 16=I 0/\T 17=I 0) ?_ ?_
 .exact⟨rfl,by simp,by simp⟩
 rintro T M1 ⟨rfl,a,b⟩;simp -dsimp -implicitDefEqProofs[a,b]
def C1Y(M:Mem):A0c (WC gl) 327 [A0x,A0x,fnV 243] M (λv M'=>v=B true/\M'=M):=by
 refine A0o hB func327 ?_;simp -dsimp -implicitDefEqProofs;refine A0y hB 0 17 (λT M1=>M1=M/\T 16=I 0/\T 17=I 0) ?_ ?_
 .exact⟨rfl,by simp,by simp⟩
 rintro T M1 ⟨rfl,a,b⟩;simp -dsimp -implicitDefEqProofs[a,b]
def D7t(M:Mem):A0c (WC gl) 28 [.agg [I 0,I 0,I 0,I 0,eS,A0x,A0x,A0x],.agg [I 0,I 0,I 0,I 0,eS,A0x,A0x,A0x]] M (λv M'=>v=B true/\M'=M):=by have he:=B3h idZ idZ;rw[Z0v rfl]at he;simp only[idZ]at he;refine A0o hB func28 ?_;simp -dsimp -implicitDefEqProofs[he];refine A0i func84 (C6k gl M) ?_;simp -dsimp -implicitDefEqProofs;refine A0i func84 (C6k gl M) ?_;simp -dsimp -implicitDefEqProofs;refine A0i func85 (D8y gl M) ?_;simp -dsimp -implicitDefEqProofs
def C3b(x:A1L)(M:Mem)(hp:∀p,x=.rep p->p.length<=1000000)(hu:∀u,x=.ins u->u.lims):A0c (WC gl) 243 [.agg x.row,.agg x.row] M (λv M'=>v=B true/\M'=M):=by
 cases x with
 |rep p=>have h1:=C2s gl p p .no .no M (hp p rfl);rw[Z0v rfl]at h1;have h2:=D7t gl M;refine A0o hB func243 ?_;simp -dsimp -implicitDefEqProofs[A1L.row];refine A0i func178 h1 ?_;simp -dsimp -implicitDefEqProofs;refine A0i func178 (B5M gl M) ?_;simp -dsimp -implicitDefEqProofs;refine A0i func326 (B4R gl M) ?_;simp -dsimp -implicitDefEqProofs;refine A0i func326 (B4R gl M) ?_;simp -dsimp -implicitDefEqProofs;refine A0i func28 h2 ?_;simp -dsimp -implicitDefEqProofs;refine A0i func327 (C1Y gl M) ?_;simp -dsimp -implicitDefEqProofs
 |ins u=>have h2:=C6N gl u M (hu u rfl);rw[u.row_eq]at h2;refine A0o hB func243 ?_;simp -dsimp -implicitDefEqProofs[A1L.row];refine A0i func178 (B5M gl M) ?_;simp -dsimp -implicitDefEqProofs;refine A0i func178 (B5M gl M) ?_;simp -dsimp -implicitDefEqProofs;refine A0i func326 (B4R gl M) ?_;simp -dsimp -implicitDefEqProofs;refine A0i func326 (B4R gl M) ?_;simp -dsimp -implicitDefEqProofs;refine A0i func28 h2 ?_;simp -dsimp -implicitDefEqProofs;refine A0i func327 (C1Y gl M) ?_;simp -dsimp -implicitDefEqProofs
end
end Go.Abs
