/- The texts CvZd, CvZe. -/
import Derived.Test.YtmpdkagfplajjaaGreatDoorGG35
import Derived.Test.YtmpdkagfplajjaaGreatDoorGG21
set_option linter.all false
set_option maxRecDepth 100000
namespace Go.Abs
open Go.Proofs TryTypes Tryz
abbrev D2s:={u:A0a//A0B u.label=true}
def E8y:D2s:=⟨.mk ⟨0,0,0⟩ 0 ⟨#[49]⟩ [] [] [],by decide⟩
def D6a(x:D2s):List AV:=x.1.row
def E0L(x y:D2s):Int:=D2F x.1 y.1
def D4X:A6b E0L:=by
 refine⟨λx y h h2=>?_,λx y z h1 h2 h3=>?_⟩
 .exact C2a ((A8w _ _).1 h) ((A8w _ _).1 h2)
 .have h1:=λh=>h1 ((A8w _ _).2 h);have h2:=λh=>h2 ((A8w _ _).2 h);have h3:=(A8w _ _).1 h3;by_cases e:ltK (A4w y.1) (A4w z.1)
  .exact h1 (B5V e h3)
  .have:=B5Y e h2;exact h1 (by rw[this];exact h3)
section
variable (gl:Nat->AV)
def D7E:B6x (WC gl) D6a E0L 54 [] []:=λx y M=>A0V func54 rfl rfl (D7v gl M x.1 y.1 x.2 y.2)
def C6S(ks:List A0a)(kv:AV)(M:Mem)(hk:A1b 27 8 A0a.row M kv ks)(hn:ks.length<40)(hl:∀k∈ks,A0B k.label=true)(hd:ks.Pairwise λa b=>A4w a≠A4w b):
 A0c (WC gl) 53 [kv,.func (.func 54) [] []] M (λ_ M'=>A1b 27 8 A0a.row M' kv (A1n ks)/\A0d (obj kv) M M'):=by
 rcases hk with⟨rfl,rfl⟩|⟨f,g,o,rfl,hm,t⟩
 .refine(B8S gl M _).mono ?_;rintro _ M' rfl;exact⟨.nil,.refl _ _⟩
 .obtain⟨D,hD⟩:∃D:Nat->D2s,(ofD D ks.length).map (·.1)=ks:=by
   refine⟨λi=>if h:i<ks.length then⟨ks[i],hl _ (Z0q h)⟩else E8y,?_⟩;apply List.ext_getElem
   .simp
   .intro i h1 h2;simp only[Z1R,B0L];rw[dif_pos h2]
  have p:∀D:Nat->D2s,(ofD D ks.length).flatMap D6a=((ofD D ks.length).map (·.1)).flatMap A0a.row:=λD=>by rw[Z2s];rfl
  have q:M[f]?=some (.vec 27 8 ((ofD D ks.length).flatMap D6a) g o):=by rw[p,hD];exact hm
  have d:f<M.length:=(Z0a.1 hm).1;refine(C1x gl (enc:=D6a) (c:=E0L) (fid:=54) (first:=[]) (cap:=[]) (f:=f) (g:=g) (n:=ks.length) (M0:=M) (λx=>by simp[D6a]) (D7E gl) d hn D M (AtA.start q t)).mono ?_;rintro _ M' ⟨E,hE,l,hs⟩;have hs:=hs D4X;have hp:((ofD E ks.length).map (·.1)).Perm ks:=by have:=l.perm.map (λx:D2s=>x.1);rw[hD]at this;exact this
  have m:B0u ((ofD E ks.length).map (·.1)):=by
   refine E0H ?_ ((Z3z (λ{a b} (h:A4w a≠A4w b)=>h.symm) hp).2 hd);rw[Z1O];intro i j hi hj r;simp only[Z1R,B0L];have:=hs i j (by omega) r (by simpa using hj)
   exactλh=>this ((A8w _ _).2 h)
  have hu:(ofD E ks.length).map (·.1)=A1n ks:=C0x (hp.trans (A0v ks).symm) m (B6p ks hd);obtain⟨e,rfl,s⟩:=hE;refine⟨.inr ⟨f,g,e,by rw[B5S],?_,by rw[B5S];exact s⟩,.set _ _ _⟩;rw[p,hu];simp[d]
def D1Y(ks:List A0a)(M:Mem)(hn:ks.length<=1000):A0c (WC gl) 52 [.list 8 (A0q ks) .no] M (λv M'=>A1b 27 8 A0a.row M' v ks/\Grow M M'/\A1g M.length v):=by
 refine A3b (hQ [5,7]) func52 rfl rfl rfl rfl rfl rfl ?_;have key:∀(K:AV->Mem->Prop),(∀v' M',A1b 27 8 A0a.row M' v' ks->Grow M M'->A1g M.length v'->K v' M')->A5x (WC gl) false true 25 25 (.vref M.length 0 8 0 0) (.list 8 (A0q ks) .no) (M++[.vec 27 8 [] 0 [(0,0)]]) K ⟨⟩:=by
  intro K hK;refine A3p (C:=WC gl) (enc:=A0a.row) (e:=27) (sz:=8) (news:=ks) A7P B2g B1T (λ_=>by simp) (A1b.new0 (M:=M)) (by simp[A0A,A3T,List.flatMap_def]) (by simp;omega) rfl ?_;intro v' M' h1 h2 h3 _;refine hK v' M' h1 ⟨by have:=h2.1;simp at this;omega,λi hi _=>by rw[h2.2 i (by simp;omega) (by simp;omega),Z0h hi]⟩ λq hq=>?_;rcases h3 with e|e
  .rw[e]at hq;simp at hq;omega
  .have:=e q hq;simp at this;omega
 cases ks with
 |nil=>
  have hr:A0q []=[]:=by rw[A0q]
  rw[hr]at key|-;simp -dsimp -implicitDefEqProofs;rw[A7w (.inl rfl) underlying25];intro b;cases b
  .simp -dsimp -implicitDefEqProofs[C3w];refine key _ ?_;intro v' M' h1 h2 h3;simp -dsimp -implicitDefEqProofs[h1,h2,h3]
  .simp -dsimp -implicitDefEqProofs[A1b.nil,A0d.refl,A1g]
 |cons k ks=>
  have hr:A0q (k::ks)=k.row::A0q ks:=by rw[A0q]
  rw[hr]at key|-;simp -dsimp -implicitDefEqProofs[C3w];refine key _ ?_;intro v' M' h1 h2 h3;simp -dsimp -implicitDefEqProofs[h1,h2,h3]
end
def A4z(o:Nat)(b:Option Nat)(M M':Mem):Prop:=M.length<=M'.length/\∀i,i<M.length->i≠o->b≠some i->M'[i]?=M[i]?
def A4z.step{o:Nat}{b b':Option Nat}{A B C:Mem}(h1:A4z o b A B)(h2:A4z o b' B C)(h:b'=b\/∀g,b'=some g->A.length<=g):A4z o b A C:=
 ⟨Z0X h1.1 h2.1,λi hi ho hb=>(h2.2 i (Z1i hi h1.1) ho (λe=>by
  rcases h with h|h
  .exact hb (h▸e)
  .have:=h i e;omega)).trans (h1.2 i hi ho hb)⟩
def A4z.of{o:Nat}{b:Option Nat}{A B:Mem}(h:A0d b A B):A4z o b A B:=⟨h.1,λi hi _ hb=>h.2 i hi hb⟩
def A4z.of_none{o:Nat}{b:Option Nat}{A B:Mem}(h:Grow A B):A4z o b A B:=⟨h.1,λi hi _ _=>h.2 i hi (by simp)⟩
def A4z.set{o:Nat}{b:Option Nat}(M:Mem)(X:A0p):A4z o b M (M.set o X):=⟨by simp,λi hi ho _=>by rw[Z0e (λe=>ho e.symm)]⟩
def A4z.get{o:Nat}{b:Option Nat}{A B:Mem}(h:A4z o b A B){i:Nat}{X:A0p}(hx:A[i]?=some X)(ho:i≠o)(hb:b≠some i):B[i]?=some X:=by rw[h.2 i (Z0a.1 hx).1 ho hb,hx]
def A1b.keep2{α:Type}{e sz:Nat}{enc:α->List AV}{M M':Mem}{v:AV}{l:List α}(h:A1b e sz enc M v l){o:Nat}{b:Option Nat}(hk:A4z o b M M')(ho:∀f,obj v=some f->f≠o/\b≠some f):A1b e sz enc M' v l:=by
 rcases h with⟨rfl,h⟩|⟨f',g,a,rfl,hm,hl⟩
 .exact .inl ⟨rfl,h⟩
 .exact .inr ⟨f',g,a,rfl,hk.get hm (ho _ rfl).1 (ho _ rfl).2,hl⟩
@[simp] def E7t:A2k prog 100=some false:=by kernel_rfl
@[simp] def E9m:A1t prog 100=some 1:=by kernel_rfl
abbrev C0p(o wv:Nat):AV:=.func (.func 51) [] [.ptr o 0,.ptr wv 0]
section
variable (gl:Nat->AV)
set_option maxHeartbeats 10000000 in
def D0J(o wv:Nat)(be:o≠wv):∀(N:Nat) (u:A0a) (l:List A0C) (p:Int) (v:AV) (M:Mem),A0j u<=N->A0j u<=40->u.good->B4B u->l.length+A0j u<=1000->A1b 69 5 A0C.row M v l->
 M[o]?=some (.cells 28 [v])->M[wv]?=some (.cells 100 [C0p o wv])->obj v≠some o->obj v≠some wv->
 A0c (WC gl) 51 [.agg u.row,I p,.ptr o 0,.ptr wv 0] M (λ_ M'=>∃v',M'[o]?=some (.cells 28 [v'])/\M'[wv]?=some (.cells 100 [C0p o wv])/\A1b 69 5 A0C.row M' v' (A4i (A1n u.kids) l p)/\A4z o (obj v) M M'/\(obj v'=obj v\/A1g M.length v'))
 |0,u,l,p,v,M,hN,_,_,_,_,_,_,_,_,_=>by have:=A3X u;omega
 |N+1,u,l,p,v,M,hN,h40,hg,hlab,hln,hv,ho,hw,z,a6=>by
  obtain⟨_,_,_,_,_,_,_,cb,ak⟩:=(A0a.good_iff _).1 hg;have bc:=A0G u;obtain⟨uid,a0,ac,bi,ba,ks⟩:=u;have ak:∀k∈ks,k.good:=ak;have bc:A0j (.mk uid a0 ac bi ba ks)=1+A0f ks:=bc;rw[B4B]at hlab;obtain⟨aa,ap⟩:=hlab;have aa:=B0g.1 aa;have cf:=A1Q ks;have c7:o<M.length:=(Z0a.1 ho).1;have c9:wv<M.length:=(Z0a.1 hw).1;show A0c (WC gl) 51 [.agg (A0a.mk uid a0 ac bi ba ks).row,I p,.ptr o 0,.ptr wv 0] M (λ_ M'=>∃v',M'[o]?=some (.cells 28 [v'])/\M'[wv]?=some (.cells 100 [C0p o wv])/\A1b 69 5 A0C.row M' v' (A4i (A1n ks) l p)/\A4z o (obj v) M M'/\(obj v'=obj v\/A1g M.length v'));rw[A0a.row];refine A3b (hQ [28]) func51 rfl rfl rfl rfl rfl rfl ?_;simp -dsimp -implicitDefEqProofs;refine A1l (A0V func52 rfl rfl (D1Y gl ks M (by omega))) ?_;rintro kv M1 ⟨hk,bx,b9⟩;simp -dsimp -implicitDefEqProofs;refine A1l (A0V func53 rfl rfl (C6S gl ks kv M1 hk (by omega) (λk h=>(aa k h).1) ap)) ?_;rintro r1 M2 ⟨hk,bz⟩;have ch:A0f (A1n ks)=A0f ks:=A0R (A0v ks);have c2:∀y∈A1n ks,y∈ks:=λy hy=>(A0v _).mem_iff.1 hy;generalize A1n ks=K at*;have am:A2v prog 25 kv=some K.length:=hk.len (e':=27) (by simp);have au:∀f,obj kv=some f->M.length<=f:=λf hf=>by have:=b9 f hf;exact this
  have m:A0d none M M2:=bx.chain bz (.inr au);simp -dsimp -implicitDefEqProofs[am];refine A1R (hQ [28]) (λT M3=>∃(j:Nat) (c:List A0C) (va:AV),j<=K.length/\T 1=I p/\T 2=.ptr o 0/\T 3=.ptr wv 0/\T 14=kv/\T 15=I K.length/\T 16=I j/\M3[o]?=some (.cells 28 [va])/\M3[wv]?=some (.cells 100 [C0p o wv])/\A1b 69 5 A0C.row M3 va c/\A1b 27 8 A0a.row M3 kv K/\A4z o (obj v) M M3/\(obj va=obj v\/A1g M.length va)/\obj va≠some o/\obj va≠some wv/\(∀f,obj kv=some f->obj va≠some f)/\A4i K l p=A4i (K.drop j) c p/\c.length+A0f (K.drop j)<=999) (λT M1=>match T 16 with|.val (.int _ i)=>K.length-i.toNat|_=>0) (by kernel_rfl) ?_ ?_
  .exact⟨0,l,v,by omega,by simp,by simp,by simp,by simp,by simp,by simp,m.get ho (by simp),m.get hw (by simp),hv.keep m (by simp),hk,A4z.of_none m,.inl rfl,z,a6,λf hf e=>by have:=hv.lt e;have:=au f hf;omega,by simp,by simp;omega⟩
  clear ho hw z a6 hk hv;rintro T M3 ⟨j,c,va,j1,t1,t2,t3,w,s,r,ho,hw,ha,hk,bb,al,z,a6,a9,ab,hc⟩;by_cases hj:j<K.length;case neg=>
   (have av:¬(j:Int)<K.length:=by omega);rw[show K.drop j=[]from Z0o (by omega),A4i]at ab
   rw[ab];simp -dsimp -implicitDefEqProofs[t1,t2,t3,w,s,r,av];exact⟨va,ho,hw,ha,bb,al⟩
  have av:(j:Int)<K.length:=by omega
  have w1:=A1E (i:=j) (by have:=A1Q K;omega);obtain⟨y,hy⟩:∃y,y=K[j]:=⟨_,rfl⟩;have ao:y∈ks:=c2 y (by rw[hy];exact Z0q hj);rw[Z0i hj,A4i,<-hy]at ab;rw[Z0i hj,A0f,<-hy]at hc;have cg:=A0G y;have cc:=A2u ao;have ca:=A0R (A0v y.kids);obtain⟨cd,bu⟩:=aa _ ao;have bt:=ak _ ao;obtain⟨f,g,rfl,d⟩:=hk.cells_at (λ_=>by simp) hj;have a9:=a9 f rfl;have ce:=au f rfl;have bj:=hk.lt (f:=f) rfl;rw[<-hy,y.row_eq]at d;have az:A1m prog 27 M3 (.vptr f g (j*8))=some (.agg [I y.id.act,I y.id.item,I y.id.n,I y.kind,S y.label,.list 4 (A0g y.head) .no,.list 4 (A0g y.words) .no,.list 8 (A0q y.kids) .no]):=by have:=d 0 (by omega);simp only[Z0U]at this;simp[A1m,this,A0k]
  obtain⟨X,hX⟩:∃X,X=A0p.cells 27 [I y.id.act,I y.id.item,I y.id.n,I y.kind,S y.label,.list 4 (A0g y.head) .no,.list 4 (A0g y.words) .no,.list 8 (A0q y.kids) .no]:=⟨_,rfl⟩;obtain⟨M4,a8⟩:∃M4,M4=M3++[X]:=⟨_,rfl⟩;have a:Grow M3 M4:=by rw[a8];exact A0d.app none _ _
  have a7:M4[M3.length]?=some X:=by rw[a8];simp
  have bf:=a.get ho (by simp);have bo:=a.get hw (by simp);have br:=ha.keep a (by simp);have c0:=hk.keep a (by simp);have aj:=bb.step (A4z.of_none (b:=obj v) a) (.inl rfl);rw[hX]at a7 a8;obtain⟨xo,bk⟩:∃xo,xo=M3.length:=⟨_,rfl⟩;have aq:o<M3.length:=(Z0a.1 ho).1;have aw:wv<M3.length:=(Z0a.1 hw).1;have a4:∀q,obj va=some q->q<M3.length:=λq hq=>ha.lt hq;rw[<-bk]at a7 aq aw a4 bj;simp -dsimp -implicitDefEqProofs[t1,t2,t3,w,s,r,hj,av,az,A0l,A0m,A0e,A0K,A0I];rw[<-a8,<-bk];simp -dsimp -implicitDefEqProofs[t1,t2,t3,w,s,r,A0b bf,A0b a7,D0X,A0n,A0W,A0K,A0I];refine A3p (C:=WC gl) (enc:=A0C.row) (e:=69) (sz:=5) (news:=[⟨y.id,p,y.label⟩]) E0b E4n E2W (λ_=>rfl) br (by simp[A0A,A0C.row]) (by simp;omega) rfl ?_;intro v1 M5 a1 a2 a3 _;have bs:=a2.get bf z;have c3:=a2.get bo a6;have bn:=a2.get a7 (λe=>by have:=a4 _ e;omega);have bq:=c0.keep a2 (by intro q hq;simp at hq;subst hq;exact a9);have c8:M3.length<=M4.length:=a.1;have c4:M4.length<=M5.length:=a2.1;have ar:∀q,obj v1=some q->obj va=some q\/M4.length<=q:=λq hq=>by
   rcases a3 with e|e
   .exact .inl (by rw[<-e];exact hq)
   .exact .inr (e q hq)
  have c6:xo<M4.length:=(Z0a.1 a7).1;have a5:obj v1≠some o:=λe=>by
   rcases ar _ e with h|h
   .exact z h
   .omega
  have af:obj v1≠some wv:=λe=>by
   rcases ar _ e with h|h
   .exact a6 h
   .omega
  have ag:obj v1≠some f:=λe=>by
   rcases ar _ e with h|h
   .exact a9 h
   .omega
  have bw:A0m (some 1) M5 (.ptr o 0) v1=some (M5.set o (.cells 28 [v1])):=by rw[A0h bs,a1.cells,Z0d ⟨a1.store,by simp,rfl⟩];rfl
  obtain⟨M6,x⟩:∃M6,M6=M5.set o (.cells 28 [v1]):=⟨_,rfl⟩;have b8:A4z o (obj v) M5 M6:=by rw[x];exact A4z.set _ _
  have ax:M6[o]?=some (.cells 28 [v1]):=by rw[x,Z3y (by omega)]
  have ay:M6[wv]?=some (.cells 100 [C0p o wv]):=by rw[x,Z0e be];exact c3
  have bv:M6[xo]?=some (A0p.cells 27 [I y.id.act,I y.id.item,I y.id.n,I y.kind,S y.label,.list 4 (A0g y.head) .no,.list 4 (A0g y.words) .no,.list 8 (A0q y.kids) .no]):=by rw[x,Z0e (by omega)];exact bn
  have ad:A0d (some o) M5 M6:=by rw[x];exact A0d.set _ _ _
  have b6:=a1.keep ad (λq hq=>by intro e;exact a5 (by rw[hq,Z1Q e]));have c1:=bq.keep ad (by intro q hq;simp at hq;subst hq;simp;omega);have ah:=(aj.step (A4z.of a2) al).step b8 (.inl rfl);have ai:obj v1=obj v\/A1g M.length v1:=by
   rcases a3 with e|e
   .rw[e];rcases al with h|h
    .exact .inl h
    .right;intro q hq;exact h q (by rw[<-e];exact hq)
   .right;intro q hq;have:=e q hq;have:=aj.1;omega
  have bg:A2v prog 28 v1=some (c.length+1):=by have:=b6.len (P:=prog) (t:=28) (e':=69) (by simp);simpa using this
  have w2:IntKind.i64.wrap (c.length:Int)=c.length:=A0J (by omega) (by omega);have ae:=(D0J o wv be N y (c++[⟨y.id,p,y.label⟩]) c.length v1 M6 (by omega) (by omega) bt bu (by simp;omega) b6 ax ay a5 af);rw[y.row_eq]at ae;simp -dsimp -implicitDefEqProofs[t1,t2,t3,w,s,r,bw];rw[<-x];simp -dsimp -implicitDefEqProofs[t1,t2,t3,w,s,r,A0b ax,A0b ay,A0b bv,bg,w2];refine A1l (A0V func51 rfl rfl ae) ?_;rintro r7 M7 ⟨v7,b1,b2,b3,b4,b5⟩;have bp:=c1.keep2 b4 (by intro q hq;simp at hq;subst hq;exact⟨by omega,ag⟩);have b0:=ah.step b4 ai;have bd:obj v7=obj v\/A1g M.length v7:=by
   rcases b5 with e|e
   .rw[e];rcases ai with h|h
    .exact .inl h
    .right;intro q hq;exact h q (by rw[<-e];exact hq)
   .right;intro q hq;have:=e q hq;have:=ah.1;omega
  have c5:M5.length<=M6.length:=b8.1;have an:∀q,obj v7=some q->obj v1=some q\/M6.length<=q:=λq hq=>by
   rcases b5 with e|e
   .exact .inl (by rw[<-e];exact hq)
   .exact .inr (e q hq)
  have bh:obj v7≠some o:=λe=>by
   rcases an _ e with h|h
   .exact a5 h
   .omega
  have b7:obj v7≠some wv:=λe=>by
   rcases an _ e with h|h
   .exact af h
   .omega
  have bm:obj v7≠some f:=λe=>by
   rcases an _ e with h|h
   .exact ag h
   .omega
  simp -dsimp -implicitDefEqProofs[t1,t2,t3,w,s,r,w1];exact⟨⟨j+1,by clear w1 w2;omega,rfl,_,v7,b1,b2,b3,bp,b0,bd,bh,b7,bm,ab,by rw[A8B];simp;clear w1 w2;omega⟩,by clear w1 w2;omega⟩
end
@[simp] def E7a:A0F prog 100=some [.nilFunc]:=by kernel_rfl
def D8Z:prog.stoodInHeld 69=false:=by kernel_rfl
def D3d:prog.eqGuardType prog.depth 69=false:=by kernel_rfl
def D9c(s:A0C):A1z prog .neq 69 (.agg [I s.id.act,I s.id.item,I s.id.n,I s.parent,S s.label]) (.agg [I s.id.act,I s.id.item,I s.id.n,I s.parent,S s.label])=some (B false):=by
 have h0:A2O prog .neq 69 (.agg [I s.id.act,I s.id.item,I s.id.n,I s.parent,S s.label]) (.agg [I s.id.act,I s.id.item,I s.id.n,I s.parent,S s.label])=none:=by simp[A2O,A3I]
 have h1:A8a prog 30 69 (.agg [I s.id.act,I s.id.item,I s.id.n,I s.parent,S s.label]) (.agg [I s.id.act,I s.id.item,I s.id.n,I s.parent,S s.label])=some true:=by simp[A8a,A2N,A0k,D8Z,B7Q]
 simp only[A1z,h0,A4s,D3d,h1];rfl
def B1a{u:A0a}(h:A2c u=true):A3W u=true:=by obtain⟨a,b,c,d,e,f⟩:=u;rw[A2c,Z0g]at h;exact h.1
def C5q{p k:Int}(h:A1Z p k=true):k≠0:=by
 rintro rfl;have hp:0<=p/\p<=7:=by
  refine Z1p λhc=>?_;have:A1Z p 0=false:=by simp only[A1Z,Z2M,Z1e];left;simp[A4X];omega
  rw[this]at h;simp at h
 obtain⟨n,rfl⟩:∃n:Nat,p=n:=⟨p.toNat,by omega⟩;have:n=0\/n=1\/n=2\/n=3\/n=4\/n=5\/n=6\/n=7:=by omega
 rcases this with rfl|rfl|rfl|rfl|rfl|rfl|rfl|rfl<;>simp[A1Z,A4X]at h
def B7a(kind:Int):∀(ks d:List A0a),A4x kind ks d=true->(∀k∈ks,A0B k.label=true/\A2c k=true)/\(d++ks).Pairwise (λa b=>A2W a b=false)\/¬d.Pairwise (λa b=>A2W a b=false)
 |[],d,h=>by
  by_cases c:d.Pairwise (λa b=>A2W a b=false)
  .left;exact⟨by simp,by simpa using c⟩
  .exact .inr c
 |k::ks,d,h=>by
  rw[A4x]at h;simp only[Z0g,Z1T]at h;obtain⟨⟨⟨h1,h2⟩,h3⟩,h4⟩:=h;by_cases c:d.Pairwise (λa b=>A2W a b=false);case neg=>exact .inr c
  have hb:(d++[k]).Pairwise (λa b=>A2W a b=false):=by rw[Z3i];refine⟨c,by simp,λa ha b hb=>?_⟩;simp only[Z0t,Z1E,Z2H]at hb;subst hb;have:=Z3c.1 h3 a ha;simpa using this
  rcases B7a kind ks (d++[k]) h4 with⟨q1,q2⟩|q
  .left;refine⟨λx hx=>?_,by simpa using q2⟩;rcases Z0t.1 hx with rfl|hx
   .have ha:=B1a h2;have hk:=C5q h1;simp only[A3W,Z0c hk,Z0g]at ha;exact⟨ha.2,h2⟩
   .exact q1 x hx
  .exact absurd hb q
def B7J:∀u:A0a,A2c u=true->B4B u
 |.mk id k l h w ks=>λhr=>by
  rw[A2c,Z0g]at hr;rw[B4B];rcases B7a k ks [] hr.2 with⟨q1,q2⟩|q
  .rw[Z1g]at q2;refine⟨B0g.2 λx hx=>?_,?_⟩
   .have:=A0a.kid_lt (u:=.mk id k l h w ks) hx;exact⟨(q1 x hx).1,B7J x (q1 x hx).2⟩
   .rw[Z1O]at q2|-;intro i j hi hj a e;have hs:=q2 i j hi hj a;simp only[A4w,Z0f]at e;obtain⟨e1,e2,e3⟩:=e;have hl:=D2A ks[i].label ks[j].label (q1 _ (Z0q hi)).1 (q1 _ (Z0q hj)).1 e2 (by(have h:(A3G ks[i].label).data=(A3G ks[j].label).data:=by have:=congrArg (λl:List UInt8=>(⟨l.toArray⟩:ByteArray)) e3;simpa[ByteArray.toList_eq]using this);exact ByteArray.ext h);simp[A2W,e1,hl]at hs
  .exact absurd .nil q
termination_by u=>SizeOf.sizeOf u
section
variable (gl:Nat->AV)
def D1l(n:gl 0=A2h)(l:gl 1=A2s)(u:A0a)(M:Mem)(b:Fit u)(o:A0j u<=40):A0c (WC gl) 15 [.agg u.row] M (λv M'=>A1b 69 5 A0C.row M' v (if A3E u then A4i (A1n u.kids) [] (-1)else[])/\Grow M M'/\A1g M.length v):=by
 have d:=C3e gl n l u M b;rw[C2d]at d;have g:A3E u=true->B4B u:=λh=>B7J u (by simp only[A3E,C0F,Z0g]at h;exact h.1.2.1.1.1);obtain⟨M1,a⟩:∃M1,M1=M++[A0p.cells 28 [.val (.slice none 0 0)],A0p.cells 100 [C0p M.length (M.length+1)]]:=⟨_,rfl⟩;have ho:M1[M.length]?=some (A0p.cells 28 [.val (.slice none 0 0)]):=by rw[a];simp
 have hw:M1[M.length+1]?=some (A0p.cells 100 [C0p M.length (M.length+1)]):=by rw[a];simp
 have k:=λ(h:A3E u=true)=>D0J gl M.length (M.length+1) (by omega) (A0j u) u [] (-1) (.val (.slice none 0 0)) M1 (Z0n _) o b.1 (g h) (by simp;omega) A1b.nil ho hw (by simp) (by simp);have j:=u.row_eq;rw[j]at d k|-;refine A3b (hQ []) func15 rfl rfl rfl rfl rfl rfl ?_;simp -dsimp -implicitDefEqProofs;refine A1l (A0V func50 rfl rfl d) ?_;rintro _ M ⟨rfl,rfl⟩;cases c:A3E u with
 |false=>simp -dsimp -implicitDefEqProofs[A1b.nil,A0d.refl,A1g]
 |true=>
  simp -dsimp -implicitDefEqProofs[A0l,A0m,A0e,A0K,A0I];rw[<-a];simp -dsimp -implicitDefEqProofs[A0b hw];refine A1l (A0V func51 rfl rfl (k c)) ?_;rintro r M2 ⟨v',h1,_,h3,h4,h5⟩;have f:A1g M.length v':=λq hq=>by
   rcases h5 with e|e
   .rw[e]at hq;simp at hq
   .have:=e q hq;rw[a]at this;simp at this;omega
  have m:Grow M M2:=by
   (have hl:M1.length=M.length+2:=by rw[a];simp);refine⟨by have:=h4.1;omega,λi hi _=>?_⟩
   rw[h4.2 i (by omega) (by omega) (by simp),a,Z0h hi]
  simp -dsimp -implicitDefEqProofs[A0b h1,h3,m,f]
def D5u(l:List A0C)(M:Mem)(hl:l.length<=1000):A0c (WC gl) 14 [.list 5 (A1U l) .no,.list 5 (A1U l) .no] M (λr M'=>r=B true/\M'=M):=by
 refine A3b hB func14 rfl rfl rfl rfl rfl rfl ?_;simp -dsimp -implicitDefEqProofs;refine A1R hB (λT M1=>∃i:Nat,i<=l.length/\M1=M/\T 0=.list 5 (A1U l) .no/\T 1=.list 5 (A1U l) .no/\T 5=I i) (λT M1=>match T 5 with|.val (.int _ i)=>l.length-i.toNat|_=>0) (by kernel_rfl) ?_ ?_
 .exact⟨0,by omega,rfl,by simp,by simp,by simp⟩
 rintro T M1 ⟨i,i1,rfl,t0,t1,t5⟩;by_cases hi:i<l.length;case neg=>
  have a:¬(i:Int)<l.length:=by omega
  simp -dsimp -implicitDefEqProofs[t0,t1,t5,a]
 have a:(i:Int)<l.length:=by omega
 have w1:=A1E (i:=i) (by omega);simp -dsimp -implicitDefEqProofs[t0,t1,t5,a];refine A0X hB (A0t gl) (λk=>0) (λk=>0) (by rfl) (by kernel_rfl) ?_;simp -dsimp -implicitDefEqProofs[t0,t1,t5,hi,A0C.row,D9c,w1];exact⟨⟨i+1,by clear w1;omega,rfl⟩,by clear w1;omega⟩
def C6K(d:gl 0=A2h)(c:gl 1=A2s)(u:A0a)(M:Mem)(a:Fit u)(b:A0j u<=40):A0c (WC gl) 15 [.agg u.row] M (λv M'=>v=.list 5 (A1U (if A3E u then A4i (A1n u.kids) [] (-1)else[])) .no/\M'=M):=A0c.still (λ_=>rfl) (λn x=>by simp[A0C.row,A1Y,bdd]) (D1l gl d c u M a b)
end
end Go.Abs
