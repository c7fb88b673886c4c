/- The texts CgC, CgD, CgI, CgE, CgF, CgG, CgK, CgH. -/
import Derived.Test.YtmpdkagfplajjaaGreatDoorHG40
import Derived.Test.YtmpdkagfplajjaaGreatDoorHG41
set_option linter.all false
set_option maxRecDepth 100000
namespace Go.Abs
open Go.Proofs TryTypes
abbrev C1a:=List IdD×Int
def A9m(l:List A0a):C1a:=match l with
 |[]=>([],7)
 |[x]=>([x.id],0)
 |_::_::_=>([],8)
def B5S(x:IdD)(q:A0a):Int:=A3i (λk=>(A0E x k).isSome) q.kids 0
def D6A(x:A0a)(tb:ByteArray)(q:A0a):Int:=A3i (λy=>decide (y.kind=x.kind)&&decide (y.label=tb)) q.kids 0
def D0Q(x q:A0a)(a b:Nat):List IdD:=(((q.kids.drop a).take (b+1-a)).filter λy=>decide (y.kind=x.kind)).map A0a.id
def B0n(u:A0a)(p:List A0w)(tb:ByteArray):C1a:=match A4t u p with
 |[]=>([],7)
 |[x]=>match B7A x.id u with
  |none=>([],7)
  |some q=>if D6A x tb q<0 then([],7)else if D6A x tb q<B5S x.id q then([],12)else(D0Q x q (B5S x.id q).toNat (D6A x tb q).toNat,0)
 |_::_::_=>([],8)
def A5T:A0a->List A0w->C1a
 |x,[]=>([x.id],0)
 |x,s::r=>match x.kids.find? (A1J s)with
  |none=>([],7)
  |some k=>A5T k r
def C6Q(u:A0a)(at_:IdD)(k:Int):Option A0a:=(A2a at_ u).reverse.find? λy=>decide (y.kind=k)
def C5D(u:A0a)(at_:IdD)(p:List A0w):C1a:=match p with
 |[]=>([],7)
 |s::r=>match C6Q u at_ s.k with
  |none=>([],7)
  |some y=>A5T y r
def A8w(u:A0a)(k:Int):List IdD->Option A0a
 |[]=>none
 |x::r=>match A0E x u with
  |some y=>if y.kind=k then some y else A8w u k r
  |none=>A8w u k r
def C7U(u:A0a)(said:List IdD)(p:List A0w):C1a:=match p with
 |[]=>([],7)
 |s::r=>match A8w u s.k said.reverse with
  |none=>([],7)
  |some y=>A5T y r
def B4Y(u:A0a)(at_:IdD)(said:List IdD)(c:A1e):C1a:=if c.k=0 then A9m (A4t u c.path)else if c.k=1 then B0n u c.path c.to else if c.k=2 then C5D u at_ c.path else if c.k=3 then C7U u said c.path else if c.k=4 then([],11)else([],1)
def B5m(u:A0a)(at_:IdD):List A1e->List IdD->Nat->List A1v
 |[],_,_=>[]
 |c::cs,ah,n=>⟨at_,n,(B4Y u at_ ah c).1⟩::B5m u at_ cs (ah++(B4Y u at_ ah c).1) (n+1)
def B7M(u:A0a)(at_:IdD):∀cs ah n,(B5m u at_ cs ah n).length=cs.length
 |[],_,_=>rfl
 |c::cs,ah,n=>by rw[B5m,Z0x,B7M u at_ cs,Z0x]
def C1d(u:A0a)(at_:IdD):∀(cs:List A1e) (ah:List IdD) (n i:Nat) (h:i<cs.length),cs[i].k=0->((B5m u at_ cs ah n)[i]'(by rw[B7M];exact h)).to=(A9m (A4t u cs[i].path)).1
 |c::cs,ah,n,0,h,hk=>by have hk:c.k=0:=hk;simp only[B5m,Z3x,B4Y,Z0e hk]
 |c::cs,ah,n,i+1,h,hk=>by simp only[B5m,Z2d];exact C1d u at_ cs _ _ i (by simpa using h) hk
def B6Z{α:Type}(g:α->Int):∀(ks:List α) (e:Int),ks.foldl (λe k=>A8J e (g k)) e=0->e=0/\∀k∈ks,g k=0
 |[],e,h=>⟨h,by simp⟩
 |k::ks,e,h=>by
  obtain⟨h1,h2⟩:=B6Z g ks _ h;obtain⟨h3,h4⟩:=B9S h1;refine⟨h3,λq hq=>?_⟩;rcases Z0s.1 hq with rfl|hq
  .exact h4
  .exact h2 q hq
section
variable {F:IdD->Option A0a} {l:List A0J} {s:List A1v} {D:Nat->IdD}
def C7a:∀f n,(A2x F l s f n).2.2=0->∀k∈A4b (λk=>A2l l k) l.length f n,B4D (A6h F l s (A2s F l k))=0
 |0,n,h,k,hk=>by rw[A4b]at hk;simp at hk
 |f+1,n,h,k,hk=>by
  rw[A2x]at h;simp only at h;obtain⟨h1,h2⟩:=B6Z (λt:A0a×List IdD×Int=>t.2.2) _ _ h;rw[A4b]at hk;rcases Z0s.1 hk with rfl|hk
  .exact h1
  .obtain⟨q,hq,hk⟩:=Z1S.1 hk;exact C7a f q (h2 _ (Z0C.2 ⟨q,hq,rfl⟩)) k hk
def D1I{w:List ByteArray×Bool}(h:B4D w=0):w.2=true/\w.1.length<=256:=by
 unfold B4D at h;split at h
 .simp at h
 .split at h
  .exact⟨by assumption,by omega⟩
  .simp at h
def B6m{f n:Nat}:∀{K:List Nat} {ks:List A0a},B8N (A9x F l s D f) K ks->K.Pairwise (λa b=>¬(A5J l a=A5J l b/\(A2s F l a).kind=(A2s F l b).kind))->n∈K->
 ∃q,ks.filter (A1J ⟨(A2s F l n).kind,A5J l n⟩)=[q]/\A9x F l s D f n q
 |[],[],_,_,h=>by simp at h
 |k::K,q::ks,h,hp,hn=>by
  obtain⟨h1,h2⟩:=h;obtain⟨p1,p2⟩:=List.pairwise_cons.1 hp;have d:B9l F l s D k q:=by
   cases f with
   |zero=>exact h1.elim
   |succ f=>exact h1.1
  have g:∀{K:List Nat} {ks:List A0a},B8N (A9x F l s D f) K ks->(∀a∈K,¬(A5J l n=A5J l a/\(A2s F l n).kind=(A2s F l a).kind))->ks.filter (A1J ⟨(A2s F l n).kind,A5J l n⟩)=[]:=by
   intro K;induction K with
   |nil=>intro ks h _;cases ks with|nil=>rfl|cons a b=>exact h.elim
   |cons a K ih=>
    intro ks h i;cases ks with
    |nil=>exact h.elim
    |cons b ks=>
     have hb:B9l F l s D a b:=by
      cases f with
      |zero=>exact h.1.elim
      |succ f=>exact h.1.1
     have:A1J ⟨(A2s F l n).kind,A5J l n⟩ b=false:=by
      unfold A1J;rw[hb.kind,hb.label,Z3f];by_cases c:(A2s F l a).kind=(A2s F l n).kind
      .right;exact Z0r λe=>i a (by simp) ⟨e.symm,c.symm⟩
      .left;exact Z0r c
     rw[Z1Z,Z0d (by rw[this];simp)];exact ih h.2 λa ha=>i a (by simp[ha])
  rcases Z0s.1 hn with rfl|hn
  .refine⟨q,?_,h1⟩;(have:A1J ⟨(A2s F l n).kind,A5J l n⟩ q=true:=by simp[A1J,d.kind,d.label]);rw[Z1Z,Z0e this,g h2 p1]
  .obtain⟨q',e1,e2⟩:=B6m h2 p2 hn;refine⟨q',?_,e2⟩;have:A1J ⟨(A2s F l n).kind,A5J l n⟩ q=false:=by
    unfold A1J;rw[d.kind,d.label,Z3f];have:=p1 n hn;by_cases c:(A2s F l k).kind=(A2s F l n).kind
    .right;exact Z0r λe=>this ⟨e,c⟩
    .left;exact Z0r c
   rw[Z1Z,Z0d (by rw[this];simp)];exact e1
 |[],_::_,h,_,_=>h.elim
 |_::_,[],h,_,_=>h.elim
end
section
variable {u:A0a} {l:List A0J} {s:List A1v} {number day:Int}
def D7H(h:B3e u l s number day=0):∀t∈A2j u l s,t.2.2=0:=by
 intro t ht;unfold B3e at h;split at h
 .rename_i h1;exact absurd h h1
 split at h
 .simp at h
 split at h
 .simp at h
 unfold C3F at h;split at h
 .simp at h
 have:=(B3E _ _ h).2 t ht;unfold C4H at this;split at this
 .exact this
 .simp at this
def C6K(hA:A7L u l s number day){x:IdD}(hx:x∈(A0R u).tail):∃k,∃h:k<l.length,l[k].id=x:=by have hS:=hA.sound;have:=D1b (l:=l.map A0J.id) (m:=(A0R u).tail) hS.nd (λy hy=>by obtain⟨z,hz,rfl⟩:=Z0C.1 hy;exact hS.mem z hz) (by rw[Z0G,hS.len];exact Z0n _) x hx;obtain⟨z,hz,rfl⟩:=Z0C.1 this;obtain⟨k,hk,rfl⟩:=Z2r hz;exact⟨k,hk,rfl⟩
def D5L(hA:A7L u l s number day)(he:B3e u l s number day=0){k:Nat}(hk:k<l.length):B4D (A6h (λy=>A0E y u) l s (A2s (λy=>A0E y u) l k))=0:=by
 have hS:=hA.sound;have hp:∀j,j<l.length->-1<=A2l l j/\A2l l j<j:=λj hj=>by have:=hS.ord j hj j hj (Z0n _);simpa[A2l,hj]using this
 have hf:=((A9f (par:=λk=>A2l l k) (N:=l.length) hp).2 k).2 hk;obtain⟨r,hr,a⟩:=Z1S.1 hf;exact C7a l.length r (D7H he _ (Z0C.2 ⟨r,hr,rfl⟩)) k a
def C0r(hA:A7L u l s number day)(p:Int):(A3M l p l.length).Pairwise (λa b=>¬(A5J l a=A5J l b/\(A2s (λy=>A0E y u) l a).kind=(A2s (λy=>A0E y u) l b).kind)):=by
 have h1:(A3M l p l.length).Pairwise (·<·):=by unfold A3M;exact Z3M _ Z4o
 refine Z2C ?_ h1;intro a b ha hb e;have c:=(A4q (par:=λk=>A2l l k) (N:=l.length)).1 hb;have d:=(A4q (par:=λk=>A2l l k) (N:=l.length)).1 ha;refine hA.slots.dup b c.1 a ?_;rw[show A2l l b=p from c.2];exact C5O e d.2
def C7N(hA:A7L u l s number day):∀(n f:Nat),n<l.length->n<f->∃p,A4C (λy=>A0E y u) l f n=A3n::p/\∃y g,A5B p [A2o u number (A2j u l s)]=[y]/\A9x (λy=>A0E y u) l s (B0p u l s number) g n y:=by
 have hS:=hA.sound;intro n;induction n using Nat.strongRecOn with
 |_ n ih=>
  intro f hn hf;obtain⟨f,rfl⟩:∃f',f=f'+1:=⟨f-1,by omega⟩;have j:=hS.ord n hn n hn (Z0n _);have o:A2l l n=l[n].parent:=by simp[A2l,hn]
  have i:¬((n:Int)<0):=by omega
  have hk:A4N (λy=>A0E y u) l n=(A2s (λy=>A0E y u) l n).kind:=B0K hS hn;have b:A5J l (n:Int).toNat=A5J l n:=by simp
  rw[A4C,Z0d i,hk,b];by_cases hr:A2l l n<0
  ·(have d:A2l l n=-1:=by omega);have c:A4C (λy=>A0E y u) l f (A2l l n)=[A3n]:=by
    cases f with
    |zero=>rfl
    |succ f=>rw[A4C,Z0e hr]
   rw[c];refine⟨[⟨(A2s (λy=>A0E y u) l n).kind,A5J l n⟩],rfl,?_⟩;have hW:=B3W (F:=λy=>A0E y u) (l:=l) (s:=s) (D:=B0p u l s number) number (A7a number u (A1O (λy=>A0E y u) l s)) hS.ord (λk y h=>by rw[B0p,A5g,h];rfl) (A3a l) u.kids.length (λk h=>A7o h) (λy hy=>B1U _ (B2s hS number) y hy);have a:n∈A3a l:=(A4q (par:=λk=>A2l l k) (N:=l.length) (p:=-1)).2 ⟨hn,d⟩;obtain⟨q,e1,e2⟩:=B6m hW (C0r hA (-1)) a;refine⟨q,l.length,?_,e2⟩;simp only[A5B,Z3l,List.foldl_nil,A4G,Z0Y,List.flatMap_nil,Z1d];exact e1
  .obtain⟨m,hm⟩:∃m:Nat,A2l l n=(m:Int):=⟨(A2l l n).toNat,by omega⟩;(have e:m<n:=by omega);obtain⟨p,hp,y,g,e1,e2⟩:=ih m e f (by omega) (by omega);rw[hm,hp];refine⟨p++[⟨(A2s (λy=>A0E y u) l n).kind,A5J l n⟩],rfl,?_⟩;cases g with
   |zero=>exact e2.elim
   |succ g=>have a:n∈A3M l m l.length:=(A4q (par:=λk=>A2l l k) (N:=l.length) (p:=(m:Int))).2 ⟨hn,hm⟩;obtain⟨q,q1,q2⟩:=B6m e2.2 (C0r hA m) a;refine⟨q,g,?_,q2⟩;unfold A5B at e1|-;rw[Z3c,e1];simp only[Z3l,List.foldl_nil,A4G,Z0Y,List.flatMap_nil,Z1d];exact q1
def C8e(hA:A7L u l s number day){n f:Nat}(hn:n<l.length)(hf:n<f):A9m (A4t (A2o u number (A2j u l s)) (A4C (λy=>A0E y u) l f n))=([B0p u l s number n],0):=by
 obtain⟨p,hp,y,g,e1,e2⟩:=C7N hA n f hn hf;have hb:C4E A3n=true:=rfl;rw[hp,A4t,A7K,Z0e hb,e1];cases g with
 |zero=>exact e2.elim
 |succ g=>have:=e2.1.id;simp[A9m,this]
end
def A6J(u:A0a)(at_:IdD)(said:List IdD)(o:Own):List AV:=u.row++at_.row++[.list 3 (A1l said) o]
section
variable {cs:List A1e} {nm:Nat->List (List A0w)}
def C5a{n:Nat}:∀N,n<=N->N<=cs.length->∃r,A2W cs nm N=A2W cs nm n++r
 |0,h,_=>⟨[],by rw[show n=0 by omega];simp⟩
 |N+1,h,hN=>by
  by_cases e:n=N+1
  .exact⟨[],by rw[e];simp⟩
  .obtain⟨r,hr⟩:=C5a (n:=n) N (by omega) (by omega);exact⟨_,by rw[A8l cs nm N (by omega),hr,Z0F]⟩
def D7r{n N k:Nat}(hn:n<N)(hN:N<=cs.length)(hk:k<(nm n).length):(A2W cs nm N)[(A2W cs nm n).length+k]?=some ⟨0,(nm n)[k],⟨#[]⟩,0,0⟩:=by
 obtain⟨r,hr⟩:=C5a (cs:=cs) (nm:=nm) (n:=n+1) N (by omega) hN;have a:nm n≠[]:=λe=>by rw[e]at hk;simp at hk
 rw[hr,A8l cs nm n (by omega),Z0d a,Z0F,Z1y (by omega),Z1X,Z0i (by simpa using hk),Z1g,Z0l hk];rfl
end
def D3I{a b:List A1e}(h:A8s a b=true){i:Nat}{y:A1e}(hy:b[i]?=some y):∃x,a[i]?=some x/\B1w x y=true:=by
 unfold A8s at h;simp only[Z0f,Z0k,Z0p]at h;obtain⟨h1,h2⟩:=h;obtain⟨hi,he⟩:=Z0a.1 hy;have ha:i<a.length:=by omega
 refine⟨a[i],Z0l ha,h2 (a[i],y) ?_⟩;refine Z4r.2 ⟨i,?_⟩;rw[List.getElem?_zip_eq_some];exact⟨Z0l ha,hy⟩
def D2s{a b:List A1e}(h:A8s a b=true):a.length=b.length:=by unfold A8s at h;simp only[Z0f,Z0k]at h;exact h.1
def D3i{a b:List A0w}(h:a.map (λs=>(s.k,s.lab))=b.map (λs=>(s.k,s.lab))):a=b:=by
 have:=congrArg (List.map λq:Int×ByteArray=>A0w.mk q.1 q.2) h;simp only[Z1K]at this;have e:((λq:Int×ByteArray=>A0w.mk q.1 q.2)∘λs:A0w=>(s.k,s.lab))=id:=by funext s;rfl
 rwa[e,Z4n,Z4n]at this
section
variable {u:A0a} {l:List A0J} {s:List A1v} {number day:Int}
def C1u(hA:A7L u l s number day)(x:IdD):(A5N x (A3D number u (A2j u l s))).isSome=(A1U l x).isSome:=by
 by_cases hx:x∈(A0R u).tail
 .rw[C0v hA hx];obtain⟨k,hk,a⟩:=C6K hA hx;symm;rw[Z1W,A1U,List.findIdx?_isSome,Z2U];exact⟨l[k],Z0o hk,by simpa using a⟩
 .have h1:A5N x (A3D number u (A2j u l s))=none:=by
   have e:A3D number u (A2j u l s)=_:=B1o (s:=s) hA.sound number;rw[A5N,e,Option.map_eq_none_iff,List.find?_eq_none];intro y hy;obtain⟨z,hz,rfl⟩:=Z0C.1 hy;simp only[Z0k]
   exactλe=>hx (e▸hz)
  have h2:(A1U l x).isSome=false:=by
   rw[A1U,List.findIdx?_isSome,Z3w];intro y hy;simp only[Z0k]
   exactλe=>hx (e▸hA.sound.mem y hy)
  rw[h1,h2];rfl
def C9o(hA:A7L u l s number day){id:IdD}{n:Int}{tl:List IdD}(f:A8L s id n=tl)(c:∀y∈tl,(A5N y (A3D number u (A2j u l s))).isSome=true):(A1K (λy=>A0E y u) l s id n).length=tl.length/\∀k (h:k<tl.length) (h':k<(A1K (λy=>A0E y u) l s id n).length),∃d,A5N tl[k] (A3D number u (A2j u l s))=some d/\A9m (A4t (A2o u number (A2j u l s)) (A1K (λy=>A0E y u) l s id n)[k])=([d],0):=by
 have a:(tl.all λy=>(A1U l y).isSome)=true:=Z0p.2 λy hy=>by rw[<-C1u hA];exact c y hy
 have hn:A1K (λy=>A0E y u) l s id n=tl.map λy=>A4C (λy=>A0E y u) l ((A1U l y).getD 0+1) ((A1U l y).getD 0:Nat):=by unfold A1K;rw[f,Z0e a]
 refine⟨by rw[hn,Z0G],λk h h'=>?_⟩
 obtain⟨q,hq⟩:=Z2W.1 (Z0p.1 a tl[k] (Z0o h))
 have b:=(Z2K.1 hq).1
 have e:l[q].id=tl[k]:=by have:=List.findIdx?_eq_some_iff_getElem.1 hq;obtain⟨_,h2,_⟩:=this;simpa using h2
 have g:B0p u l s number q=A5g u l s number tl[k]:=by rw[B0p,D1a hA.sound b,e]
 refine⟨B0p u l s number q,?_,?_⟩
 .rw[g,<-C0v hA (x:=tl[k]) (by rw[<-e];exact hA.sound.mem _ (Z0o b))]
 .simp only[hn,Z1R,hq,Z1w];exact C8e hA b (by omega)
structure E0e (u v:A0a) (l:List A0J) (s:List A1v) (D:List (IdD×IdD)) (x d:IdD):Prop where
 ex:∃(a y:A0a),A0E x u=some a/\A0E d v=some y/\a.words.length<=300/\a.good/\y.words.length<=256/\y.good/\
  (B5m v d (A2d (A0z y.words) 0) [] 0).length=(A2W (A2d (A0z a.words) 0) (λn:Nat=>A1K (λz=>A0E z u) l s a.id n) (A2d (A0z a.words) 0).length).length/\
  (∀n,n<(A2d (A0z a.words) 0).length->(∀z∈A8L s a.id n,(A5N z D).isSome=true)->(A1K (λz=>A0E z u) l s a.id n).length=(A8L s a.id n).length/\∀k (h:k<(A8L s a.id n).length),∃e m,A5N (A8L s a.id n)[k] D=some e/\(B5m v d (A2d (A0z y.words) 0) [] 0)[(A2W (A2d (A0z a.words) 0) (λn:Nat=>A1K (λz=>A0E z u) l s a.id n) n).length+k]?=some m/\m.to=[e])/\
  ((∀n:Nat,n<(A2d (A0z a.words) 0).length->A1K (λz=>A0E z u) l s a.id n=[])->A0z y.words=A0z a.words)
def C3i(xs:List ByteArray):A4W xs [] []=xs:=by simp[A4W,B5p]
def C6Y{cs:List A1e}{nm:Nat->List (List A0w)}:∀N,N<=cs.length->(∀n,n<N->nm n=[])->A7I cs nm N=[]/\A9t nm N=[]
 |0,_,_=>by simp[A7I,A9t]
 |N+1,hN,h=>by obtain⟨h1,h2⟩:=C6Y (cs:=cs) (nm:=nm) N (by omega) λn hn=>h n (by omega);rw[B6B cs nm N (by omega),B5R,h1,h2,h N (by omega)];simp
def D8k(hf:Fit u)(hl:l.length<=500)(a7:∀s∈l,s.good)(ht:∀m∈s,m.to.length<=40)(hA:A7L u l s number day)(he:B3e u l s number day=0){x:IdD}(hx:x∈(A0R u).tail):E0e u (A2o u number (A2j u l s)) l s (A3D number u (A2j u l s)) x (A5g u l s number x):=by
 have hS:=hA.sound
 obtain⟨k,hk,i⟩:=C6K hA hx
 have a3:=D0Z (u:=u) (l:=l) (s:=s) number hA.n1 hA.id
 have t:=D1d hf hl a7 ht hA
 obtain⟨y,hy,g,_⟩:=D4t (s:=s) hS number hk
 obtain⟨a,ha,q,p,a9⟩:=hS.fd k hk
 have w:A2s (λy=>A0E y u) l k=a:=by simp[A2s,hk,ha]
 have a5:B0p u l s number k=A5g u l s number x:=by rw[B0p,D1a hS hk,i]
 have a8:A0E (A5g u l s number x) (A2o u number (A2j u l s))=some y:=by rw[<-a5,<-g.id];exact A8Z a3 hy
 obtain⟨r1,r2⟩:=D1I (D5L hA he hk)
 have hw:=g.words
 rw[w]at r1 r2 hw
 obtain⟨cs,d⟩:=ex (A2d (A0z a.words) 0)
 obtain⟨nm,b⟩:∃nm:Nat->List (List A0w),nm=λn:Nat=>A1K (λz=>A0E z u) l s a.id n:=⟨_,rfl⟩
 have a2:(A6h (λy=>A0E y u) l s a).1=A4W (A0z a.words) (A7I cs nm cs.length) (A9t nm cs.length):=by rw[d,b];rfl
 have j:A8s (A2d (A0z y.words) 0) (A2W cs nm cs.length)=true:=by rw[hw];rw[d,b];exact r1
 refine⟨a,y,by rw[<-i];exact ha,a8,p,q,?_,?_,?_,?_,?_⟩
 .have:=congrArg List.length hw;simp only[A0z,Z0G]at this;omega
 .exact(A7V _ t y hy).1
 .rw[B7M,D2s j,d,b]
 .intro n hn o;rw[<-d]at hn;obtain⟨h1,h2⟩:=C9o hA (id:=a.id) (n:=n) rfl o;refine⟨h1,λk h=>?_⟩;have r:k<(nm n).length:=by rw[b];simp only;omega
  obtain⟨e,e1,e2⟩:=h2 k h (by omega);have a1:=D7r (cs:=cs) (nm:=nm) hn (Z0n _) r;obtain⟨c,c1,c2⟩:=D3I j a1;obtain⟨hi,c3⟩:=Z0a.1 c1;simp only[B1w,Z0f,Z0k]at c2;have hp:c.path=(nm n)[k]:=D3i c2.2;have a6:(A2d (A0z y.words) 0)[(A2W cs nm n).length+k].k=0:=by rw[c3];exact c2.1.1
  have f:=C1d (A2o u number (A2j u l s)) (A5g u l s number x) (A2d (A0z y.words) 0) [] 0 _ hi a6;have a0:(A2d (A0z y.words) 0)[(A2W cs nm n).length+k].path=(A1K (λz=>A0E z u) l s a.id n)[k]'(by omega):=by rw[c3,hp];simp only[b]
  rw[a0,e2]at f;refine⟨e,_,e1,?_,f⟩;rw[<-d,<-b];exact Z0l _
 .intro h0;have a4:∀n,n<cs.length->nm n=[]:=λn hn=>by rw[b];exact h0 n (by rw[<-d];exact hn)
  obtain⟨o1,o2⟩:=C6Y (cs:=cs) (nm:=nm) cs.length (Z0n _) a4;rw[hw,a2,o1,o2,C3i]
end
open Go.Proofs TryTypes Tryz
section
variable (gl:Nat->AV)
def D2D(D:List (IdD×IdD))(o:Own)(x:IdD)(M:Mem)(hl:D.length<=1000000):A0e (WC gl) 43 [.list 6 (D.map A2Z) o,.agg x.row] M (λv M'=>v=B (A5N x D).isSome/\M'=M):=by refine A3r (λ_=>trivial) ?_;have hx:x.row=[I x.act,I x.item,I x.n]:=rfl;have hc:=C1S gl M x D o hl;have a:∀z:IdD,z.row=[I z.act,I z.item,I z.n]:=λ_=>rfl;simp only[a]at hc;rw[hx];refine A0n hB func43 ?_;simp -dsimp;refine A0h func31 hc ?_;simp -dsimp[A0k,A0i,A0d,A0y,A0v];exact A0c.app none _ _
def C9P(a b:List IdD)(o p:Own)(M:Mem)(hl:a.length<=1000000)(e:a=b):A0e (WC gl) 44 [.list 3 (A1l a) o,.list 3 (A1l b) p] M (λv M'=>v=B true/\M'=M):=by
 subst e;refine A0n hB func44 ?_;simp -dsimp;refine A0B hB a.length 5 (λT M1=>∃i:Nat,i<=a.length/\M1=M/\T 0=.list 3 (A1l a) o/\T 1=.list 3 (A1l a) p/\T 5=I i) ?_ ?_
 .exact⟨0,by omega,rfl,by simp,by simp,by simp⟩
 rintro T M1 ⟨i,i1,rfl,t0,t1,t5⟩;by_cases hi:i<a.length;case neg=>
  have c:¬(i:Int)<a.length:=by omega
  simp -dsimp[t0,t1,t5,c]
 have c:(i:Int)<a.length:=by omega
 have w1:=A1H (i:=i) (by omega);obtain⟨y,hy⟩:=ex (a[i]);have h:(A1l a)[i]?=some [I y.act,I y.item,I y.n]:=by simp[A1l,hi,hy,IdD.row]
 have d:=C3q y y;have f:a[i]=y:=hy.symm;have g:y.row=[I y.act,I y.item,I y.n]:=rfl;rw[Z0w rfl]at d;simp -dsimp[t0,t1,t5,c];refine A0Z hB (A0u gl) (λ_=>0) (λ_=>0) (by rfl) (by kernel_rfl) ?_;simp -dsimp[t0,t1,t5,hi,c,h,f,g,d,w1];exact⟨⟨i+1,by clear w1;omega,rfl⟩,by clear w1;omega⟩
end
def B2d(x:IdD)(u:A0a):AV:=match B7A x u with
 |none=>.tuple [.agg (A1z (A0E idZ u)),I (-1),B false]
 |some p=>.tuple [.agg p.row,I (B5S x p),B true]
def D0O{x:IdD}{u p:A0a}(h:B7A x u=some p):p∈A2R u:=A8e x u p (List.dropLast_subset _ (List.mem_of_getLast? h))
section
variable (gl:Nat->AV)
def B5W(u:A0a)(x:IdD)(M:Mem)(hf:Fit u)(hn:(A0R u).Nodup):A0e (WC gl) 255 [.agg u.row,.agg x.row] M (λv M'=>v=B2d x u/\M'=M):=by
 refine A0e.dataX ?_;have hx:x.row=[I x.act,I x.item,I x.n]:=rfl;obtain⟨Ma,g⟩:=ex (M++[z8]);have s:Grow M Ma:=by rw[g];exact A0c.app none _ _
 have q:Ma[M.length]?=some z8:=by rw[g];simp
 have a:=C2Q gl u x Ma hf;have key:∀(p:IdD) (k:Int) (b:Bool) (fr:Option A0a),C9B x u=.tuple [.agg p.row,I k,B b]->A0E p u=fr->B2d x u=.tuple [.agg (A1z fr),I k,B b]->
  A0e (WC gl) 255 [.agg u.row,.agg x.row] M (λv M'=>Grow M M'/\Still M' M.length (bdd M.length) [v] [B2d x u]):=by
  intro p k b fr h1 h2 h3
  rw[h1]at a
  rw[h3]
  have hp:p.row=[I p.act,I p.item,I p.n]:=rfl
  obtain⟨Mb,h⟩:=ex (Ma++[A0m.cells 23 [I p.act,I p.item,I p.n]])
  have m:Grow Ma Mb:=by rw[h];exact A0c.app none _ _
  have r:Mb[Ma.length]?=some (A0m.cells 23 [I p.act,I p.item,I p.n]):=by rw[h];simp
  have c:=A7p gl u p Mb hf
  rw[h2]at c
  obtain⟨fz,e⟩:=ex (A1z fr)
  rw[<-e]at c|-
  have t:fz.length=8:=by rw[e];cases fr<;>simp[A1z,zU]
  obtain⟨Mc,d⟩:=ex (Mb++[A0m.cells 27 fz])
  have o:Grow Mb Mc:=by rw[d];exact A0c.app none _ _
  have j:Mc[Mb.length]?=some (A0m.cells 27 fz):=by rw[d];simp
  have f:=(m.trans o).get q (by simp)
  have l:M.length<Mc.length:=(Z0a.1 f).1
  rw[hx,hp,u.row_eq]at a
  rw[hp,u.row_eq]at c
  rw[u.row_eq,hx]
  obtain⟨c0,c1,c2,c3,c4,c5,c6,c7,i⟩:∃c0 c1 c2 c3 c4 c5 c6 c7,fz=[c0,c1,c2,c3,c4,c5,c6,c7]:=by
   match fz,t with
   |[c0,c1,c2,c3,c4,c5,c6,c7],_=>exact⟨_,_,_,_,_,_,_,_,rfl⟩
  rw[i]at c j d
  refine A0n hB func255 ?_
  simp -dsimp[A0k]
  rw[<-g]
  refine A0h func34 a ?_
  simp -dsimp[A0k,A0i,A0d,A0y,A0v]
  rw[<-h]
  simp -dsimp[A0b r]
  refine A0h func32 c ?_
  simp -dsimp[A0k,A0i,A0d,A0y,A0v]
  rw[<-d]
  simp -dsimp[A0b j,A0f f,A0y,A0v,A0s l,A0j]
  rw[i]
  refine⟨A0V (s.trans (m.trans o)) (Z0n _),.tuple (.same ?_ (.same trivial (.same trivial .nil))) .nil⟩
  rw[i]at e
  rw[e]
  exact B5Y _ fr
 cases hp:B7A x u with
 |none=>exact key idZ (-1) false _ (by rw[C9B,hp];rfl) rfl (by rw[B2d,hp])
 |some p=>exact key p.id (B5S x p) true (some p) (by rw[C9B,hp];rfl) (A8Z hn (D0O hp)) (by rw[B2d,hp];rfl)
def C8g(k:A0a)(s:A0w)(M:Mem)(q:Nat)(hq:M[q]?=some (.cells 159 [I s.k,S s.lab])):A0e (WC gl) 335 [.agg k.row,.ptr q 0] M (λv M'=>v=B (A1J s k)/\M'=M):=by
 rw[k.row_eq];refine A0n hB func335 ?_;by_cases h1:k.kind=s.k
 .by_cases h2:k.label=s.lab
  .simp -dsimp[A1J,h1,h2,A0b hq]
  .simp -dsimp[A1J,h1,h2,A0b hq]
 .simp -dsimp[A1J,h1,A0b hq]
def C0o{p:A0a->Bool}:∀(l:List A0a) (i:Nat),(l.find? p=none/\A3i p l i=-1)\/∃k,∃h:k<l.length,l.find? p=some l[k]/\A3i p l i=((i+k:Nat):Int)
 |[],i=>.inl ⟨rfl,rfl⟩
 |x::l,i=>by
  rw[Z2n,A3i];by_cases c:p x=true
  .rw[c,Z0e rfl];exact .inr ⟨0,by simp,rfl,rfl⟩
  ·(have c':p x=false:=by simpa using c);rw[c',Z0d (by simp)]
   rcases C0o l (i+1)with⟨h1,h2⟩|⟨k,h,h1,h2⟩
   .exact .inl ⟨h1,h2⟩
   .exact .inr ⟨k+1,by simpa using h,by simpa using h1,by rw[h2];congr 1;omega⟩
def C0e:∀(p:List A0w) (x:A0a),(∃y:A0a,A5T x p=([y.id],0))\/A5T x p=([],7)
 |[],x=>.inl ⟨x,by rw[A5T]⟩
 |s::r,x=>by
  unfold A5T;cases x.kids.find? (A1J s)with
  |none=>exact .inr rfl
  |some k=>exact C0e r k
def D1w{x:A0a}{s:A0w}{r:List A0w}:A5T x (s::r)=match x.kids.find? (A1J s)with
 |none=>([],7)
 |some k=>A5T k r:=by rw[A5T]<;>rfl
end
abbrev B4c(r:C1a):AV:=.tuple [.list 3 (A1l r.1) .no,I r.2]
def A9w{M:Mem}{n:Nat}{e:Int}:Still M n (bdd n) [.tuple [A0G,I e]] [B4c ([],e)]:=.tuple (.nilS (.same trivial .nil)) .nil
def D5P(n:Nat)(l:List IdD):A7H n (A1l l):=B4J (f:=IdD.row) (λx=>B2c _ x) l
def B9k{M:Mem}{n:Nat}(X:C1a):Still M n (bdd n) [B4c X] [B4c X]:=.same (by simp only[bdd,A1I,Z1D];exact D5P n X.1) .nil
section
variable (gl:Nat->AV)
set_option maxHeartbeats 1000000 in
def C0C(u x:A0a)(id:IdD)(p:List A0w)(o:Own)(M:Mem)(hf:Fit u)(hx:A0E id u=some x)(hp:p.length<=1000):A0e (WC gl) 259 [.agg u.row,.agg id.row,.list 2 (A0T p) o] M (λv M'=>v=B4c (A5T x p)/\M'=M):=by
 refine A0e.dataX ?_;have m:=A7p gl u id M hf;rw[hx]at m;have hi:id.row=[I id.act,I id.item,I id.n]:=rfl;have ae:=(A6j hx).2;simp only[A1z,Z1W]at m;rw[u.row_eq,hi]at m|-;obtain⟨Ma,r⟩:=ex (M++[A0m.cells 27 x.row]);have ad:Grow M Ma:=by rw[r];exact A0c.app none _ _
 have aa:Ma[M.length]?=some (A0m.cells 27 x.row):=by rw[r];simp
 have a3:=x.row_eq;refine A0n hB func259 ?_;simp -dsimp;refine A0h func32 m ?_;rw[a3];simp -dsimp[A0k,A0i,A0d,A0y,A0v];rw[<-a3,<-r];refine A0B hB p.length 21 (λT Mi=>∃i:Nat,i<=p.length/\T 8=.ptr M.length 0/\T 19=.list 2 (A0T p) o/\T 20=I p.length/\T 21=I i/\Grow M Mi/\∃y,y∈A2R u/\Mi[M.length]?=some (A0m.cells 27 y.row)/\A5T x p=A5T y (p.drop i)) ?_ ?_
 .exact⟨0,by omega,by simp,by simp,by simp,by simp,ad,x,ae,aa,by simp⟩
 rintro T Mi ⟨i,i1,t8,h,t20,g,q,y,hy,l,hd⟩;have ac:=y.row_eq;rw[ac]at l;have ai:M.length<Mi.length:=(Z0a.1 l).1;by_cases hi2:i<p.length;case neg=>
  have w:¬(i:Int)<p.length:=by omega
  rw[Z0v (by omega)]at hd;have a9:A5T x p=([y.id],0):=by rw[hd];cases y;rfl
  simp -dsimp[t8,h,t20,g,w,A0b l,A0l,A0M,A0y,A0v];rw[a9];exact⟨q,.tuple (.dis (by simp[bdd,A7H,A1I]) (.same trivial .nil)) .nil⟩
 have w:(i:Int)<p.length:=by omega
 have w1:=A1H (i:=i) (by omega);obtain⟨s,hs⟩:=ex (p[i]);have a6:p[i]=s:=hs.symm;have af:(A0T p)[i]?=some [I s.k,S s.lab]:=by simp[A0T,hi2,hs,A0w.row]
 rw[Z0j hi2,a6,D1w]at hd;obtain⟨M2,a2⟩:=ex (Mi++[A0m.cells 159 [I s.k,S s.lab]]);have a0:Grow Mi M2:=by rw[a2];exact A0c.app none _ _
 have ag:M2[Mi.length]?=some (A0m.cells 159 [I s.k,S s.lab]):=by rw[a2];simp
 have j:=a0.get l (by simp);have a7:M.length<M2.length:=(Z0a.1 j).1;have ah:=A7V u hf y hy;have aj:=A1Z y.kids;have al:A0A y.kids<A0r y:=by obtain⟨a,b,c,d,e,f⟩:=y;rw[A0r];show A0A f<_;omega
 have ak:=ah.2.2;have a4:=B7K gl (A1J s) 335 [.ptr Mi.length 0] y.kids .no M2 (by omega) (λk _=>A1a func335 rfl rfl (C8g gl k s M2 Mi.length ag));simp -dsimp[t8,h,t20,g,w,af,hi2,a6,A0k,A0i,A0d,A0y,A0v];rw[<-a2];simp -dsimp[t8,h,t20,g,A0b j];refine A0h func90 a4 ?_;rcases C0o (p:=A1J s) y.kids 0 with⟨e1,e2⟩|⟨k,hk,e1,e2⟩
 .rw[e1]at hd;rw[hd];simp -dsimp[t8,h,t20,g,e2];exact⟨q.trans a0,A9w⟩
 .rw[e1]at hd;have t:=A3F y.kids k hk;obtain⟨z,hz⟩:=ex (y.kids[k]);rw[<-hz]at hd t;have a1:=z.row_eq;have a8:¬((0+k:Nat):Int)<0:=by omega
  have ab:((0+k:Nat):Int)=(k:Int):=by omega
  rw[ab]at e2;have a8:¬(k:Int)<0:=by omega
  have a5:(k:Int)<y.kids.length:=by omega
  rw[a1]at t;simp -dsimp[t8,h,t20,g,e2,a8,A0b j,t,hk,a5,A0f j,A0y,A0v,w1];refine⟨⟨i+1,by clear w1;omega,rfl,A0V (q.trans a0) (Z0n _),z,B0q u y hy z (by rw[hz];exact Z0o hk),?_,hd⟩,by clear w1;omega⟩;rw[a1];simp[a7];rw[<-hz,a1]
set_option maxHeartbeats 1000000 in
def D3z(u:A0a)(x:IdD)(M:Mem)(hf:Fit u):A0e (WC gl) 334 [.agg u.row,.agg x.row] M (λv M'=>v=.list 3 (A1l ((A2a x u).dropLast.reverse.map A0a.id)) .no/\M'=M):=by
 refine A0e.dataX ?_;have hx:x.row=[I x.act,I x.item,I x.n]:=rfl;have d:=B0l gl u x M hf.1 hf.2.2;have m:=A6Y x u;have a4:=hf.2.2;rw[u.row_eq,hx]at d|-;obtain⟨r,hr⟩:=ex (A2a x u);rw[<-hr]at d m|-;have w:A2y prog 25 (A5q r)=some r.length:=by cases r<;>simp[A5q]
 refine A0n (hQ [25]) func334 ?_;simp -dsimp;refine A0h func88 d ?_;have w2:IntKind.i64.wrap ((r.length:Int)-2)=r.length-2:=by rw[A0L (by omega) (by omega)]
 obtain⟨c,f⟩:=ex (r.dropLast.reverse.map A0a.id);have a3:c.length=r.length-1:=by rw[f];simp
 rw[<-f];simp -dsimp[w,w2];refine A2P (hQ [25]) (λT Mi=>∃i:Nat,i<=c.length/\T 6=A5q r/\T 7=I ((r.length:Int)-2-i)/\Grow M Mi/\Arr 23 3 IdD.row M.length Mi (T 5) (c.take i)) (λT Mi=>match T 7 with|.val (.int _ i)=>(i+1).toNat|_=>0) (by kernel_rfl) ?_ ?_
 .exact⟨0,by omega,by simp,by simp,Grow.refl _,by simpa using Arr.nil⟩
 rintro T Mi ⟨i,i1,t6,t7,h,ha⟩;by_cases hi:i<c.length;case neg=>
  obtain⟨zz,a2⟩:=ex ((r.length:Int)-2-i);rw[<-a2]at t7;have t:¬zz>=0:=by omega
  rw[Z0g (by omega)]at ha;simp -dsimp[t6,t7,t];exact⟨h,A2V (enc:=IdD.row) (λ_=>rfl) B2c ha.own ha.lat⟩
 obtain⟨j,hj⟩:∃j:Nat,c.length=i+1+j:=⟨c.length-i-1,by omega⟩;have z:(r.length:Int)-2-i=(j:Int):=by omega
 have g:j<r.length:=by omega
 have p:(j:Int)<r.length:=by omega
 have a1:(j:Int)>=0:=by omega
 rw[z]at t7;obtain⟨y,hy⟩:=ex (r[j]);have k:A5q r=.list 8 (A0p r) .no:=by cases r with|nil=>simp at g|cons a b=>rfl
 have o:(A0p r)[j]?=some y.row:=by rw[A3F r j g,hy]
 have l:=y.row_eq;have s:r[j]=y:=hy.symm;rw[l]at o;have w1:IntKind.i64.wrap ((j:Int)-1)=(j:Int)-1:=by rw[A0L (by omega) (by omega)]
 have q:c.take (i+1)=c.take i++[y.id]:=by rw[Z0A hi];congr 2;simp only[f,Z1R,List.getElem_reverse,List.getElem_dropLast,hy];congr 2;simp;omega
 generalize a0:T 5=ov at*;rw[k]at t6;simp -dsimp[t6,t7,a0,a1,o,s,l,g,p,A0l,A0M,A0y,A0v];refine A3B (C:=WC gl) (enc:=IdD.row) (e:=23) (sz:=3) (news:=[y.id]) B4i B8y C0u (λ_=>rfl) ha.own (by simp[A0D,IdD.row]) (by simp;omega) rfl ?_;intro v' M' h1 h2 h3 _;obtain⟨g1,g2⟩:=A2T (X:=[]) h ha.lat (by simpa using h2) (by simpa using h3);simp -dsimp[t6,t7,w1];refine⟨i+1,by omega,k.symm,?_,g1,by rw[q];exact⟨h1,g2⟩⟩;omega
end
def A5r.list{α:Type}{sz:Nat}{enc:α->List AV}{M:Mem}{v:AV}{l:List α}(h:A5r sz enc M v l)(hl:l≠[]):∃o,v=.list sz (l.map enc) o:=by
 rcases h with⟨_,h⟩|h|⟨f,h,_⟩
 .exact absurd h hl
 .exact⟨_,h⟩
 .exact⟨_,h⟩
def C1I:Option A0a->AV
 |none=>.tuple [.agg [I 0,I 0,I 0],B false]
 |some y=>.tuple [.agg y.id.row,B true]
section
variable (gl:Nat->AV)
def C9q{x:IdD}{u:A0a}{r:List A0a}(h:A2a x u=r)(a:r≠[]):∃w,A0E x u=some w/\w.id=x/\r.reverse=w::r.dropLast.reverse:=by
 rcases Z3g r with rfl|⟨q,w,rfl⟩
 .exact absurd rfl a
 .rw[Z4u]at*;have:=C3O (x:=x) (u:=u) (v:=w) (by rw[h];simp);exact⟨w,by rw[A6f,h];simp,this.1,by simp⟩
set_option maxHeartbeats 1000000 in
def C8x(u:A0a)(x:IdD)(k:Int)(M:Mem)(hf:Fit u)(hn:(A0R u).Nodup):A0e (WC gl) 258 [.agg u.row,.agg x.row,I k] M (λv M'=>v=C1I (C6Q u x k)/\M'=M):=by
 refine A0e.dataX ?_;have hx:x.row=[I x.act,I x.item,I x.n]:=rfl;obtain⟨z3,aa⟩:=ex (A0m.cells 23 [I 0,I 0,I 0]);obtain⟨Ma,z⟩:=ex (M++[z3]);have ak:Grow M Ma:=by rw[z];exact A0c.app none _ _
 have ar:Ma[M.length]?=some (A0m.cells 23 [I 0,I 0,I 0]):=by rw[z,aa];simp
 have a3:=λM y=>A7p gl u y M hf;have a:=λM=>D3z gl u x M hf;have a9:=A6Y x u;have b2:=hf.2.2;obtain⟨r,hr⟩:=ex (A2a x u);have am:∀y∈r,y∈A2R u:=λy hy=>A8e x u y (hr▸hy);have aj:A0x prog 23 []=some (.agg [I 0,I 0,I 0]):=by simp[A0x,A1b]
 unfold C6Q;rw[<-hr]at a a9|-;obtain⟨A,hA⟩:=ex (r.dropLast.reverse.map A0a.id);have hAl:A.length<=r.length:=by rw[hA];simp
 rw[<-hA]at a;obtain⟨c0,c1,c2,c3,c4,c5,c6,c7,b1⟩:∃c0 c1 c2 c3 c4 c5 c6 c7,A1z (A0E x u)=[c0,c1,c2,c3,c4,c5,c6,c7]:=by
  cases A0E x u with
  |none=>exact⟨_,_,_,_,_,_,_,_,rfl⟩
  |some y=>exact⟨_,_,_,_,_,_,_,_,y.row_eq⟩
 have q:=a3 Ma x;rw[b1]at q;obtain⟨Mb,ag⟩:=ex (Ma++[A0m.cells 27 [c0,c1,c2,c3,c4,c5,c6,c7]]);have a7:Grow Ma Mb:=by rw[ag];exact A0c.app none _ _
 have p:=a7.get ar (by simp);have ac:M.length<Mb.length:=(Z0a.1 p).1;rw[hx]at q a|-;simp only[u.row_eq]at q a a3|-;refine A0n hB func258 ?_;simp -dsimp[A0k];rw[<-aa,<-z];refine A0h func32 q ?_;simp -dsimp[A0k,A0i,A0d,A0y,A0v];rw[<-ag];rcases r.eq_nil_or_concat with h|⟨_,_,h⟩
 .have a1:A0E x u=none:=by rw[A6f,<-hr,h];rfl
  rw[a1,h];simp -dsimp[aj,A0f p,p,A0y,A0v,A0s ac,A0j];exact⟨A0V (ak.trans a7) (Z0n _),.same (by simp[bdd,A1I,C1I]) .nil⟩
 have ap:r≠[]:=by rw[h];simp
 obtain⟨w,aw,au,a0⟩:=C9q hr.symm ap;rw[aw,a0];obtain⟨L,hL⟩:=ex (w::r.dropLast.reverse);have b3:L.length=r.length:=by rw[<-a0]at hL;rw[hL];simp
 have az:∀y∈L,y∈A2R u:=λy hy=>am y (by rw[hL,<-a0]at hy;simpa using hy);have aq:A1l (L.map A0a.id)=[I x.act,I x.item,I x.n]::A1l A:=by rw[hL,Z0z,au,hA];rfl
 rw[<-hL];simp -dsimp;refine A0Z hB (A0u gl) (λk=>if k=5 then 2 else 0) (λ_=>0) (by rfl) (by kernel_rfl) ?_;simp -dsimp[A0l,A0M,A0y,A0v];refine A1p func334 a ?_;simp -dsimp;refine B1y (C:=WC gl) (enc:=IdD.row) (e:=23) (sz:=3) (l:=[x]) (news:=A) (o:=.no) B4i B8y C0u (show A5r 3 IdD.row Mb (.list 3 ([x].map IdD.row) .full) [x]from .full) (by simp;omega) rfl rfl ?_;intro v' M1 f1 f2 f3;have af:Grow Mb M1:=by refine⟨f2.1,λi hi _=>f2.2 i hi (by simp)⟩
 obtain⟨o2,rfl⟩:=f1.list (by simp);have a8:([x]++A).map IdD.row=A1l (L.map A0a.id):=by rw[aq];rfl
 rw[a8];have ah:=af.get p (by simp);simp -dsimp;refine A0B hB L.length 30 (λT Mi=>∃i:Nat,i<=L.length/\T 2=I k/\T 3=.cptr [I u.id.act,I u.id.item,I u.id.n,I u.kind,S u.label,.list 4 (A0g u.head) .no,.list 4 (A0g u.words) .no,.list 8 (A0p u.kids) .no]/\T 6=.ptr M.length 0/\T 28=.list 3 (A1l (L.map A0a.id)) o2/\T 29=I L.length/\T 30=I i/\Grow M Mi/\Mi[M.length]?=some (A0m.cells 23 [I 0,I 0,I 0])/\L.find? (λy=>decide (y.kind=k))=(L.drop i).find? (λy=>decide (y.kind=k))) ?_ ?_
 .exact⟨0,by omega,by simp,by simp,by simp,by simp,by simp,by simp,ak.trans (a7.trans af),ah,by simp⟩
 rintro T Mi ⟨i,i1,t2,t3,t6,c,f,d,ae,m,b⟩;have an:M.length<Mi.length:=(Z0a.1 m).1;by_cases hi:i<L.length;case neg=>
  have a2:¬(i:Int)<L.length:=by omega
  rw[Z0v (by omega)]at b;rw[b];simp -dsimp[t2,t3,t6,c,f,d,a2,aj,A0f m,m,A0y,A0v,A0s an,A0j];exact⟨A0V ae (Z0n _),.same (by simp[bdd,A1I,C1I]) .nil⟩
 have a2:(i:Int)<L.length:=by omega
 have w1:=A1H (i:=i) (by omega);obtain⟨y,hy⟩:=ex (L[i]);have ax:=az y (by rw[hy];exact Z0o hi);have b0:(A1l (L.map A0a.id))[i]?=some [I y.id.act,I y.id.item,I y.id.n]:=by simp[A1l,hi,<-hy,IdD.row]
 rw[Z0j hi,<-hy,Z2n]at b;have ay:L[i]=y:=hy.symm;have t:y.id.row=[I y.id.act,I y.id.item,I y.id.n]:=rfl;obtain⟨M2,a6⟩:=ex (Mi++[A0m.cells 23 [I y.id.act,I y.id.item,I y.id.n]]);have ai:Grow Mi M2:=by rw[a6];exact A0c.app none _ _
 have ao:M2[Mi.length]?=some (A0m.cells 23 [I y.id.act,I y.id.item,I y.id.n]):=by rw[a6];simp
 have j:=a3 M2 y.id;rw[A8Z hn ax,t]at j;simp only[A1z,Z1W]at j;have av:=y.row_eq;rw[av]at j;obtain⟨M3,a4⟩:=ex (M2++[A0m.cells 27 [I y.id.act,I y.id.item,I y.id.n,I y.kind,S y.label,.list 4 (A0g y.head) .no,.list 4 (A0g y.words) .no,.list 8 (A0p y.kids) .no]]);have a5:Grow M2 M3:=by rw[a4];exact A0c.app none _ _
 have ab:M3[M2.length]?=some (A0m.cells 27 [I y.id.act,I y.id.item,I y.id.n,I y.kind,S y.label,.list 4 (A0g y.head) .no,.list 4 (A0g y.words) .no,.list 8 (A0p y.kids) .no]):=by rw[a4];simp
 have al:=a5.get ao (by simp);have g:=(ai.trans a5).get m (by simp);have ad:M.length<M3.length:=(Z0a.1 g).1;have s:=ae.trans (ai.trans a5);simp -dsimp[t2,t3,t6,c,f,d,hi,a2,b0,ay,t,A0k,A0i,A0d,A0y,A0v];rw[<-a6];simp -dsimp[t2,t3,t6,c,f,d,A0b ao];refine A0h func32 j ?_;simp -dsimp[t2,t3,t6,c,f,d,A0k,A0i,A0d,A0y,A0v];rw[<-a4];by_cases hk:y.kind=k
 .rw[Z0w hk]at b;rw[b];simp -dsimp[t2,t3,t6,c,f,d,A0b ab,hk,A0b al,A0f g,A0y,A0v,A0s ad,A0j];exact⟨A0V s (Z0n _),.same (by simp[bdd,A1I,C1I,IdD.row]) .nil⟩
 .rw[Z0r hk]at b;simp -dsimp[t2,t3,t6,c,f,d,A0b ab,hk,w1];exact⟨⟨i+1,by clear w1;omega,rfl,s,g,b⟩,by clear w1;omega⟩
end
mutual
def C3a{x:IdD}:∀{u:A0a} {rs:List A0a} {p w:A0a},A2a x u=rs++[p,w]->w∈p.kids
 |.mk id k l h ws ks,rs,p,w,hr=>by
  rw[A2a]at hr;split at hr
  .have:=congrArg List.length hr;simp at this
  .split at hr
   .simp at hr
   .rename_i r rr e;cases rs with
    |nil=>simp only[Z1F,Z1a]at hr;obtain⟨rfl,rfl,rfl⟩:=hr;exact B8l e
    |cons a rs=>simp only[Z0V,Z1a]at hr;exact B9O (ks:=ks) (rs:=rs) (by rw[e];exact hr.2)
def B9O{x:IdD}:∀{ks:List A0a} {rs:List A0a} {p w:A0a},A3I x ks=rs++[p,w]->w∈p.kids
 |[],rs,p,w,hr=>by rw[A3I]at hr;simp at hr
 |k::ks,rs,p,w,hr=>by
  rw[A3I]at hr;split at hr
  .exact B9O hr
  .rename_i r rr e;exact C3a (u:=k) (rs:=rs) (by rw[e];exact hr)
def B8l{x:IdD}:∀{ks:List A0a} {w:A0a} {r:List A0a},A3I x ks=w::r->w∈ks
 |[],w,r,hr=>by rw[A3I]at hr;simp at hr
 |k::ks,w,r,hr=>by
  rw[A3I]at hr;split at hr
  .exact Z1v _ (B8l hr)
  .rename_i a rr e;(obtain⟨rfl,rfl⟩:=by simpa using hr);have:a=k:=by
    obtain⟨i1,k1,l1,h1,w1,b⟩:=k;rw[A2a]at e;split at e
    .simp at e;exact e.1.symm
    .split at e
     .simp at e
     .simp at e;exact e.1.symm
   rw[this];simp
end
def D0K{α:Type}{p:α->Bool}:∀{l:List α} {a i:Nat} (h:a<l.length),p l[a]=true->(∀j (hj:j<a),p (l[j]'(by omega))=false)->A3i p l i=((i+a:Nat):Int)
 |x::l,0,i,_,h1,_=>by rw[A3i,Z0e (by simpa using h1)];rfl
 |x::l,a+1,i,h,h1,h2=>by have h0:=h2 0 (by omega);rw[A3i,Z0d (by rw[show p x=false from h0];simp)];rw[D0K (l:=l) (a:=a) (i:=i+1) (by simpa using h) (by simpa using h1) (λj hj=>by simpa using h2 (j+1) (by omega))];congr 1;omega
def C8j{ks:List A0a}{a b:Nat}(hn:(A3J ks).Nodup)(ha:a<ks.length)(hb:b<ks.length){x:IdD}(h1:x∈A0R ks[a])(h2:x∈A0R ks[b]):a=b:=by
 induction ks generalizing a b with
 |nil=>simp at ha
 |cons k ks ih=>
  rw[A3J]at hn;obtain⟨n1,n2,n3⟩:=Z1L.1 hn
  match a,b with
  |0,0=>rfl
  |0,b+1=>exact absurd rfl (n3 x h1 x (A9U h2 (Z0o _)))
  |a+1,0=>exact absurd rfl (n3 x h2 x (A9U h1 (Z0o _)))
  |a+1,b+1=>rw[ih n2 (by simpa using ha) (by simpa using hb) h1 h2]
def C8N{x:IdD}{u:A0a}(h:(A0E x u).isSome=true):x∈A0R u:=by obtain⟨v,hv⟩:=Z2W.1 h;obtain⟨h1,h2⟩:=A6j hv;rw[<-A5k,<-h1];exact Z0C.2 ⟨v,h2,rfl⟩
def B6t{u q:A0a}(hn:(A0R u).Nodup)(hq:q∈A2R u){a:Nat}(ha:a<q.kids.length):B5S q.kids[a].id q=a:=by
 have c:=C7t hn q hq;obtain⟨i,k,l,hd,ws,ks⟩:=q;rw[A0R]at c;have b:=(Z1q.1 c).2;have ha:a<ks.length:=ha;have h1:A0E ks[a].id ks[a]=some ks[a]:=A8Z (B0V b (Z0o ha)) (B0t _);have:=D0K (p:=λy=>(A0E ks[a].id y).isSome) (l:=ks) (a:=a) (i:=0) ha (by simp[h1]) (λj hj=>by
  cases h:(A0E ks[a].id (ks[j]'(by omega))).isSome with
  |false=>rfl
  |true=>have:=C8j b (show j<ks.length by omega) ha (C8N h) (B3T _);omega)
 show A3i (λy=>(A0E ks[a].id y).isSome) ks 0=a;simpa using this
def D3Z{x:IdD}{u p:A0a}(h:B7A x u=some p):p∈A2R u:=A8e x u p (List.dropLast_subset _ (List.mem_of_getLast? h))
def E0B{u x:A0a}{p:A0a}(hn:(A0R u).Nodup)(hx:x∈A2R u)(hp:B7A x.id u=some p):∃a,∃h:a<p.kids.length,p.kids[a]=x/\B5S x.id p=a/\p∈A2R u:=by
 have b:=D3Z hp;have hk:∃y∈p.kids,y.id=x.id:=by
  unfold B7A at hp;rcases D5j (A2a x.id u)with h|⟨w,h⟩|⟨rs,q,w,h⟩
  .rw[h]at hp;simp at hp
  .rw[h]at hp;simp at hp
  .rw[h]at hp;(have hq:q=p:=by simpa using hp);subst hq;have hw:=C3O (x:=x.id) (u:=u) (v:=w) (by rw[h];simp);exact⟨w,C3a h,hw.1⟩
 obtain⟨y,hy,e⟩:=hk;have d:=B0q u p b y hy;have c:y=x:=by have h1:=A8Z hn d;rw[e,A8Z hn hx]at h1;exact(Z1H h1).symm
 subst c;obtain⟨a,ha,he⟩:=Z2r hy;exact⟨a,ha,he,by rw[<-he];exact B6t hn b ha,b⟩
def mnE:List (AV×AV×Nat):=[(I 0,fnV 200,0),(I 1,fnV 201,1),(I 2,fnV 202,2),(I 3,fnV 203,3),(I 4,fnV 204,4)]
def C0a{k:Int}{v:AV}{es:List (AV×AV×Nat)}{c:Nat}{M:Mem}(h4:A2Q prog 3 (I k) es=some none):A2g prog 199 (M++[.map es c]) (.mapr M.length) (I k) v=some (M++[.map (es++[(I k,v,c)]) (c+1)]):=C4a (kt:=3) (et:=197) (by kernel_rfl) (by kernel_rfl) rfl h4
def D7M{M:Mem}{b:Nat}{k:Int}{i:Nat}{v:AV}(h0:M[b]?=some (.map mnE 5))(h4:A2Q prog 3 (I k) mnE=some (some (i,v))):A1Y prog 199 M (.mapr b) (I k) true=some (.tuple [v,B true]):=B7X h0 (kt:=3) (et:=197) (by kernel_rfl) (by kernel_rfl) rfl h4
section
variable (gl:Nat->AV)
def C8Z(M:Mem):A0e (WC gl) 148 [] M (λv M'=>v=.mapr M.length/\M'=M++[.map mnE 5]):=by refine A0n hB func148 ?_;simp -dsimp -implicitDefEqProofs;rw[C0a (by kernel_rfl)];simp -dsimp -implicitDefEqProofs;rw[C0a (by kernel_rfl)];simp -dsimp -implicitDefEqProofs;rw[C0a (by kernel_rfl)];simp -dsimp -implicitDefEqProofs;rw[C0a (by kernel_rfl)];simp -dsimp -implicitDefEqProofs;rw[C0a (by kernel_rfl)];simp -dsimp -implicitDefEqProofs;rfl
def C3k(u:A0a)(at_:IdD)(a:List IdD)(o:Own)(c:A1e)(M:Mem):A0e (WC gl) 204 [.agg (A6J u at_ a o),.agg c.row] M (λv M'=>v=B4c ([],11)/\M'=M):=by refine A0e.dataX ?_;have d:=u.row_eq;have b:c.row=[I c.k,.list 2 (A0T c.path) .no,S c.to,I c.frm,I c.at_]:=rfl;unfold A6J;rw[d,b];refine A0n hB func204 ?_;simp -dsimp -implicitDefEqProofs;exact⟨Grow.refl _,A9w⟩
def B7h{p:List A0w}(h9:p.length<=9)(hp:A1X p=true):∀i (h:i<p.length),A9v i p[i]:=by
 intro i h;unfold A1X at hp;simp only[Z0f,Z0k,Z0p]at hp;obtain⟨_,hp⟩:=hp;have a:∀s,A1k s=true->A9v i s:=λs hs=>by simp only[A1k,Z0f,Z0k]at hs;exact .inr ⟨by omega,hs.1.2,hs.2⟩
 match p,i,h with
 |s::r,0,_=>
  simp only[Z3x];unfold A6r at hp;by_cases hb:A2B s=true
  .left;exact⟨rfl,by obtain⟨k,b⟩:=s;simp only[A2B,Z0f,Z0k]at hb;simp[A3n,hb.1,hb.2]⟩
  .simp only[Z0d hb]at hp;exact a s (hp s (by simp))
 |s::r,i+1,h=>
  simp only[Z2d];refine a _ (hp _ ?_);unfold A6r;simp only;split
  .exact Z0o _
  .exact Z1v _ (Z0o _)
def D3y(l:List A0a):IdD:=match l with
 |[x]=>x.id
 |_=>idZ
def C2x(u:A0a)(p:List A0w)(o:Own)(M:Mem)(hf:Fit u)(hn:(A0R u).Nodup)(h9:p.length<=9)(hp:∀i (h:i<p.length),A9v i p[i]):A0e (WC gl) 191 [.agg u.row,.list 2 (A0T p) o] M (λv M'=>v=.tuple [.agg (D3y (A4t u p)).row,I (A9m (A4t u p)).2]/\M'=M):=by
 refine A0e.dataX ?_
 obtain⟨Ma,e⟩:=ex (M++[A0m.cells 23 [I 0,I 0,I 0]])
 have c:Grow M Ma:=by rw[e];exact A0c.app none _ _
 have a:Ma[M.length]?=some (A0m.cells 23 [I 0,I 0,I 0]):=by rw[e];simp
 have b:M.length<Ma.length:=(Z0a.1 a).1
 obtain⟨l,hl⟩:=ex (A4t u p)
 have j:l.length<=1000:=by rw[hl];exact Z0R (C2o hn p).len hf.2.2
 have f:=C0z gl u (.list 2 (A0T p) o) l Ma j (λM=>by rw[hl];exact D3w gl u p o M hf hn h9 hp)
 have g:A0x prog 23 []=some (.agg [I 0,I 0,I 0]):=by simp[A0x,A1b]
 rw[<-hl]
 rw[u.row_eq]at f|-
 have k:∀z:IdD,z.row=[I z.act,I z.item,I z.n]:=λ_=>rfl
 refine A0n hB func191 ?_
 simp -dsimp -implicitDefEqProofs[A0k]
 rw[<-e]
 refine A0h func244 f ?_
 match l,hl with
 |[],_=>
  simp -dsimp -implicitDefEqProofs[g,A0f a,A0y,A0v,A0s b,A0j,D3y,A9m]
  exact⟨A0V c (Z0n _),.same (by simp[bdd,A1I]) .nil⟩
 |[x],_=>
  have d:A1l ([x].map A0a.id)=[[I x.id.act,I x.id.item,I x.id.n]]:=rfl
  rw[d]
  simp -dsimp -implicitDefEqProofs[A0f a,A0y,A0v,A0s b,A0j,D3y,A9m,k]
  exact⟨A0V c (Z0n _),.same (by simp[bdd,A1I]) .nil⟩
 |x::y::r,_=>
  have d:A1l ((x::y::r).map A0a.id)=x.id.row::y.id.row::A1l (r.map A0a.id):=rfl
  have h0:¬(((r.length+1+1:Nat):Int)=0):=by omega
  have h1:¬(((r.length+1+1:Nat):Int)=1):=by omega
  rw[d]
  simp -dsimp -implicitDefEqProofs[g,A0f a,A0y,A0v,A0s b,A0j,D3y,A9m,h0,h1]
  exact⟨A0V c (Z0n _),.same (by simp[bdd,A1I]) .nil⟩
def C6F(u:A0a)(at_:IdD)(f:List IdD)(o:Own)(c:A1e)(M:Mem)(hf:Fit u)(hn:(A0R u).Nodup)(hc:c.path.length<=9)(hp:A1X c.path=true):A0e (WC gl) 200 [.agg (A6J u at_ f o),.agg c.row] M (λv M'=>v=B4c (A9m (A4t u c.path))/\M'=M):=by
 refine A0e.dataX ?_;have b:=C2x gl u c.path .no M hf hn hc (B7h hc hp);have g:=u.row_eq;obtain⟨a,ha⟩:=ex (D3y (A4t u c.path));rw[<-ha]at b;have h:a.row=[I a.act,I a.item,I a.n]:=rfl;have i:c.row=[I c.k,.list 2 (A0T c.path) .no,S c.to,I c.frm,I c.at_]:=rfl;rw[g,h]at b;unfold A6J;rw[g,i];obtain⟨M1,d⟩:=ex (M++[A0m.cells 23 [I a.act,I a.item,I a.n]]);have e:Grow M M1:=by rw[d];exact A0c.app none _ _
 have h1:M1[M.length]?=some (A0m.cells 23 [I a.act,I a.item,I a.n]):=by rw[d];simp
 refine A0n hB func200 ?_;simp -dsimp -implicitDefEqProofs[IdD.row];refine A0h func191 b ?_;simp -dsimp -implicitDefEqProofs[A0k,A0i,A0d,A0y,A0v];rw[<-d];obtain⟨l,hl⟩:=ex (A4t u c.path);rw[<-hl]at ha|-
 match l,hl with
 |[],_=>simp -dsimp -implicitDefEqProofs[A9m];exact⟨e,A9w⟩
 |[x],_=>have j:a=x.id:=ha;simp -dsimp -implicitDefEqProofs[A9m,A0b h1,A0l,A0M,A0y,A0v];rw[j];exact⟨e,.tuple (.dis (by simp[bdd,A7H,A1I,A1l,IdD.row]) (.same trivial .nil)) .nil⟩
 |x::y::r,_=>simp -dsimp -implicitDefEqProofs[A9m];exact⟨e,A9w⟩
set_option maxHeartbeats 1000000 in
def D0k(u:A0a)(at_:IdD)(g:List IdD)(o:Own)(c:A1e)(s:A0w)(r:List A0w)(M:Mem)(hf:Fit u)(hn:(A0R u).Nodup)(hc:c.path.length<=9)(hp:c.path=s::r):A0e (WC gl) 202 [.agg (A6J u at_ g o),.agg c.row] M (λv M'=>v=B4c (C5D u at_ c.path)/\M'=M):=by
 refine A0e.dataX ?_;have d:=u.row_eq;have q:c.row=[I c.k,.list 2 (A0T c.path) .no,S c.to,I c.frm,I c.at_]:=rfl;have j:A0T (s::r)=[I s.k,S s.lab]::A0T r:=rfl;have m:r.length<=1000:=by rw[hp]at hc;simp at hc;omega
 have i:=λM=>C8x gl u at_ s.k M hf hn;have p:C5D u at_ c.path=match C6Q u at_ s.k with|none=>([],7)|some y=>A5T y r:=by rw[hp];rfl
 have f:at_.row=[I at_.act,I at_.item,I at_.n]:=rfl;rw[p];unfold A6J;rw[d,q,hp,j,f];rw[d,f]at i;have hz:∀a:IdD,∀b:Bool,∃M1,M1=M++[A0m.cells 23 [I a.act,I a.item,I a.n]]/\Grow M M1/\M1[M.length]?=some (A0m.cells 23 [I a.act,I a.item,I a.n]):=λa b=>⟨_,rfl,A0c.app none _ _,by simp⟩;refine A0n hB func202 ?_;simp -dsimp -implicitDefEqProofs;refine A0Z hB (A0u gl) (λk=>if k=13\/k=14 then 2 else 0) (λ_=>0) (by rfl) (by kernel_rfl) ?_;simp -dsimp -implicitDefEqProofs;refine A1p func258 i ?_;cases he:C6Q u at_ s.k with
 |none=>simp -dsimp -implicitDefEqProofs[C1I,A0k,A0i,A0d,A0y,A0v];exact⟨A0c.app none _ _,A9w⟩
 |some y=>
  have t:y∈A2R u:=by have:=Z2A he;exact A8e at_ u y (List.mem_reverse.1 this)
  have e:=λM so=>C0C gl u y y.id r so M hf (A8Z hn t) m;have h:y.id.row=[I y.id.act,I y.id.item,I y.id.n]:=rfl;rw[d,h]at e;obtain⟨M1,w,x,h1⟩:=hz y.id true;simp -dsimp -implicitDefEqProofs[C1I,h,A0k,A0i,A0d,A0y,A0v];rw[<-w];refine A0Z hB (A0u gl) (λk=>if k=2 then 1 else 0) (λ_=>M.length) (by rfl) (by kernel_rfl) ?_;have l:(1:Int)<=r.length+1:=by omega
  simp -dsimp -implicitDefEqProofs[A0F,A0b h1,l];generalize A7A _ _ _ _ _=so;refine A1p func259 (λM=>e M so) ?_;simp -dsimp -implicitDefEqProofs;exact⟨x,B9k _⟩
set_option maxHeartbeats 2000000 in
def C0Y(u q:A0a)(a b:Nat)(M:Mem)(hf:Fit u)(hn:(A0R u).Nodup)(hq:q∈A2R u)(ha:a<q.kids.length)(hb:b<q.kids.length)(bc:a<=b)(hk:q.kids[a].kind=q.kids[b].kind):A0e (WC gl) 257 [.agg u.row,.agg q.kids[a].id.row,.agg q.kids[b].id.row] M (λv M'=>v=.list 3 (A1l (D0Q q.kids[a] q a b)) .no/\M'=M):=by
 refine A0e.dataX ?_
 have bd:q.kids.length<=1000:=by
  have h1:=A1Z q.kids;have h2:A0A q.kids<A0r q:=by obtain⟨a,b,c,d,e,f⟩:=q;rw[A0r];show A0A f<_;omega
  have h3:=(A7V u hf q hq).2.2;omega
 have x:=λM=>B5W gl u q.kids[a].id M hf hn
 have a4:=λM=>B5W gl u q.kids[b].id M hf hn
 have e1:B2d q.kids[a].id u=.tuple [.agg q.row,I a,B true]:=by rw[B2d,B8R hn hq (Z0o ha),<-B6t hn hq ha]
 have e2:B2d q.kids[b].id u=.tuple [.agg q.row,I b,B true]:=by rw[B2d,B8R hn hq (Z0o hb),<-B6t hn hq hb]
 rw[e1]at x
 rw[e2]at a4
 obtain⟨xa,a5⟩:=ex (q.kids[a])
 obtain⟨xb,a0⟩:=ex (q.kids[b])
 rw[<-a5,<-a0]at hk
 rw[<-a5]at x|-
 rw[<-a0]at a4|-
 have b1:∀z:IdD,z.row=[I z.act,I z.item,I z.n]:=λ_=>rfl
 have ax:=q.row_eq
 simp only[b1,u.row_eq,ax]at x a4|-
 obtain⟨b7,au⟩:=ex (M.length)
 obtain⟨M1,a9⟩:=ex (M++[A0m.cells 27 [I q.id.act,I q.id.item,I q.id.n,I q.kind,S q.label,.list 4 (A0g q.head) .no,.list 4 (A0g q.words) .no,.list 8 (A0p q.kids) .no]])
 have b6:Grow M M1:=by rw[a9];exact A0c.app none _ _
 have b9:M1[b7]?=some (A0m.cells 27 [I q.id.act,I q.id.item,I q.id.n,I q.kind,S q.label,.list 4 (A0g q.head) .no,.list 4 (A0g q.words) .no,.list 8 (A0p q.kids) .no]):=by rw[a9,au];simp
 obtain⟨a8,a6⟩:=ex (M1.length)
 obtain⟨M2,ae⟩:=ex (M1++[A0m.cells 27 [I q.id.act,I q.id.item,I q.id.n,I q.kind,S q.label,.list 4 (A0g q.head) .no,.list 4 (A0g q.words) .no,.list 8 (A0p q.kids) .no]])
 have aq:Grow M1 M2:=by rw[ae];exact A0c.app none _ _
 have b4:M2[a8]?=some (A0m.cells 27 [I q.id.act,I q.id.item,I q.id.n,I q.kind,S q.label,.list 4 (A0g q.head) .no,.list 4 (A0g q.words) .no,.list 8 (A0p q.kids) .no]):=by rw[ae,a6];simp
 have h7:=aq.get b9 (by simp)
 have t:(A0p q.kids)[a]?=some [I xa.id.act,I xa.id.item,I xa.id.n,I xa.kind,S xa.label,.list 4 (A0g xa.head) .no,.list 4 (A0g xa.words) .no,.list 8 (A0p xa.kids) .no]:=by rw[A3F _ _ ha,<-a5,xa.row_eq]
 have ap:(A0p q.kids)[b]?=some [I xb.id.act,I xb.id.item,I xb.id.n,I xb.kind,S xb.label,.list 4 (A0g xb.head) .no,.list 4 (A0g xb.words) .no,.list 8 (A0p xb.kids) .no]:=by rw[A3F _ _ hb,<-a0,xb.row_eq]
 have ac:(a:Int)<q.kids.length:=by omega
 have ba:(b:Int)<q.kids.length:=by omega
 have aw:¬(b:Int)<a:=by omega
 have av:=C3q q.id q.id
 rw[Z0w rfl]at av
 have r:=a5.symm
 have ah:=a0.symm
 have s:=xa.row_eq
 have am:=xb.row_eq
 have wb:IntKind.i64.wrap ((b:Int)+1)=b+1:=by rw[A0L (by omega) (by omega)]
 refine A0n (hQ [87]) func257 ?_
 simp -dsimp -implicitDefEqProofs
 refine A0h func255 (x M) ?_
 simp -dsimp -implicitDefEqProofs[A0k,A0i,A0d,A0y,A0v]
 rw[<-a9,<-au]
 refine A0h func255 (a4 M1) ?_
 simp -dsimp -implicitDefEqProofs[A0k,A0i,A0d,A0y,A0v]
 rw[<-ae,<-a6]
 refine A4B .normal (λT M'=>M'=M2/\T 7=.ptr b7 0/\T 8=I a/\T 10=.ptr a8 0/\T 11=I b/\T 62=B false) ?_ ?_
 .refine A0Z (hQ [87]) (A0u gl) (λk=>if k=8\/k=10\/k=20\/k=26 then 1 else 0) (λk=>if k=10 then a8 else b7) (by rfl) (by kernel_rfl) ?_;simp -dsimp -implicitDefEqProofs[A0F,A2Y,A0b h7,A0b b4,t,ap,ha,hb,ac,ba,aw,av,hk,r,ah,s,am]
 rintro T M' ⟨rfl,t7,t8,ao,ak,aj⟩
 have ag:(a:Int)<=b+1:=by omega
 have an:(b:Int)+1<=q.kids.length:=by omega
 simp -dsimp -implicitDefEqProofs[t7,t8,ao,ak,aj,A0b h7,wb,ag,an]
 generalize A7A _ _ _ _ _=so
 obtain⟨L,hL⟩:=ex ((q.kids.drop a).take (b+1-a))
 have b5:List.drop a (List.take (b+1) (A0p q.kids))=A0p L:=by rw[hL,A3t,A3t,Z2T,Z1u,Z4A]
 have b2:L.length=min (b+1) q.kids.length-a:=by rw[hL];simp;omega
 have az:D0Q xa q a b=(L.filter λy=>decide (y.kind=xa.kind)).map A0a.id:=by rw[hL];rfl
 obtain⟨A,hA⟩:=ex ((L.filter λy=>decide (y.kind=xa.kind)).map A0a.id)
 rw[b5,<-b2,az,<-hA]
 have ai:Grow M M':=b6.trans aq
 have bb:=ai.1
 refine A0B (hQ [87]) L.length 70 (λT Mi=>∃k:Nat,k<=L.length/\T 7=.ptr b7 0/\T 8=I a/\T 68=.list 8 (A0p L) so/\T 69=I L.length/\T 70=I k/\Grow M' Mi/\Arr 23 3 IdD.row M'.length Mi (T 13) (((L.take k).filter λy=>decide (y.kind=xa.kind)).map A0a.id)) ?_ ?_
 .exact⟨0,by omega,by simp[t7],by simp[t8],by simp,by simp,by simp,Grow.refl _,by simpa using Arr.nil⟩
 clear t7 t8 ao ak aj
 rintro T Mi ⟨k,k1,t7,t8,j,g,t70,a1,m⟩
 by_cases hkl:k<L.length
 case neg=>
  have p:¬(k:Int)<L.length:=by omega
  rw[Z0g (by omega),<-hA]at m;simp -dsimp -implicitDefEqProofs[t7,t8,j,g,t70,p];have al:A1m b7 (T 13):=λf h=>by have:=m.lat f h;omega
  exact⟨ai.trans a1,A2V (enc:=IdD.row) (λ_=>rfl) B2c m.own al⟩
 have p:(k:Int)<L.length:=by omega
 have w1:=A1H (i:=k) (by omega)
 obtain⟨y,hy⟩:=ex (L[k])
 have b3:=hy.symm
 have ay:=y.row_eq
 have b8:(A0p L)[k]?=some [I y.id.act,I y.id.item,I y.id.n,I y.kind,S y.label,.list 4 (A0g y.head) .no,.list 4 (A0g y.words) .no,.list 8 (A0p y.kids) .no]:=by rw[A3F _ _ hkl,<-hy,y.row_eq]
 have b0:=a1.get h7 (by simp)
 obtain⟨M3,ad⟩:=ex (Mi++[A0m.cells 27 [I y.id.act,I y.id.item,I y.id.n,I y.kind,S y.label,.list 4 (A0g y.head) .no,.list 4 (A0g y.words) .no,.list 8 (A0p y.kids) .no]])
 have a3:Grow Mi M3:=by rw[ad];exact A0c.app none _ _
 have af:M3[Mi.length]?=some (A0m.cells 27 [I y.id.act,I y.id.item,I y.id.n,I y.kind,S y.label,.list 4 (A0g y.head) .no,.list 4 (A0g y.words) .no,.list 8 (A0p y.kids) .no]):=by rw[ad];simp
 have ar:=a3.get b0 (by simp)
 have l:=m.keep a3
 have a2:((L.take (k+1)).filter λy=>decide (y.kind=xa.kind)).map A0a.id=((L.take k).filter λy=>decide (y.kind=xa.kind)).map A0a.id++(if y.kind=xa.kind then[y.id]else[]):=by rw[Z1r,Z0l hkl,Z3t,<-hy];simp only[Option.toList_some,Z1Z,Z4i];by_cases c:y.kind=xa.kind<;>simp[c]
 generalize o:T 13=ov at*
 simp -dsimp -implicitDefEqProofs[t7,t8,j,g,t70,o,hkl,p,b8,b3,ay,A0k,A0i,A0d,A0y,A0v]
 rw[<-ad]
 refine A4B .normal (λT Mj=>Mj=M3/\T 7=.ptr b7 0/\T 8=I a/\T 13=ov/\T 15=.ptr Mi.length 0/\T 68=.list 8 (A0p L) so/\T 69=I L.length/\T 70=I k/\T 82=B (decide (y.kind=xa.kind))) ?_ ?_
 .refine A0Z (hQ [87]) (A0u gl) (λk=>if k=1\/k=3 then 1 else 0) (λk=>if k=1 then Mi.length else b7) (by rfl) (by kernel_rfl) ?_;by_cases c:y.kind=xa.kind
  .simp -dsimp -implicitDefEqProofs[t7,t8,j,g,t70,o,A0F,A2Y,A0b ar,A0b af,t,ha,ac,r,s,c]
  .simp -dsimp -implicitDefEqProofs[t7,t8,j,g,t70,o,A0F,A2Y,A0b ar,A0b af,t,ha,ac,r,s,c]
 have a7:=t70
 clear t7 t8 j g t70 o
 rintro T Mj ⟨rfl,t7,t8,ab,aa,j,g,t70,w⟩
 by_cases c:y.kind=xa.kind
 .rw[Z0e c]at a2;rw[Z0w c]at w;simp -dsimp -implicitDefEqProofs[t7,t8,ab,aa,j,g,t70,w,A0b af,A0l,A0M,A0y,A0v];refine A3B (C:=WC gl) (enc:=IdD.row) (e:=23) (sz:=3) (news:=[y.id]) B4i B8y C0u (λ_=>rfl) l.own (by simp[A0D,IdD.row]) (by have q1:=Z1V (λy:A0a=>decide (y.kind=xa.kind)) (L.take k);have q2:=Z3P k L;simp only[Z0G,Z3F];omega) rfl ?_;intro v' be f1 f2 f3 _;obtain⟨g1,g2⟩:=A2T (X:=[]) (a1.trans a3) l.lat (by simpa using f2) (by simpa using f3);simp -dsimp -implicitDefEqProofs[t7,t8,ab,aa,j,g,t70,a7,w1];exact⟨⟨k+1,by clear w1;omega,rfl,g1,by rw[a2];exact⟨f1,g2⟩⟩,by clear w1;omega⟩
 .rw[Z0d c,Z1d]at a2;rw[Z0r c]at w;simp -dsimp -implicitDefEqProofs[t7,t8,ab,aa,j,g,t70,w,a7,w1];exact⟨⟨k+1,by clear w1;omega,rfl,a1.trans a3,by rw[a2];exact l⟩,by clear w1;omega⟩
set_option maxHeartbeats 2000000 in
def D1m(k x q:A0a)(a:Nat)(c:A1e)(b8 b9:Nat)(M:Mem)(ha:a<q.kids.length)(hx:q.kids[a]=x)(h8:M[b8]?=some (A0m.cells 27 [I q.id.act,I q.id.item,I q.id.n,I q.kind,S q.label,.list 4 (A0g q.head) .no,.list 4 (A0g q.words) .no,.list 8 (A0p q.kids) .no]))(h9:M[b9]?=some (A0m.cells 3 [I a])):A0e (WC gl) 256 [.agg k.row,.ptr b8 0,.ptr b9 0,.cptr c.row] M (λv M'=>v=B (decide (k.kind=x.kind)&&decide (k.label=c.to))/\M'=M):=by
 have d:(A0p q.kids)[a]?=some [I x.id.act,I x.id.item,I x.id.n,I x.kind,S x.label,.list 4 (A0g x.head) .no,.list 4 (A0g x.words) .no,.list 8 (A0p x.kids) .no]:=by rw[A3F _ _ ha,hx,x.row_eq]
 have b:(a:Int)<q.kids.length:=by omega
 have f:c.row=[I c.k,.list 2 (A0T c.path) .no,S c.to,I c.frm,I c.at_]:=rfl
 rw[k.row_eq,f]
 have e:=x.row_eq
 refine A0n hB func256 ?_
 simp -dsimp -implicitDefEqProofs
 refine A0Z hB (A0u gl) (λk=>if k=3\/k=4 then 1 else 0) (λk=>if k=3 then b8 else b9) (by rfl) (by kernel_rfl) ?_
 by_cases h1:k.kind=x.kind
 .by_cases h2:k.label=c.to
  .simp -dsimp -implicitDefEqProofs[A0F,A2Y,A0b h8,A0b h9,d,ha,b,hx,e,h1,h2]
  .simp -dsimp -implicitDefEqProofs[A0F,A2Y,A0b h8,A0b h9,d,ha,b,hx,e,h1,h2]
 .simp -dsimp -implicitDefEqProofs[A0F,A2Y,A0b h8,A0b h9,d,ha,b,hx,e,h1]
set_option maxHeartbeats 4000000 in
def C0W(u:A0a)(at_:IdD)(a5:List IdD)(o:Own)(c:A1e)(M:Mem)(hf:Fit u)(hn:(A0R u).Nodup)(hc:c.path.length<=9)(hp:A1X c.path=true):A0e (WC gl) 201 [.agg (A6J u at_ a5 o),.agg c.row] M (λv M'=>v=B4c (B0n u c.path c.to)/\M'=M):=by
 refine A0e.dataX ?_;have d:=C2x gl u c.path .no M hf hn hc (B7h hc hp);have t:=C2o hn c.path;have g:=u.row_eq;obtain⟨a,ha⟩:=ex (D3y (A4t u c.path));rw[<-ha]at d;have ad:a.row=[I a.act,I a.item,I a.n]:=rfl;have a8:at_.row=[I at_.act,I at_.item,I at_.n]:=rfl;have ab:c.row=[I c.k,.list 2 (A0T c.path) .no,S c.to,I c.frm,I c.at_]:=rfl;rw[g,ad]at d;obtain⟨X,hX⟩:=ex (B0n u c.path c.to);rw[<-hX];unfold B0n at hX;unfold A6J;rw[g,ab,a8];obtain⟨M1,h⟩:=ex (M++[A0m.cells 23 [I a.act,I a.item,I a.n]]);have j:Grow M M1:=by rw[h];exact A0c.app none _ _
 have h1:M1[M.length]?=some (A0m.cells 23 [I a.act,I a.item,I a.n]):=by rw[h];simp
 obtain⟨l,hl⟩:=ex (A4t u c.path);rw[<-hl]at ha t d hX;refine A0n hB func201 ?_;simp -dsimp -implicitDefEqProofs;refine A0h func191 d ?_;simp -dsimp -implicitDefEqProofs[A0k,A0i,A0d,A0y,A0v];rw[<-h]
 match l,hl with
 |[],_=>have hX:X=([],7):=hX;rw[hX];simp -dsimp -implicitDefEqProofs[A9m];exact⟨j,A9w⟩
 |x::y::r,_=>have hX:X=([],8):=hX;rw[hX];simp -dsimp -implicitDefEqProofs[A9m];exact⟨j,A9w⟩
 |[x],_=>
  have ak:a=x.id:=ha;have ai:x∈A2R u:=t.sub x (by simp);have b:=B5W gl u a M1 hf hn;rw[ak]at b h1 h;have a4:x.id.row=[I x.id.act,I x.id.item,I x.id.n]:=rfl;rw[g,a4]at b;simp -dsimp -implicitDefEqProofs[A9m,A0b h1];obtain⟨b8,am⟩:=ex (M1.length);cases hpar:B7A x.id u with
  |none=>
   simp only[B2d,hpar]at b;obtain⟨c0,c1,c2,c3,c4,c5,c6,c7,aj⟩:∃c0 c1 c2 c3 c4 c5 c6 c7,A1z (A0E idZ u)=[c0,c1,c2,c3,c4,c5,c6,c7]:=by
    cases A0E idZ u with
    |none=>exact⟨_,_,_,_,_,_,_,_,rfl⟩
    |some y=>exact⟨_,_,_,_,_,_,_,_,y.row_eq⟩
   rw[aj]at b;refine A0h func255 b ?_;simp -dsimp -implicitDefEqProofs[A0k,A0i,A0d,A0y,A0v];simp only[hpar]at hX;rw[hX];exact⟨j.trans (A0c.app none _ _),A9w⟩
  |some q=>
   obtain⟨i,hi,w,a3,hq⟩:=E0B hn ai hpar;simp only[B2d,hpar,a3]at b;have af:=q.row_eq;rw[af]at b;refine A0h func255 b ?_;simp -dsimp -implicitDefEqProofs[A0k,A0i,A0d,A0y,A0v];obtain⟨M2,m⟩:=ex (M1++[A0m.cells 27 [I q.id.act,I q.id.item,I q.id.n,I q.kind,S q.label,.list 4 (A0g q.head) .no,.list 4 (A0g q.words) .no,.list 8 (A0p q.kids) .no],A0m.cells 3 [I i]]);rw[<-m];(have a9:Grow M1 M2:=by rw[m];exact A0c.app none _ _);(have h8:M2[M1.length]?=some (A0m.cells 27 [I q.id.act,I q.id.item,I q.id.n,I q.kind,S q.label,.list 4 (A0g q.head) .no,.list 4 (A0g q.words) .no,.list 8 (A0p q.kids) .no]):=by rw[m];simp);(have h9:M2[M1.length+1]?=some (A0m.cells 3 [I i]):=by rw[m];simp[Z0W]);have ag:=a9.get h1 (by simp);have a0:=j.trans a9;(have al:q.kids.length<=1000:=by have h1:=A1Z q.kids;have h2:=A5o q;have h3:=(A7V u hf q hq).2.2;omega);have s:=B7K gl (λk=>decide (k.kind=x.kind)&&decide (k.label=c.to)) 256 [.ptr M1.length 0,.ptr (M1.length+1) 0,.cptr c.row] q.kids .no M2 (by omega) (λk _=>A1a func256 rfl rfl (D1m gl k x q i c M1.length (M1.length+1) M2 hi w h8 h9));rw[ab]at s;simp -dsimp -implicitDefEqProofs[A0b h8];refine A0h func90 s ?_;simp only[hpar,a3]at hX;rcases C0o (p:=λk=>decide (k.kind=x.kind)&&decide (k.label=c.to)) q.kids 0 with⟨e1,e2⟩|⟨e,he,e1,e2⟩
   .have f:D6A x c.to q=-1:=e2;rw[f,Z0e (by decide)]at hX;rw[hX];simp -dsimp -implicitDefEqProofs[e2];exact⟨a0,A9w⟩
   (have e2:A3i (λk=>decide (k.kind=x.kind)&&decide (k.label=c.to)) q.kids 0=(e:Int):=by rw[e2];congr 1;omega);have f:D6A x c.to q=(e:Int):=e2
   (have a2:¬(e:Int)<0:=by omega);rw[f,Z0d a2]at hX
   by_cases hei:(e:Int)<i
   .rw[Z0e hei]at hX;rw[hX];simp -dsimp -implicitDefEqProofs[e2,a2,hei,A0b h9];exact⟨a0,A9w⟩
   rw[Z0d hei]at hX;rw[hX];(have ae:q.kids[i].kind=q.kids[e].kind:=by have:=Z4h e1;simp only[Z0f,Z0k]at this;rw[w,this.1]);have a7:=λM=>C0Y gl u q i e M hf hn hq hi he (by omega) ae;obtain⟨z,hz⟩:=ex (q.kids[e]);have a1:=hz.symm;have aa:z.id.row=[I z.id.act,I z.id.item,I z.id.n]:=rfl;have a6:=z.row_eq;(have ac:(A0p q.kids)[e]?=some [I z.id.act,I z.id.item,I z.id.n,I z.kind,S z.label,.list 4 (A0g z.head) .no,.list 4 (A0g z.words) .no,.list 8 (A0p z.kids) .no]:=by rw[A3F _ _ he,a1,a6]);simp only[w,a1,g,a4,aa]at a7;(have ah:(e:Int)<q.kids.length:=by omega);simp -dsimp -implicitDefEqProofs[e2,a2,hei,A0b h9];refine A0Z hB (A0u gl) (λk=>if k=2\/k=4 then 1 else 0) (λk=>if k=2 then M.length else M1.length) (by rfl) (by kernel_rfl) ?_;simp -dsimp -implicitDefEqProofs[A0F,A2Y,A0b ag,A0b h8,ac,he,ah,a1,a6,aa,e2];refine A1p func257 a7 ?_;simp -dsimp -implicitDefEqProofs;exact⟨a0,B9k (_,0)⟩
end
end Go.Abs
