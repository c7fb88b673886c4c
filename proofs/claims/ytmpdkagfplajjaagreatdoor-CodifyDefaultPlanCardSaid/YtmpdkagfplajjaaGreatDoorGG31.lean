/- The texts CvW, CyJ, CyK, CyL, CyM, CyN, CyO, CsA, CsB, CsL, CsY, CaA, CaB, CaC. -/
import Derived.Test.YtmpdkagfplajjaaGreatDoorGG30
import Derived.Test.YtmpdkagfplajjaaGreatDoorGG21
import Derived.Test.YtmpdkagfplajjaaGreatDoorGG29
import Derived.Test.YtmpdkagfplajjaaGreatDoorGG01
import Derived.Test.YtmpdkagfplajjaaGreatDoorGG28
import Derived.Test.YtmpdkagfplajjaaGreatDoorGG25
set_option linter.all false
set_option maxRecDepth 100000
namespace Go.Abs
open Go.Proofs TryTypes Tryz
section
mutual
def B0a(x:IdD):∀u:A0a,A1i x u=(A5m u).find? λv=>decide (v.id=x)
 |.mk id k l h w ks=>by
  rw[A1i,A5m,Z3K];have a:(A0a.mk id k l h w ks).id=id:=rfl;rw[a];by_cases c:id=x
  .rw[Z0d c,Z0v c]
  .rw[Z0c c,Z0y c];exact C3r x ks
def C3r(x:IdD):∀ks:List A0a,A9Y x ks=(A4Q ks).find? λv=>decide (v.id=x)
 |[]=>by rw[A9Y,A4Q];rfl
 |k::ks=>by rw[A9Y,A4Q,List.find?_append,B0a x k,C3r x ks];cases(A5m k).find? (λv=>decide (v.id=x))<;>rfl
end
def B9E:∀(us:List A0a) (L:List (IdD×A0a)),(L.map (·.1)++us.map A0a.id).Nodup->A6D L us=L++us.map λu=>(u.id,u)
 |[],L,_=>by simp[A6D]
 |u::us,L,h=>by
  have hn:u.id∉L.map (·.1):=by intro hm;rw[Z1J]at h;exact h.2.2 _ hm u.id (by simp) rfl
  rw[A6D,B9h hn,B9E us]
  .simp
  .simpa using h
def C1Q(x:IdD):∀us:List A0a,A1V (us.map λu=>(u.id,u)) x=us.find? λv=>decide (v.id=x)
 |[]=>rfl
 |u::us=>by
  rw[Z0s,A1V,Z3K];by_cases c:x=u.id
  .rw[Z0d c,Z0v c.symm]
  .rw[Z0c c,Z0y (λe=>c e.symm)];exact C1Q x us
def A7J{K:Type}[DecidableEq K]:∀(r S:List K),S.Nodup->A6r r S=true->(S++r).Nodup
 |[],S,h,_=>by simpa using h
 |x::r,S,h,hd=>by
  rw[A6r,Z0g,B4S]at hd;have hx:x∉S:=by simpa using hd.1
  have:=A7J r (S++[x]) (by rw[Z1J];exact⟨h,by simp,λa ha b hb=>by simp only[Z0t,Z1E,Z2H]at hb;subst hb;rintro rfl;exact hx ha⟩) hd.2;simpa using this
def C8K(u:A0a)(h:A6r (A0T u) []=true):A1V (A6D [] (A5m u))=λx=>A1i x u:=by have hn:=A7J (A0T u) [] (by simp) h;rw[<-A6E,Z1g]at hn;funext x;rw[B9E _ _ (by simpa using hn),Z1g,C1Q,B0a]
abbrev z96:List AV:=[.val (.slice none 0 0),.val (.map none),.val (.map none),.val (.map none)]
@[simp] def E5E:A0w prog 96 []=some (.agg z96):=by simp[A0w,A1e]
@[simp] def E4d{l}{a b c}:A0w prog 96 [(0,.list 5 l .no),(1,.mapr a),(2,.mapr b),(3,.mapr c)]=some (.agg [.list 5 l .no,.mapr a,.mapr b,.mapr c]):=by
 simp[A0w,A1e,A1r,A0e,A0I]
def C9C{n}:(I n).storable=true:=rfl
def C9V{n}:(I n).cells=[I n]:=rfl
def D0R:A1h prog 130=some 3:=by kernel_rfl
def D4O:A4f prog 130:=.inl ⟨3,by kernel_rfl⟩
def E3B:A3y prog 3 1 8:=⟨_,_,type3,rfl,rfl,rfl,rfl,by decide⟩
def A8S(KL:List (Int×AV))(p:Int):AV:=(A1V KL p).getD D0a
def A3e(l:List A0C)(id:IdD):Option Nat:=l.findIdx? λs=>decide (s.id=id)
def C0J(l:List A0C)(y:IdD):(A3e l y).isSome=l.any (λs=>decide (s.id=y)):=by simp[A3e]
def C5U(l:List A0C)(x:A0C)(y:IdD):A3e (l++[x]) y=match A3e l y with
 |some k=>some k
 |none=>if x.id=y then some l.length else none:=by
 unfold A3e
 rw[List.findIdx?_append]
 cases List.findIdx? (λs=>decide (s.id=y)) l with
 |some k=>rfl
 |none=>by_cases e:x.id=y<;>simp[e]
def D6H{F:IdD->Option A0a}{uid}{l}{n}(hn:n<l.length)(h:B3K F uid l n=0):A3e (l.take n) l[n].id=none:=by
 have h2:(l.take n).any (λs=>decide (s.id=l[n].id))=false:=by
  cases c:(l.take n).any (λs=>decide (s.id=l[n].id))with
  |false=>rfl
  |true=>
   simp only[B3K,Z0m hn,c,Z0M]at h;split at h
   .simp at h
   .simp at h
 have:=C0J (l.take n) l[n].id;rw[h2]at this;cases e:A3e (l.take n) l[n].id with
 |none=>rfl
 |some k=>rw[e]at this;simp at this
structure C9N (M0:Mem) (l:List A0C) (L:List (IdD×A0a)) (r a b c p i:Nat) (M:Mem):Prop where
 grow:Grow M0 M
 res:M[r]?=some (.cells 96 z96)
 pl:M[p]?=some (.cells 96 [.list 5 (A1U l) .no,.mapr a,.mapr b,.mapr c])
 units:A2i A2R B4Z M a L
 ix:∃IL,A2i A2R (λn:Nat=>I n) M b IL/\∀y,A1V IL y=A3e (l.take i) y
 kd:∃KL,A2i I (λv=>v) M c KL/\(∀q,A1b 3 1 C8O M (A8S KL q) (A2T l q i))/\(∀q f,obj (A8S KL q)=some f->p<f)/\∀q q' f,obj (A8S KL q)=some f->obj (A8S KL q')=some f->q=q'
structure B3z (l:List A0C) (L:List (IdD×A0a)) (a b c:Nat) (M:Mem):Prop where
 units:A2i A2R B4Z M a L
 ix:∃IL,A2i A2R (λn:Nat=>I n) M b IL/\∀y,A1V IL y=A3e l y
 kd:∃KL,A2i I (λv=>v) M c KL/\∀q,A1b 3 1 C8O M (A8S KL q) (A2T l q l.length)
def B7V(R:Int)(F:IdD->Option A0a)(l:List A0C)(r:List AV)(M:Mem):Prop:=r.length=4/\(R=0->∃L a b c,r=[.list 5 (A1U l) .no,.mapr a,.mapr b,.mapr c]/\A1V L=F/\B3z l L a b c M)
def B7V.bad{R}{F:IdD->Option A0a}{l}{r}{M}(h:r.length=4)(hR:R≠0):B7V R F l r M:=⟨h,λe=>absurd e hR⟩
section
variable (gl:Nat->AV)
set_option maxHeartbeats 1000000 in
def C5o(ap:gl 0=A2h)(b6:gl 1=A2s)(F:IdD->Option A0a)(u:A0a)(hF:F=λx=>A1i x u)(l:List A0C)(M:Mem)(a2:Fit u)(hl:l.length<=1000)(hs:∀s∈l,s.good):A0c (WC gl) 47 [.agg u.row,.list 5 (A1U l) .no] M (λv M'=>(∃r,v=.tuple [.agg r,I (A6i F u l)]/\B7V (A6i F u l) F l r M')/\Grow M M'):=by
 have a6:=λM=>C3e gl ap b6 u M a2;rw[C2d]at a6;obtain⟨R,hR⟩:∃R,R=A6i F u l:=⟨_,rfl⟩;rw[<-hR];simp only[A6i]at hR;have z:=λM=>B3H gl u [] M.length (M++[.map [] 0]) a2.1 (A2i.new M);rw[u.row_eq]at a6 z|-;refine A0o (hQ [52]) func47 ?_;simp -dsimp -implicitDefEqProofs[A0l];refine A0s func50 (a6 _) ?_;rintro _ M1 ⟨rfl,af⟩;have a0:Grow M M1:=by rw[af];exact A0d.app none _ _
 have a3:M1[M.length]?=some (.cells 96 z96):=by rw[af];simp
 cases c1:A3E u;case false=>simp only[c1,Z1S,Z0M]at hR;have o:M.length<M1.length:=(Z0a.1 a3).1;simp -dsimp -implicitDefEqProofs[A0h a3,A0K,A0I,hR,A0z o,A0k,A1o a0];exact .bad rfl (by decide)
 simp only[c1,Z1U,Z0J,Z1o]at hR;obtain⟨q1,q2⟩:=A8b u [] M1.length (M1++[.map [] 0]) (A2i.new M1);simp -dsimp -implicitDefEqProofs;refine A0s func102 (z M1) ?_;rintro _ M2 ⟨rfl,ay⟩;rw[<-ay]at q1 q2;have az:M1.length<M2.length:=q1.lt;have o:M.length<M1.length:=(Z0a.1 a3).1;have ak:M2[M.length]?=some (.cells 96 z96):=by rw[q2.2 _ (by simp;omega) (by simp;omega),Z0h o];exact a3
 have a8:Grow M M2:=by refine⟨by omega,λj hj _=>?_⟩;rw[q2.2 j (by simp;omega) (by simp;omega),Z0h (by omega)];exact a0.2 j hj (by simp)
 obtain⟨L,hL⟩:∃L,L=A6D [] (A5m u):=⟨_,rfl⟩;rw[<-hL]at q1;have al:A1V L=F:=by rw[hL,hF];refine C8K u ?_;simp only[A3E,Z0g]at c1;exact c1.2
 have hLn:(L.length:Int)=A0j u:=by
  have h1:=B1R (A5m u) [];rw[A6E,<-hL]at h1;have h2:(A5X [] (A0T u)).length=A0j u:=by have:=(B3e (A0T u) ([]:List IdD)).2 (by simp only[A3E,Z0g]at c1;exact c1.2);rw[A5a]at this;simpa using this
  have h3:=congrArg List.length h1;simp only[Z0K,Z2c]at h3;omega
 have bd:=A3X u;have bg:=a2.2.2;obtain⟨E,hE⟩:∃E,E=B3K F u.id l:=⟨_,rfl⟩;rw[<-hE]at hR;have b0:∀n,(∀j,j<n->E j=0)->∀j,j<n->B3j l j:=by rw[hE];exactλn=>C8g
 obtain⟨a,ha⟩:∃a,a=M1.length:=⟨_,rfl⟩;obtain⟨b,hb⟩:∃b,b=M2.length:=⟨_,rfl⟩;have ao:A2i A2R (λn:Nat=>I n) (M2++[A0p.map [] 0]) b []:=by rw[hb];exact A2i.new M2
 obtain⟨M3,w⟩:∃M3,M3=M2++[A0p.map [] 0,A0p.map [] 0,A0p.cells 96 [.list 5 (A1U l) .no,.mapr a,.mapr b,.mapr (b+1)]]:=⟨_,rfl⟩;have t:C9N M l L M.length a b (b+1) (b+2) 0 M3:=by
  have a1:Grow M2 M3:=by rw[w];exact A0d.app none _ _
  refine⟨a8.trans a1,a1.get ak (by simp),?_,?_,⟨[],⟨[],0,?_,rfl⟩,λy=>by simp[A1V,A3e]⟩,⟨[],⟨[],0,?_,rfl⟩,λq=>?_,λq f hf=>by simp[A8S,A1V,D0a]at hf,λq q' f hf=>by simp[A8S,A1V,D0a]at hf⟩⟩
  .rw[w,hb];simp
  .rw[ha];exact q1.keep a1 (by simp)
  .rw[w,hb];simp
  .rw[w,hb];simp
  .simp only[A8S,A1V,Z3C,A2T,List.range_zero,List.filter_nil];exact .nil
 simp -dsimp -implicitDefEqProofs[A0l,A0m,A0e,A0K,A0I];rw[<-ha,<-hb,<-w];have bf:M.length<a/\a<b:=by omega
 clear a6 z af a0 a3 ay q1 q2 az o ak a8 ao w ha hb;have ab:=λIL KL n M hM hI hK hIx hKx hn hord=>D3K gl ap u l L IL KL a b (b+1) n M hM hI hK hIx hKx hl hs hn hord;rw[al,<-hE,u.row_eq]at ab;refine A0y (hQ [52]) l.length 23 (λT M3=>∃i:Nat,i<=l.length/\T 1=.list 5 (A1U l) .no/\T 2=.cptr [I u.id.act,I u.id.item,I u.id.n,I u.kind,S u.label,.list 4 (A0g u.head) .no,.list 4 (A0g u.words) .no,.list 8 (A0q u.kids) .no]/\T 4=.ptr M.length 0/\T 6=.ptr (b+2) 0/\T 21=.list 5 (A1U l) .no/\T 22=I l.length/\T 23=I i/\C9N M l L M.length a b (b+1) (b+2) i M3/\A7O E l.length 0=A7O E (l.length-i) i/\∀j,j<i->E j=0) ?_ ?_
 .exact⟨0,by omega,by simp,by simp,by simp,by simp,by simp,by simp,by simp,t,by simp,by simp⟩
 clear t;rintro T M3 ⟨i,i1,t1,t2,t4,t6,g,d,m,t,ho,hz⟩;by_cases hi:i<l.length;case neg=>
  have a5:¬(i:Int)<l.length:=by omega
  rw[show l.length-i=0 by omega,A7O]at ho;rw[ho,Z0d rfl]at hR;have bb:B7V 0 F l [.list 5 (A1U l) .no,.mapr a,.mapr b,.mapr (b+1)] (M3.set M.length (.cells 96 [.list 5 (A1U l) .no,.mapr a,.mapr b,.mapr (b+1)])):=by
   (have b7:i=l.length:=by omega);subst b7
   obtain⟨-,-,-,g4,⟨IL,g5,g6⟩,KL,g7,g8,g9,-⟩:=t;have p:A0d (some M.length) M3 (M3.set M.length (.cells 96 [.list 5 (A1U l) .no,.mapr a,.mapr b,.mapr (b+1)])):=.set _ _ _;refine⟨rfl,λ_=>⟨L,a,b,b+1,rfl,al,g4.keep p (by simp;omega),⟨IL,g5.keep p (by simp;omega),λy=>by rw[g6,Z4i]⟩,KL,g7.keep p (by simp;omega),λq=>(g8 q).keep p λf hf e=>?_⟩⟩;have:=g9 q f hf;simp at e;omega
  obtain⟨h1,h2,h3,h4,-,-⟩:=t;have ax:A3v prog 92 M3 (.mapr a)=some L.length:=h4.len (kt:=23) (et:=27) (by simp);have w2:IntKind.i64.wrap ((A0j u:Int)-1)=A0j u-1:=A0J (by omega) (by omega);have a9:M.length<M3.length:=(Z0a.1 h2).1;by_cases c3:(l.length:Int)=A0j u-1
  .rw[Z0d c3]at hR;simp -dsimp -implicitDefEqProofs[t1,t2,t4,t6,g,d,m,a5,A0b h3,A6n,ax,hLn,w2,Z1h c3,A0h h2,A0K,A0I,A0z a9,A0k,hR,A1o h1];exact bb
  .rw[Z0c c3]at hR;simp -dsimp -implicitDefEqProofs[t1,t2,t4,t6,g,d,m,a5,A0b h3,A6n,ax,hLn,w2,c3,A0h h2,A0K,A0I,A0z a9,A0k,hR,A1o h1];exact .bad rfl (by decide)
 have a5:(i:Int)<l.length:=by omega
 have w1:=A1E (i:=i) (by omega);obtain⟨x,hx⟩:∃x,x=l[i]:=⟨_,rfl⟩;have au:=hx.symm;rw[show l.length-i=(l.length-(i+1))+1 by omega,A7O]at ho;obtain⟨M4,ae⟩:∃M4,M4=M3++[A0p.cells 69 [I x.id.act,I x.id.item,I x.id.n,I x.parent,S x.label]]:=⟨_,rfl⟩;have ai:M4[M3.length]?=some (A0p.cells 69 [I x.id.act,I x.id.item,I x.id.n,I x.parent,S x.label]):=by rw[ae];simp
 have c:Grow M3 M4:=by rw[ae];exact A0d.app none _ _
 obtain⟨h1,h2,h3,h4,⟨IL,h5,h6⟩,KL,h7,h8,h9,ah⟩:=t;have ar:b+2<M3.length:=(Z0a.1 h3).1;have ac:∀q f,obj (A8S KL q)=some f->f<M3.length:=λq f hf=>(h8 q).lt hf;replace h1:=h1.trans c;replace h2:=c.get h2 (by simp);replace h3:=c.get h3 (by simp);replace h4:=h4.keep c (by simp);replace h5:=h5.keep c (by simp);replace h7:=h7.keep c (by simp);replace h8:=λq=>(h8 q).keep c (by simp);simp -dsimp -implicitDefEqProofs[t1,t2,t4,t6,g,d,m,hi,a5,au,A0C.row,A0l,A0m,A0e,A0K,A0I];rw[<-ae];simp -dsimp -implicitDefEqProofs[t1,t2,t4,t6,g,d,m,A0b h3];refine A0s func103 (ab IL KL i M4 h4 h5 h7 (λy=>by rw[h6 y];exact C0J _ _) h8 hi (b0 i hz)) ?_;rintro _ M4 ⟨rfl,rfl⟩;by_cases c2:E i=0;case neg=>rw[Z0c c2]at ho;rw[ho,Z0c c2]at hR;have aq:=(Z0a.1 h2).1;simp -dsimp -implicitDefEqProofs[t1,t2,t4,t6,g,d,m,c2,A0h h2,A0K,A0I,A0z aq,A0k,hR,A1o h1];exact .bad rfl c2
 rw[Z0d c2]at ho;obtain⟨M5,p1,p2,p3⟩:=h5.put (A9j 93 3 (by kernel_rfl)) x.id i;have b1:A1N prog 93 M4 (.mapr b) (.agg [I x.id.act,I x.id.item,I x.id.n]) (I i)=some M5:=p1;obtain⟨xo,aj⟩:∃xo,xo=M3.length:=⟨_,rfl⟩;rw[<-aj]at ai ar ac;simp -dsimp -implicitDefEqProofs[t1,t2,t4,t6,g,d,m,Z1h c2,A0b h3,<-aj];rw[A0b ai];simp -dsimp -implicitDefEqProofs[b1];replace h1:Grow M M5:=⟨Z0X h1.1 p3.1,λj hj _=>(p3.2 j (by have:=h1.1;omega) (by simp;omega)).trans (h1.2 j hj (by simp))⟩;replace h2:=p3.get h2 (by simp;omega);replace h3:=p3.get h3 (by simp);replace h4:=h4.keep p3 (by simp;omega);replace h7:=h7.keep p3 (by simp);replace h8:=λq=>(h8 q).keep p3 (by intro f hf;have:=h9 q f hf;simp;omega);have ad:=p3.get ai (by simp;omega);have b5:A1S prog 94 M5 (.mapr (b+1)) (I x.parent) false=some (A8S KL x.parent):=by rw[h7.get (C0I 94 130 (by kernel_rfl)) x.parent B5r false,A8S];cases A1V KL x.parent<;>rfl
 refine A5r (hQ [52]) (A0t gl) (λk=>if k=1\/k=3\/k=5\/k=7\/k=8 then 1 else if k=11\/k=12 then 2 else 0) (λk=>if k=1\/k=5 then b+2 else if k=8 then b+1 else xo) (λk=>k==8) [b+2,xo] ?_ (by rfl) (by kernel_rfl) ?_
 .intro k _ h;have h:¬k=8:=by simpa using h
  by_cases e:k=1\/k=5<;>simp[e,h]
 simp -dsimp -implicitDefEqProofs[t1,t2,t4,t6,g,d,m,<-aj,A1a,A0b h3,A0b ad,b5,A0n,A0W,C9C,C9V];have be:=B1B l x.parent i;have b8:A2t l i=x.parent:=by simp[A2t,hi,hx]
 refine A3p (C:=WC gl) (enc:=C8O) (e:=3) (sz:=1) (news:=[i]) D0R D4O E3B (λ_=>rfl) (h8 x.parent) (by simp[A0A,C8O]) (by simp;omega) rfl ?_;intro v' M6 k1 k2 k3 _;have ag:M6[b+2]?=M5[b+2]?:=k2.2 _ (by have:=(Z0a.1 h3).1;exact this) (λe=>by have:=h9 _ _ e;omega);have am:M6[xo]?=M5[xo]?:=k2.2 _ (by have:=(Z0a.1 ad).1;exact this) (λe=>by have:=ac _ _ e;omega);have b3:obj (A8S KL x.parent)≠some (b+1):=λe=>by have:=h9 _ _ e;omega
 obtain⟨M7,m1,m2,m3⟩:=(h7.keep k2 b3).put (C0I 94 130 (by kernel_rfl)) x.parent v';have b2:A1N prog 94 M6 (.mapr (b+1)) (I x.parent) v'=some M7:=m1;have an:M7[b+2]?=M6[b+2]?:=m3.2 _ (by have:=(Z0a.1 (ag.trans h3)).1;exact this) (by simp);have b4:M7[xo]?=M6[xo]?:=m3.2 _ (by have:=(Z0a.1 (am.trans ad)).1;exact this) (by simp;omega);simp -dsimp -implicitDefEqProofs[t1,t2,t4,t6,g,d,m,ag,am,b2,an,b4,w1];have ba:C9N M l L M.length a b (b+1) (b+2) (i+1) M7:=by
  have a4:∀q,A8S (A8s KL x.parent v') q=if q=x.parent then v' else A8S KL q:=λq=>by simp only[A8S,C2P];by_cases e:q=x.parent<;>simp[e]
  have bc:b+2<M5.length:=(Z0a.1 h3).1;have av:∀f,obj v'=some f->b+2<f:=λf hf=>by
   rcases k3 with e|e
   .exact h9 _ f (by rw[<-e];exact hf)
   .have:=e f hf;omega
  have a7:∀j,j<b+1->M7[j]?=M5[j]?:=λj hj=>by have e6:M6[j]?=M5[j]?:=k2.2 j (by omega) (λe=>by have:=h9 _ _ e;omega);rw[m3.2 j (by have:=k2.1;omega) (by simp;omega),e6]
  have b9:∀q,A2T l q (i+1)=A2T l q i++if q=x.parent then[i]else[]:=λq=>by
   rw[D2Z,b8];by_cases e:q=x.parent
   .rw[Z0d e.symm,Z0d e]
   .rw[Z0c (λh=>e h.symm),Z0c e]
  refine⟨⟨by have:=h1.1;have:=k2.1;have:=m3.1;omega,λj hj _=>(a7 j (by omega)).trans (h1.2 j hj (by simp))⟩,by rw[a7 _ (by omega)];exact h2,by rw[an,ag];exact h3,(h4.keep k2 (λe=>by have:=h9 _ _ e;omega)).keep m3 (by simp;omega),⟨_,(p2.keep k2 (λe=>by have:=h9 _ _ e;omega)).keep m3 (by simp),λy=>?_⟩,_,m2,λq=>?_,λq f hf=>?_,λq q' f hf hf'=>?_⟩
  ·(have aw:A3e (l.take i) x.id=none:=by rw[hx];exact D6H hi (by rw[<-hE];exact c2));rw[C2P,Z0D hi,C5U,au,<-h6]
   by_cases e:y=x.id
   .rw[Z0d e,e,h6,aw];simp;omega
   .rw[Z0c e];have:¬x.id=y:=λh=>e h.symm;rw[Z0c this];cases A1V IL y<;>rfl
  .rw[a4,b9];by_cases e:q=x.parent
   .rw[Z0d e,Z0d e,e];exact k1.keep m3 (λf hf=>by have:=av f hf;simp;omega)
   .rw[Z0c e,Z0c e,Z1b];exact((h8 q).keep k2 (λf hf hs=>e (ah _ _ f hf hs))).keep m3 (λf hf=>by have:=h9 _ f hf;simp;omega)
  .rw[a4]at hf;by_cases e:q=x.parent
   .rw[Z0d e]at hf;exact av f hf
   .rw[Z0c e]at hf;exact h9 q f hf
  .have aa:∀q,obj (A8S KL q)=some f->obj v'=some f->q=x.parent:=λq h1 h2=>by
    rcases k3 with e|e
    .exact ah _ _ f h1 (by rw[<-e];exact h2)
    .have:=e f h2;have:=(h8 q).lt h1;omega
   rw[a4]at hf hf';by_cases e:q=x.parent
   .rw[Z0d e]at hf;by_cases e':q'=x.parent
    .rw[e,e']
    .rw[Z0c e']at hf';exact absurd (aa q' hf' hf) e'
   .rw[Z0c e]at hf;by_cases e':q'=x.parent
    .rw[Z0d e']at hf';exact absurd (aa q hf hf') e
    .rw[Z0c e']at hf';exact ah _ _ f hf hf'
 exact⟨⟨i+1,by clear w1;omega,rfl,ba,ho,λj hj=>by
  by_cases e:j=i
  .rw[e];exact c2
  .exact hz j (by clear w1;omega)⟩,by clear w1;omega⟩
def B7v(c:gl 0=A2h)(d:gl 1=A2s)(F:IdD->Option A0a)(u:A0a)(hF:F=λx=>A1i x u)(l:List A0C)(M:Mem)(a:Fit u)(hl:l.length<=1000)(hs:∀s∈l,s.good):A0c (WC gl) 12 [.agg u.row,.list 5 (A1U l) .no] M (λv M'=>v=I (A6i F u l)/\M'=M):=by refine A3f (λ_=>trivial) ?_;have hb:=C5o gl c d F u hF l M a hl hs;rw[u.row_eq]at hb|-;refine A3b hB func12 rfl rfl rfl rfl rfl rfl ?_;simp -dsimp -implicitDefEqProofs;refine A1l (A0V func47 rfl rfl hb) ?_;rintro _ M1 ⟨⟨r,rfl,hr,-⟩,b⟩;have hd:List.drop 4 z96=[]:=rfl;have hz:z96.length=4:=rfl;have h2:Grow M (M1++[A0p.cells 96 r]):=b.trans (A0d.app none _ _);simp -dsimp -implicitDefEqProofs[A0l,A0m,A0e,A0K,A0I,hr,hz,hd,h2]
end
end
open Go.Proofs TryTypes
def C9l(p:List A0M):Prop:=p.length<=1000000/\∀s∈p,s.lab.size<=maxLen
section
variable (gl:Nat->AV) (M:Mem)
end
def hR:A2r:=⟨λ_=>true,λ_=>false,λd=>d==6||d==41||d==74||d==82⟩
@[simp] def E7x:hR.imm=λ_=>true:=rfl
@[simp] def E8h:hR.own=λ_=>false:=rfl
@[simp] def E8E:hR.vec=λd=>d==6||d==41||d==74||d==82:=rfl
section
variable (gl:Nat->AV) (M:Mem)
end
def C1D(M:Mem)(v:AV)(l:List ByteArray):Prop:=(∃o,v=.list 1 (A1d l) o)\/A5H 9 M v (l.map S)
def C1D.len{M:Mem}{v:AV}{l:List ByteArray}(h:C1D M v l):A2v prog 37 v=some l.length:=by
 rcases h with⟨o,rfl⟩|h
 .simp[A2v]
 .rw[h.len (e:=9) (by simp)];simp
def C1D.at{M:Mem}{v:AV}{l:List ByteArray}(h:C1D M v l){i:Nat}(hi:i<l.length):∃p,A6N (some (some 1)) v (I i)=some p/\((p=.cptr [S l[i]])\/∃f,obj v=some f/\A5n p=some f/\A1m prog 9 M p=some (S l[i])):=by
 rcases h with⟨o,rfl⟩|h
 .refine⟨_,by simp[hi];rfl,.inl ?_⟩;simp[A1d,hi]
 .rcases h with⟨rfl,hn⟩|⟨f,g,a,rfl,hf,hl⟩
  ·(have:l.length=0:=by have:=congrArg List.length hn;simpa using this);omega
  .refine⟨_,by simp[hi];rfl,.inr ⟨f,rfl,rfl,?_⟩⟩;simp[A1m,A2S,hf,hl,A0k,hi];rw[Z0k (by simp),Z0i (by simpa using hi)];simp
section
variable (gl:Nat->AV) (M:Mem)
def D8w(a b:AV)(x y:List ByteArray)(ha:C1D M a x)(hb:C1D M b y)(hx:x.length<=1000000):A0c (WC gl) 17 [a,b] M (λv M'=>v=B (decide (x=y))/\M'=M):=by
 refine A3b hB func17 rfl rfl rfl rfl rfl rfl ?_;by_cases hlen:x.length=y.length
 .have j:(x.length:Int)=y.length:=by omega
  simp -dsimp -implicitDefEqProofs[ha.len,hb.len,j,hlen];refine A1R hB (λT M1=>∃i:Nat,i<=x.length/\M1=M/\T 0=a/\T 1=b/\T 5=I i/\x.take i=y.take i) (λT M1=>match T 5 with|.val (.int _ i)=>x.length-i.toNat|_=>0) (by kernel_rfl) ?_ ?_
  .refine⟨0,?_⟩;simp -dsimp -implicitDefEqProofs
  .rintro T M1 ⟨i,h1,rfl,h2,h3,h4,h5⟩;by_cases hi:i<x.length
   ·(have h:(i:Int)<x.length:=by omega);have f:i<y.length:=by omega
    (have m:(i:Int)<y.length:=by omega);have hw:IntKind.i64.wrap ((i:Int)+1)=(i+1:Nat):=by rw[A0J (by omega) (by omega)];omega
    obtain⟨pa,d,ca⟩:=ha.at hi;obtain⟨pb,c,cb⟩:=hb.at f;have fin:x[i]≠y[i]->decide (x=y)=false:=λl=>Z0y λe=>l (by subst e;rfl);(have g:x[i]=y[i]->x.take (i+1)=y.take (i+1):=λhe=>by rw[Z0D hi,Z0D f,h5,he]);simp -dsimp -implicitDefEqProofs[h2,h3,h4,ha.len,hb.len,h];rcases ca with rfl|⟨fa,oa,ra,la⟩
    .rcases cb with rfl|⟨fb,ob,rb,lb⟩
     .refine A0X hB (A0t gl) (λ_=>0) (λ_=>0) (by rfl) (by kernel_rfl) ?_;by_cases he:x[i]=y[i]
      .simp -dsimp -implicitDefEqProofs[h2,h3,h4,d,c,he,hw];exact⟨⟨i+1,by clear hw;omega,by simp,g he⟩,by clear hw;omega⟩
      .simp -dsimp -implicitDefEqProofs[h2,h3,h4,d,c,he,fin he]
     .refine A0X hB (A0t gl) (λk=>if k=7 then 1 else 0) (λ_=>fb) (by rfl) (by kernel_rfl) ?_;by_cases he:x[i]=y[i]
      .simp -dsimp -implicitDefEqProofs[h2,h3,h4,d,c,he,hw,rb,lb];exact⟨⟨i+1,by clear hw;omega,by simp,g he⟩,by clear hw;omega⟩
      .simp -dsimp -implicitDefEqProofs[h2,h3,h4,d,c,he,fin he,rb,lb]
    .rcases cb with rfl|⟨fb,ob,rb,lb⟩
     .refine A0X hB (A0t gl) (λk=>if k=3 then 1 else 0) (λ_=>fa) (by rfl) (by kernel_rfl) ?_;by_cases he:x[i]=y[i]
      .simp -dsimp -implicitDefEqProofs[h2,h3,h4,d,c,he,hw,ra,la];exact⟨⟨i+1,by clear hw;omega,by simp,g he⟩,by clear hw;omega⟩
      .simp -dsimp -implicitDefEqProofs[h2,h3,h4,d,c,he,fin he,ra,la]
     .refine A0X hB (A0t gl) (λk=>if k=3\/k=7 then 1 else 0) (λk=>if k=3 then fa else fb) (by rfl) (by kernel_rfl) ?_;by_cases he:x[i]=y[i]
      .simp -dsimp -implicitDefEqProofs[h2,h3,h4,d,c,he,hw,ra,la,rb,lb];exact⟨⟨i+1,by clear hw;omega,by simp,g he⟩,by clear hw;omega⟩
      .simp -dsimp -implicitDefEqProofs[h2,h3,h4,d,c,he,fin he,ra,la,rb,lb]
   ·(have h:¬(i:Int)<x.length:=by omega);rw[Z0k (by omega),Z0k (by omega)]at h5
    (have f:¬i<y.length:=by omega);simp -dsimp -implicitDefEqProofs[h2,h3,h4,ha.len,h,f,h5]
 .have j:¬(x.length:Int)=y.length:=by omega
  have:¬x=y:=λe=>hlen (by rw[e]);simp -dsimp -implicitDefEqProofs[ha.len,hb.len,j,hlen,this]
end
def C7H(a b:A1F):Bool:=decide (a.frm=b.frm/\a.at_=b.at_)
def C3G:ByteArray:=⟨#[97,110,100]⟩
def A7y(out:List ByteArray)(s:ByteArray):List ByteArray:=out.set (out.length-1) (out.getD (out.length-1) .empty++s)
section
variable (l:List ByteArray) (old:List A1F) (names:List (List A0M))
def A5f(i:Nat):Bool:=decide (0<i)&&(match old[i-1]?,old[i]? with|some a,some b=>C7H a b|_,_=>false)
def B2e(i:Nat):Bool:=decide (i+1=old.length)||(match old[i+1]?,old[i]? with|some a,some b=>!C7H a b|_,_=>false)
def B4Y(i:Nat)(out:List ByteArray)(e:Int):Option (List ByteArray×Int):=match old[i]?,names[i]? with
 |some c,some p=>
  if A4m p=[]\/c.frm<0\/c.at_<=c.frm\/c.at_>l.length\/(A5f old i=false/\c.frm<e)then none else
  let out1:=(if A5f old i then out++[C3G]else out++(l.take c.frm.toNat).drop e.toNat)++A4m p
  some (if B2e old i then A7y out1 (B2E (l.getD (c.at_.toNat-1) .empty))else out1,c.at_)
 |_,_=>none
def B5c:Nat->Nat->List ByteArray->Int->List ByteArray
 |0,_,out,e=>out++l.drop e.toNat
 |n+1,i,out,e=>match B4Y l old names i out e with
  |none=>l
  |some r=>B5c n (i+1) r.1 r.2
def A5u:List ByteArray:=if old.length=names.length then B5c l old names old.length 0 [] 0 else l
end
def A5p(p:List A1F):List (List AV):=p.map A1F.row
def A7s(p:List (List A0M)):List (List AV):=p.map λx=>[A9r x]
@[simp] def E2v(p:List A1F):(A5p p).length=p.length:=by simp[A5p]
@[simp] def D9W(p:List (List A0M)):(A7s p).length=p.length:=by simp[A7s]
@[simp] def E2c{p}{i}(h:i<(A5p p).length):(A5p p)[i]=(p[i]'(by simpa using h)).row:=by simp[A5p]
@[simp] def E1u{p}{i}(h:i<(A7s p).length):(A7s p)[i]=[.list 2 (A1T (p[i]'(by simpa using h))) .no]:=by simp[A7s,A1T]
@[simp] def E2o{p}{i}(h:i<(A1d p).length):(A1d p)[i]=[S (p[i]'(by simpa using h))]:=by simp[A1d]
def C8F{p}{n}:(A1d p).take n=A1d (p.take n):=by simp[A1d,Z1w]
def B9k{p}{n}:(A1d p).drop n=A1d (p.drop n):=by simp[A1d,List.map_drop]
def A3m{g n}(q:Nat×Nat->Bool):∀{b:List (Nat×Nat)},b.lookup g=some n->(b.filter λx=>x.1==g||q x).lookup g=some n
 |[],h=>by simp at h
 |a::l,h=>by
  by_cases c:a.1=g
  ·(have e:(a.1==g||q a)=true:=by simp[c]);rw[Z2a,Z0d e]
   obtain⟨a1,a2⟩:=a;simp only at c;subst c;simpa[List.lookup]using h
  ·(have hl:l.lookup g=some n:=by obtain⟨a1,a2⟩:=a;(have:(g==a1)=false:=by simpa usingλe=>c e.symm);simpa[List.lookup,this]using h);have ih:=A3m q hl;by_cases e:(a.1==g||q a)=true
   .rw[Z2a,Z0d e];obtain⟨a1,a2⟩:=a;(have:(g==a1)=false:=by simpa usingλe=>c e.symm);simpa[List.lookup,this]using ih
   .rw[Z2a,Z0c e];exact ih
def A5H.spot{e:TypeId}{M}{v}{cs}(h:A5H e M v cs){t:TypeId}(ht:A2k prog t=some false)(hs:A1t prog t=some 1){i}(hi:i<cs.length):∃p,A6N (some (some 1)) v (I i)=some p/\A1m prog t M p=some cs[i]/\∀x:AV,x.storable=true->x.cells=[x]->∃M',A0m (some 1) M p x=some M'/\A5H e M' v (cs.set i x)/\A0d (obj v) M M':=by
 rcases h with⟨rfl,hn⟩|⟨f,g,a,rfl,hf,hl⟩
 .subst hn;simp at hi
 .refine⟨_,by simp[hi];rfl,?_,?_⟩
  .simp[A1m,A2S,hf,hl,A0k,ht,hs];rw[Z0i hi,C6J]
  .intro x h1 h2;have b:f<M.length:=(Z0a.1 hf).1;refine⟨_,by simp only[A0m,hf,hl,h1,h2];simp;exact⟨by omega,rfl⟩,.inr ⟨f,g,A1w 1 g i a,by simp,?_,?_⟩,.set _ _ _⟩
   .simp[b,A0e];rw[Z2T,Z0d hi]
   .simp only[Z1W];unfold A1w;exact A3m _ hl
def D5S{C}{N}{c}{Q}{T}{M}{tg}(I:Env->Mem->Prop)(h1:wWp C N c (λe T' M'=>B6K (λT M=>I T M) (λ_ _ _=>False) e T' M' ⟨⟩) T M ⟨⟩)(h2:∀T M,I T M->Q .normal T M):wWp C N c Q T M tg:=AWp.mono h1 λe T M h=>by cases e<;>first|exact h2 T M h|exact h.elim
def E0r(M:Mem):Bld M.length M.length (M++[.cells 116 [.val (.pointer none),.val (.slice none 0 0)]]) .empty:=⟨Z0n _,_,_,by simp,.inl rfl,.inl ⟨rfl,rfl⟩,by simp,λ_=>rfl⟩
def B7s{s}(h:A0B s=true):s.size<=7:=by simp only[A0B,Z0g,Z0l]at h;omega
def B7e{p}:∀w∈A4m p,w.size<=16:=by
 intro w hw;unfold A4m at hw;split at hw
 .rename_i h;have hg:=Z0u.1 (C2r h);simp only[A9d,Z2W]at hw;obtain⟨s,hs,hw⟩:=hw;unfold A5A at hw;split at hw
  .simp only[Z1m]at hw;subst hw;decide
  .rename_i hb;(have hn:A2b s=true:=by have:=hg s hs;simpa[A8k,hb]using this);simp only[A2b,Z0g,Z0l]at hn;simp only[Z0t,Z1E,Z2H]at hw;rcases hw with rfl|rfl
   ·(have:∀k:Fin 8,(A1M.getD k.val ⟨#[]⟩).size<=16:=by decide);exact this ⟨s.k.toNat,by omega⟩
   .have:=B7s hn.2;omega
 .simp at hw
def B4x(s:ByteArray):(B2E s).size<=1:=by
 unfold B2E;split
 .decide
 .split
  .simp;omega
  .decide
def A5H.keepLow{e:TypeId}{M M'}{v}{cs}(h:A5H e M v cs){n}(hk:A1c n M M')(hn:∀f,obj v=some f->f<n):A5H e M' v cs:=by
 rcases h with⟨rfl,h⟩|⟨f',g,a,rfl,hm,hl⟩
 .exact .inl ⟨rfl,h⟩
 .exact .inr ⟨f',g,a,rfl,hk.get (hn _ rfl) hm,hl⟩
def C7R{xs ys:List ByteArray}(h:ys≠[]):(xs++ys).getD ((xs++ys).length-1) .empty∈ys:=by
 have hp:0<ys.length:=Z2p.2 h;have a:(xs++ys).length-1<(xs++ys).length:=by simp;omega
 simp only[Z2O,Z0m a,Z1y];rw[Z2P (by simp;omega)];exact Z0q _
def C4t{out}{s}:(A7y out s).map S=(out.map S).set (out.length-1) (S (out.getD (out.length-1) .empty++s)):=by simp[A7y,List.map_set]
def hX:A2r:=⟨λ_=>true,λ_=>false,λd=>d==81||d==88||d==91||d==135⟩
@[simp] def E7r:hX.own=λ_=>false:=rfl
@[simp] def E8z:hX.vec=λd=>d==81||d==88||d==91||d==135:=rfl
section
variable (gl:Nat->AV) (M:Mem)
set_option maxHeartbeats 4000000 in
def D0c(l:List ByteArray)(old:List A1F)(names:List (List A0M))(o1 o2 o3:Own)(hl:l.length<=1000)(c9:∀s∈l,s.size<=maxLen)(ho:old.length<=20000)(hn:∀p∈names,C9l p):A0c (WC gl) 18 [.list 1 (A1d l) o1,.list 5 (A5p old) o2,.list 1 (A7s names) o3] M (A4B M (A5u l old names)):=by
 refine A0o hX func18 ?_
 by_cases hlen:old.length=names.length
 case neg=>
  have a2:¬(old.length:Int)=names.length:=by omega
  simp -dsimp -implicitDefEqProofs[a2];refine A0s func59 (C8i gl M l o1 (by omega)) ?_;intro v M' h;simp -dsimp -implicitDefEqProofs[A5u,hlen,h]
 have a2:(old.length:Int)=names.length:=by omega
 have c1:A5u l old names=B5c l old names old.length 0 [] 0:=by rw[A5u,Z0d hlen]
 rw[c1]
 simp -dsimp -implicitDefEqProofs[a2,hlen]
 refine A0y hX old.length 23 (λT M1=>∃(i:Nat) (d:List ByteArray) (e:Int),i<=old.length/\A4B M d (T 7) M1/\T 0=.list 1 (A1d l) o1/\T 1=.list 5 (A5p old) o2/\T 2=.list 1 (A7s names) o3/\T 8=I e/\0<=e/\e<=l.length/\T 21=.list 5 (A5p old) o2/\T 22=I old.length/\T 23=I i/\d.length<=i*1200/\B5c l old names old.length 0 [] 0=B5c l old names (old.length-i) i d e) ?_ ?_
 .refine⟨0,[],0,?_⟩;simp -dsimp -implicitDefEqProofs[A4B,A5H,A0d.refl,A1g,hlen]
 .rintro T M1 ⟨i,d,e,h1,h2,h3,h4,h5,h6,h7,h8,h9,ad,a4,cp,ao⟩;generalize ag:T 7=ov at h2;by_cases hi:i<old.length
  ·(have ap:(i:Int)<old.length:=by omega);have az:i<names.length:=by omega
   (have bc:(i:Int)<names.length:=by omega);have hw:IntKind.i64.wrap ((i:Int)+1)=(i+1:Nat):=by rw[A0J (by omega) (by omega)];omega
   (have bx:(M1++[A0p.cells 110 old[i].row])[M1.length]?=some (A0p.cells 110 old[i].row):=by simp);have hp:=hn names[i] (Z0q az)
   (have y:B5c l old names (old.length-i) i d e=match B4Y l old names i d e with|none=>l|some r=>B5c l old names (old.length-(i+1)) (i+1) r.1 r.2:=by rw[show old.length-i=(old.length-(i+1))+1 by omega];rfl);have af:old[i]?=some old[i]:=Z0m hi
   have bi:names[i]?=some names[i]:=Z0m az;simp -dsimp -implicitDefEqProofs[h3,h4,h5,h6,h9,ad,a4,hi,ap,az,bc,A0l,A0m,A0e,A1F.row];refine A0s func60 (D0d gl _ names[i] .no hp.1) ?_;intro w M2 z;have a1:=z.2.1.get bx (by simp);have aa:Grow M M2:=(h2.2.1.trans (.app none M1 _)).trans z.2.1;have c2:A5f old i=(decide (0<i)&&(match old[i-1]?,old[i]? with|some a,some b=>C7H a b|_,_=>false)):=rfl;simp -dsimp -implicitDefEqProofs;refine D5S (λT M=>M=M2/\T 0=.list 1 (A1d l) o1/\T 1=.list 5 (A5p old) o2/\T 2=.list 1 (A7s names) o3/\T 7=ov/\T 8=I e/\T 9=I i/\T 10=.ptr M1.length 0/\T 11=w/\T 12=B (A5f old i)/\T 21=.list 5 (A5p old) o2/\T 22=I old.length/\T 23=I i) ?_ ?_
   .refine A0X hX (A0t gl) (λk=>if k=8 then 1 else 0) (λ_=>M1.length) (by rfl) (by kernel_rfl) ?_;by_cases i0:i=0
    .subst i0;simp -dsimp -implicitDefEqProofs[h3,h4,h5,h6,h9,ad,a4,ag,A5f]
    ·(have bp:(0:Int)<i:=by omega);have al:0<i:=by omega
     (have c8:IntKind.i64.wrap ((i:Int)-1)=(i-1:Nat):=by rw[A0J (by omega) (by omega)];omega);have bj:i-1<old.length:=by omega
     (have bg:((i-1:Nat):Int)<old.length:=by omega);have ca:A5f old i=C7H old[i-1] old[i]:=by rw[c2,af,Z0m bj];simp[al]
     rw[ca];simp -dsimp -implicitDefEqProofs[h3,h4,h5,h6,h9,ad,a4,ag,bp,al,c8,bj,bg,A0b a1,A1F.row];refine A7x (r:=B (C7H old[i-1] old[i])) (λM=>A0V func61 rfl rfl (D0B gl M old[i-1] old[i])) ?_;simp -dsimp -implicitDefEqProofs[h3,h4,h5,h6,h9,ad,a4,ag]
   .rintro T2 a0 ⟨rfl,k1,k2,k3,k4,k5,k6,k7,k8,k9,n,o,q⟩;(have a3:A2v prog 37 w=some (A4m names[i]).length:=by rw[z.1.len (e:=9) (by simp)];simp);by_cases hbad:A4m names[i]=[]\/old[i].frm<0\/old[i].at_<=old[i].frm\/old[i].at_>l.length\/(A5f old i=false/\old[i].frm<e)
    ·(have bv:B4Y l old names i d e=none:=by simp only[B4Y,af,bi];rw[Z0d hbad]);have bh:B5c l old names old.length 0 [] 0=l:=by rw[ao,y,bv]
     rw[bh];(have ab:∀(K:AV->Mem->Prop) (tg:Tag K),(∀v M',A4B M l v M'->K v M')->B8l (WC gl) 59 [.list 1 (A1d l) o1] a0 K tg:=by intro K tg hk;exact A0s func59 (C8i gl a0 l o1 (by omega)) λv M' h=>hk v M' (B9M aa h));by_cases b1:A4m names[i]=[]
     .simp -dsimp -implicitDefEqProofs[a3,b1,k1,k2,k3,k4,k5,k6,k7,k8,k9,n,o,q];refine ab _ _ λv M' h=>?_;simp -dsimp -implicitDefEqProofs[h]
     have aw:¬(A4m names[i]).length=0:=λe=>b1 (Z0z e);(have ch:¬((A4m names[i]).length:Int)=0:=by omega);by_cases b2:old[i].frm<0
     .simp -dsimp -implicitDefEqProofs[a3,b1,b2,k1,k2,k3,k4,k5,k6,k7,k8,k9,n,o,q,A0b a1,A1F.row];refine ab _ _ λv M' h=>?_;simp -dsimp -implicitDefEqProofs[h]
     by_cases b3:old[i].at_<=old[i].frm
     .simp -dsimp -implicitDefEqProofs[a3,b1,b2,b3,k1,k2,k3,k4,k5,k6,k7,k8,k9,n,o,q,A0b a1,A1F.row];refine ab _ _ λv M' h=>?_;simp -dsimp -implicitDefEqProofs[h]
     by_cases b4:old[i].at_>l.length
     .have a8:(l.length:Int)<old[i].at_:=b4;simp -dsimp -implicitDefEqProofs[a3,b1,b2,b3,b4,a8,k1,k2,k3,k4,k5,k6,k7,k8,k9,n,o,q,A0b a1,A1F.row];refine ab _ _ λv M' h=>?_;simp -dsimp -implicitDefEqProofs[h]
     have b5:A5f old i=false/\old[i].frm<e:=by
      rcases hbad with h|h|h|h|h
      .exact absurd h b1
      .exact absurd h b2
      .exact absurd h b3
      .exact absurd h b4
      .exact h
     have a8:¬(l.length:Int)<old[i].at_:=b4;simp -dsimp -implicitDefEqProofs[a3,b1,b2,b3,b4,a8,b5.1,b5.2,k1,k2,k3,k4,k5,k6,k7,k8,k9,n,o,q,A0b a1,A1F.row];refine ab _ _ λv M' h=>?_;simp -dsimp -implicitDefEqProofs[h]
    .have aq:=hbad;simp only[Z3a,not_and]at hbad;obtain⟨b1,b2,b3,b4,b5⟩:=hbad;have aw:¬(A4m names[i]).length=0:=λe=>b1 (Z0z e);have a8:¬(l.length:Int)<old[i].at_:=b4;(have g2:0<=old[i].frm:=by omega);(have g3:old[i].frm<=l.length:=by omega);(have co:old[i].frm.toNat<=l.length:=by omega);obtain⟨mid,a5⟩:∃mid,mid=if A5f old i=true then[C3G]else(l.take old[i].frm.toNat).drop e.toNat:=⟨_,rfl⟩;have bu:B4Y l old names i d e=some (if B2e old i=true then A7y (d++mid++A4m names[i]) (B2E (l.getD (old[i].at_.toNat-1) .empty))else d++mid++A4m names[i],old[i].at_):=by
      (have hm:(if A5f old i=true then d++[C3G]else d++(l.take old[i].frm.toNat).drop e.toNat)=d++mid:=by rw[a5];split<;>rfl);simp only[B4Y,af,bi]
      rw[Z0c aq,hm]
     rw[bu]at y;simp only at y;(have g1:1<=old[i].at_:=by omega);(have g4:0<=old[i].at_:=by omega);(have g7:old[i].at_<=l.length:=by omega);have c3:mid.length<=1000:=by
      rw[a5];split
      .simp
      .simp;omega
     have b7:A5H 9 a0 w ((A4m names[i]).map S):=z.1;have bd:A5H 9 a0 ov (d.map S):=h2.1.keep ((A0d.app none M1 _).trans z.2.1) (by simp);(have cf:M1.length<a0.length:=by have:=z.2.1.1;simp at this;omega);(have ak:obj ov≠some M1.length:=λe=>by have:=h2.1.lt e;omega);(have cm:obj w≠some M1.length:=λe=>by have:=z.2.2 _ e;simp at this;omega);(have bm:∀f,obj w=some f->obj ov≠some f:=λf e1 e2=>by have:=z.2.2 _ e1;have:=h2.1.lt e2;simp at*;omega);have b9:∀f,obj w=some f->f<a0.length:=λf e1=>b7.lt e1;have mk:∀v3 M3,A5H 9 M3 v3 (d.map S++mid.map S)->A0d (obj ov) a0 M3->(obj v3=obj ov\/A1g a0.length v3)->
      A4B M (d++mid) v3 M3/\A5H 9 M3 w ((A4m names[i]).map S)/\M3[M1.length]?=some (A0p.cells 110 old[i].row)/\obj v3≠some M1.length/\(∀f,obj w=some f->obj v3≠some f):=by
      intro v3 M3 q1 q2 q3
      refine⟨?_,b7.keep q2 bm,q2.get a1 ak,?_,?_⟩
      .refine⟨by simpa using q1,⟨by have:=aa.1;have:=q2.1;omega,λj hj _=>?_⟩,λf hf=>?_⟩
       .rw[q2.2 j (by have:=aa.1;omega) λe=>by have:=h2.2.2 _ e;omega];exact aa.2 j hj (by simp)
       .rcases q3 with e|e
        .exact h2.2.2 f (by rw[<-e];exact hf)
        .have:=e f hf;have:=aa.1;omega
      .intro e1;rcases q3 with e|e
       .exact ak (by rw[<-e];exact e1)
       .have:=e _ e1;omega
      .intro f e1 e2;rcases q3 with e|e
       .exact bm f e1 (by rw[<-e];exact e2)
       .have:=e _ e2;have:=b9 f e1;omega
     cases hA:A5f old i;case' false=>
      (have g5:e<=old[i].frm:=by have:=b5 hA;omega);have cn:0<=e/\e<=old[i].frm/\old[i].frm<=l.length:=⟨h7,g5,g3⟩
      (have g6:¬old[i].frm<e:=by omega);have hm:mid=(l.take old[i].frm.toNat).drop e.toNat:=by rw[a5,hA];rfl
      rw[hA]at k9;simp -dsimp -implicitDefEqProofs[a3,b1,aw,b2,b3,b4,a8,g6,k1,k2,k3,k4,k5,k6,k7,k8,k9,n,o,q,A0b a1,A1F.row,h7,g5,g3];(have av:List.drop e.toNat (List.take old[i].frm.toNat (A1d l))=A1d mid:=by rw[C8F,B9k,hm]);rw[av];refine push (C:=WC gl) (e:=9) A8Q B1E B9w bd (news:=mid.map S) (m:=mid.length) (E1r _ _ _) (by simp) (by simp;omega) rfl ?_;intro v3 M3 q1 q2 q3 _;obtain⟨ar,bf,b0,be,b6⟩:=mk v3 M3 q1 q2 q3;simp -dsimp -implicitDefEqProofs
     case' true=>
      (have hm:mid=[C3G]:=by rw[a5,hA];rfl);rw[hA]at k9
      simp -dsimp -implicitDefEqProofs[a3,b1,aw,b2,b3,b4,a8,k1,k2,k3,k4,k5,k6,k7,k8,k9,n,o,q,A0b a1,A1F.row,A0n,A0W];refine push (C:=WC gl) (e:=9) A8Q B1E B9w bd (news:=[C3G].map S) (m:=1) rfl rfl (by simp;omega) rfl ?_;rw[<-hm];intro v3 M3 q1 q2 q3 _;obtain⟨ar,bf,b0,be,b6⟩:=mk v3 M3 q1 q2 q3;simp -dsimp -implicitDefEqProofs
     all_goals
      refine C1f hX (A0t gl) (λk=>if k=2 then 2 else if k=4 then 1 else 0) M1.length (by rfl) (by kernel_rfl) ?_
      have ck:=C3o names[i]
      have c0:A0A M3 1 w=some ((A4m names[i]).map S,(A4m names[i]).length):=by rw[bf.src];simp
      simp -dsimp -implicitDefEqProofs[k1,k2,k3,k4,k5,k6,k7,k8,k9,n,o,q]
      refine push (C:=WC gl) (e:=9) A8Q B1E B9w ar.1 (news:=(A4m names[i]).map S) (m:=(A4m names[i]).length) c0 (by simp) (by simp;omega) rfl ?_
      intro v4 M4 r1 r2 r3 _
      have u:=B0S (X:=[]) ar r1 (by simpa using r2) (by simpa using r3)
      have a9:=r2.get b0 be
      refine⟨by rw[a9,b0],?_⟩
      simp -dsimp -implicitDefEqProofs[A0b a9,A1F.row,k1,k2,k3,k4,k5,k6,k7,k8,k9,n,o,q]
      refine D5S (λT M=>M=M4/\T 0=.list 1 (A1d l) o1/\T 1=.list 5 (A5p old) o2/\T 2=.list 1 (A7s names) o3/\T 7=v4/\T 8=I old[i].at_/\T 10=.ptr M1.length 0/\T 108=B (B2e old i)/\T 21=.list 5 (A5p old) o2/\T 22=I old.length/\T 23=I i) ?_ ?_
      .refine A0X hX (A0t gl) (λk=>if k=11 then 1 else 0) (λ_=>M1.length) (by rfl) (by kernel_rfl) ?_;by_cases il:i+1=old.length
       ·(have ah:((i+1:Nat):Int)=old.length:=by omega);have ay:B2e old i=true:=by simp[B2e,il]
        simp -dsimp -implicitDefEqProofs[k1,k2,k3,k4,k5,k6,k7,k8,k9,n,o,q,hw,ah,ay]
       ·(have ah:¬((i+1:Nat):Int)=old.length:=by omega);have bk:i+1<old.length:=by omega
        (have c6:((i+1:Nat):Int)<old.length:=by omega);have ce:(0:Int)<=((i+1:Nat):Int):=by omega
        (have cb:((i+1:Nat):Int).toNat=i+1:=by omega);have ay:B2e old i=!C7H old[i+1] old[i]:=by simp[B2e,il,af,Z0m bk]
        rw[ay];generalize hj:((i+1:Nat):Int)=j at*;simp -dsimp -implicitDefEqProofs[k1,k2,k3,k4,k5,k6,k7,k8,k9,n,o,q,hw,ah,bk,c6,ce,cb,A0b a9,A1F.row];refine A7x (r:=B (C7H old[i+1] old[i])) (λM=>A0V func61 rfl rfl (D0B gl M old[i+1] old[i])) ?_;simp -dsimp -implicitDefEqProofs[k1,k2,k3,k4,k5,k6,k7,k8,k9,n,o,q,ah]
      .rintro T3 g ⟨rfl,j1,j2,j3,j4,j5,j6,j7,j8,j9,j10⟩;have x:=ao.trans y;(have bt:(d++mid++A4m names[i]).length<=(i+1)*1200:=by simp;omega);cases hE:B2e old i
       .rw[hE]at j7 x;simp -dsimp -implicitDefEqProofs[j1,j2,j3,j4,j5,j6,j7,j8,j9,j10,hw,a4,A0b a9];exact⟨⟨i+1,by clear hw;omega,_,u,g4,g7,by simp,bt,by simpa using x⟩,by clear hw;omega⟩
       .rw[hE]at j7 x;simp only[Z0M]at x;have bn:((d++mid++A4m names[i]).getD ((d++mid++A4m names[i]).length-1) .empty).size<=16:=B7e _ (C7R b1);(have ci:0<(d++mid++A4m names[i]).length:=by simp;omega);generalize d++mid++A4m names[i]=c at*;(have an:A2v prog 37 v4=some c.length:=by rw[u.1.len (e:=9) (by simp)];simp);have au:M1.length<g.length:=(Z0a.1 a9).1;have ba:∀f,obj v4=some f->f<g.length:=λf hf=>u.1.lt hf;(have cg:c.length<=100000000:=by omega);(have ai:IntKind.i64.wrap ((c.length:Int)-1)=(c.length-1:Nat):=by rw[A0J (by omega) (by omega)];omega);have c5:=E0r g;have aj:A1c g.length g (g++[A0p.cells 116 [AV.val (Value.pointer none),AV.val (Value.slice none 0 0)]]):=⟨by simp,λj hj=>Z0h hj⟩;(have bb:c.length-1<c.length:=by omega);obtain⟨sp,s1,s2,-⟩:=(u.1.keepLow aj ba).spot (t:=9) E4C sz9 (i:=c.length-1) (by simp;omega);(have ax:c.getD (c.length-1) .empty=c[c.length-1]:=by simp[bb]);simp only[Z1R,<-ax]at s2;generalize c7:c.getD (c.length-1) .empty=a6 at*;simp -dsimp -implicitDefEqProofs[j1,j2,j3,j4,j5,j6,j7,j8,j9,j10,hw,A0l,an,ai,s1,s2];refine A0s func62 (C7D gl _ g.length g.length .empty a6 c5 (by simp;omega) (by simp)) ?_;rintro r6 M6 ⟨bz,bw⟩;have ac:=aj.trans bw;have br:=ac.get au a9;(have g8:old[i].at_.toNat-1<l.length:=by omega);(have g9:old[i].at_-1<l.length:=by omega);have cd:IntKind.i64.wrap (old[i].at_-1)=old[i].at_-1:=A0J (by omega) (by omega);(have bs:l.getD (old[i].at_.toNat-1) .empty=l[old[i].at_.toNat-1]:=by simp[g8]);simp -dsimp -implicitDefEqProofs[j1,j2,j3,j4,j5,j6,j7,j8,j9,j10,A0b br,A1F.row,cd,g1,g9,g8];refine A0s func63 (D7P gl M6 l[old[i].at_.toNat-1] (c9 _ (Z0q g8))) ?_;rintro r7 cj ⟨rfl,rfl⟩;rw[bs]at x;have cq:=B4x l[old[i].at_.toNat-1];generalize B2E l[old[i].at_.toNat-1]=ae at*;simp -dsimp -implicitDefEqProofs;refine A0s func62 (C7D gl _ g.length g.length (.empty++a6) ae bz (by simp;omega) ac.1) ?_;rintro r7 M7 ⟨cc,bq⟩;have am:=ac.trans bq;simp -dsimp -implicitDefEqProofs[j1,j2,j3,j4,j5,j6,j7,j8,j9,j10,an,ai];refine A0s func64 (D2a gl _ g.length g.length (.empty++a6++ae) cc (by simp;omega) am.1) ?_;rintro r8 M8 ⟨rfl,c4⟩;have a7:=am.trans c4;obtain⟨cr,t1,-,t3⟩:=(u.1.keepLow a7 ba).spot (t:=9) E4C sz9 (i:=c.length-1) (by simp;omega);obtain⟨M9,t4,t5,t6⟩:=t3 (S (a6++ae)) rfl rfl;have bo:A4B M (A7y c ae) v4 M9:=by
         refine⟨by rw[C4t,c7];simpa using t5,⟨?_,λj hj _=>?_⟩,u.2.2⟩
         .have:=u.2.1.1;have:=a7.1;have:=t6.1;omega
         .have:=u.2.1.1;rw[t6.2 j (by have:=a7.1;omega) λe=>by have:=u.2.2 _ e;omega,a7.2 j (by omega)];exact u.2.1.2 j hj (by simp)
        (have b8:(A7y c ae).length<=(i+1)*1200:=by simp[A7y];omega);simp -dsimp -implicitDefEqProofs[t1,t4,j1,j2,j3,j4,j5,j6,j7,j8,j9,j10,hw,a4]
        exact⟨⟨i+1,by clear hw;omega,_,bo,g4,g7,by simp,b8,by simpa using x⟩,by clear hw;omega⟩
  ·(have ap:¬(i:Int)<old.length:=by omega);rw[ao,show old.length-i=0 by omega]
   simp -dsimp -implicitDefEqProofs[h3,h6,ad,a4,ap,ag,h7,h8];have av:List.drop e.toNat (A1d l)=A1d (l.drop e.toNat):=B9k;rw[av];refine push (C:=WC gl) (e:=9) A8Q B1E B9w h2.1 (news:=(l.drop e.toNat).map S) (m:=(l.drop e.toNat).length) (E1r _ _ _) (by simp) (by simp;omega) rfl ?_;intro v' M' q1 q2 q3 _;have hf:=B0S (X:=[]) h2 q1 (by simpa using q2) (by simpa using q3);simp -dsimp -implicitDefEqProofs[B5c,hf]
end
def hY:A2r:=⟨λ_=>true,λ_=>false,λd=>d==19||d==95||d==102||d==105||d==158⟩
@[simp] def E7q:hY.own=λ_=>false:=rfl
@[simp] def E7G:hY.vec=λd=>d==19||d==95||d==102||d==105||d==158:=rfl
section
variable (gl:Nat->AV) (M:Mem)
end
structure A2m where
 at_:IdD
 n:Int
 to:List IdD
def A2m.row(m:A2m):List AV:=[I m.at_.act,I m.at_.item,I m.at_.n,I m.n,.list 3 (m.to.map IdD.row) .no]
def D1P(s:List A2m)(id:IdD)(n:Int):List IdD:=match s.find? λm=>decide (m.at_=id)&&decide (m.n=n)with
 |some m=>m.to
 |none=>[]
section
variable (F:IdD->Option A0a) (l:List A0C) (s:List A2m)
def A5O:Nat->Int->List A0M
 |0,_=>[A3a]
 |f+1,n=>if n<0 then[A3a]else A5O f (A2t l n)++[⟨A4p F l n,A8V l n.toNat⟩]
def A2F(id:IdD)(n:Int):List (List A0M):=if(D1P s id n).all λy=>(A3e l y).isSome then(D1P s id n).map λy=>A5O F l ((A3e l y).getD 0+1) ((A3e l y).getD 0:Nat)else[]
end
section
variable (cs:List A1F) (nm:Nat->List (List A0M))
def A8e(i:Nat):List A1F:=(List.range i).flatMap λn=>match cs[n]? with
 |some c=>(nm n).map λ_=>c
 |none=>[]
def A9S(i:Nat):List (List A0M):=(List.range i).flatMap nm
def A6l(i:Nat):List A1F:=(List.range i).flatMap λn=>match cs[n]? with
 |some c=>if nm n=[]then[c]else(nm n).map λp=>⟨0,p,⟨#[]⟩,0,0⟩
 |none=>[]
end
def B1J(a b:A1F):Bool:=decide (a.k=b.k)&&decide (a.to=b.to)&&decide (a.path.map (λs=>(s.k,s.lab))=b.path.map (λs=>(s.k,s.lab)))
def B2h(a b:List A1F):Bool:=decide (a.length=b.length)&&(a.zip b).all λx=>B1J x.1 x.2
def A1O(t:ByteArray):A0H:=⟨t,0,0,0⟩
def A5I(a b:Int):Int:=if b=6\/a=0 then b else a
section
variable (F:IdD->Option A0a) (l:List A0C) (s:List A2m)
def A7o(x:A0a):List ByteArray×Bool:=
 let cs:=A3o (A0N x.words) 0
 let nm:=λn:Nat=>A2F F l s x.id n
 let out:=A5u (A0N x.words) (A8e cs nm cs.length) (A9S nm cs.length)
 (out,B2h (A3o out 0) (A6l cs nm cs.length))
def D1f:A0a:=.mk idZ 0 ⟨#[]⟩ [] [] []
def A6k(n:Nat):A0a:=match l[n]? with
 |some x=>(F x.id).getD D1f
 |none=>D1f
def B8P(w:List ByteArray×Bool):Int:=if 256<w.1.length then 6 else if w.2 then 0 else 2
def A2M:Nat->Nat->A0a×List IdD×Int
 |0,_=>(D1f,[],0)
 |f+1,n=>
  let x:=A6k F l n
  let w:=A7o F l s x
  let ks:=(A2T l n l.length).map (A2M f)
  (.mk idZ x.kind (A8V l n) (x.head.map λh=>A1O h.text) (w.1.map A1O) (ks.map (·.1)),x.id::ks.flatMap (·.2.1),ks.foldl (λe k=>A5I e k.2.2) (B8P w))
def B6n:∀f n,(A2M F l s f n).2.1=(A7f (λk=>A2t l k) l.length f n).map λk=>(A6k F l k).id
 |0,n=>rfl
 |f+1,n=>by rw[A2M,A7f,Z0s];simp only;congr 1;rw[List.map_flatMap];have e:A2T l n l.length=chL (λk=>A2t l k) l.length n:=rfl;rw[e,Z2s];congr 1;funext k;exact B6n f k
end
def A4G(number:Int):List (List IdD)->Nat->List (IdD×IdD)
 |[],_=>[]
 |ids::r,j=>(ids.zipIdx.map λx=>(x.1,(⟨number,j,(x.2:Int)+1⟩:IdD)))++A4G number r (j+1)
def C4e{α:Type}:∀(l:List α) (k:Nat),(l.zipIdx k).map Prod.fst=l
 |[],_=>rfl
 |a::l,k=>by rw[List.zipIdx_cons,Z0s,C4e l (k+1)]
def A8p(a:Int):∀ts j,(A4G a ts j).map (·.1)=ts.flatMap id
 |[],j=>rfl
 |ids::r,j=>by
  rw[A4G,Z0Q,A8p a r (j+1),Z0W];congr 1;rw[Z1s];have:((λx:IdD×IdD=>x.1)∘λx:IdD×Nat=>(x.1,(⟨a,(j:Int),(x.2:Int)+1⟩:IdD)))=Prod.fst:=by funext x;rfl
  rw[this];exact C4e ids 0
section
variable {F:IdD->Option A0a} {l:List A0C} {s:List A2m}
def A2Y(l:List A0C):List Nat:=A2T l (-1) l.length
def A2o(F:IdD->Option A0a)(l:List A0C)(s:List A2m):List (A0a×List IdD×Int):=(A2Y l).map (A2M F l s l.length)
def C2w:(A2o F l s).flatMap (·.2.1)=(B0J (λk=>A2t l k) l.length).map λk=>(A6k F l k).id:=by unfold A2o B0J A2Y;rw[Z2s,List.map_flatMap];have e:A2T l (-1) l.length=chL (λk=>A2t l k) l.length (-1):=rfl;rw[e];congr 1;funext k;exact B6n F l s l.length k
def D1N{u}(d:∀j,j<l.length->-1<=A2t l j/\A2t l j<j)(c:∀k,(h:k<l.length)->(A6k F l k).id=l[k].id)(hn:(l.map A0C.id).Nodup)(hu:(A0T u).Nodup)
 (f:∀x∈l,x.id∈(A0T u).tail)(i:l.length=(A0T u).tail.length):
 ((A2o F l s).flatMap (·.2.1)).Nodup/\∀x,x∈(A2o F l s).flatMap (·.2.1)<->x∈(A0T u).tail:=by
 obtain⟨h1,h2⟩:=B7h (par:=λk=>A2t l k) (N:=l.length) (λj hj=>d j hj)
 rw[C2w]
 have hm:∀x,x∈(B0J (λk=>A2t l k) l.length).map (λk=>(A6k F l k).id)<->x∈l.map A0C.id:=by
  intro x;simp only[Z0G];constructor
  .rintro⟨k,hk,rfl⟩;have:=(h2 k).1 hk;exact⟨l[k],Z0q this,(c k this).symm⟩
  .rintro⟨y,hy,rfl⟩;obtain⟨k,hk,rfl⟩:=Z3l hy;exact⟨k,(h2 k).2 hk,c k hk⟩
 refine⟨?_,λx=>?_⟩
 .unfold List.Nodup;rw[Z3x];refine Z2X ?_ h1;intro a b ha hb g e;have ha:=(h2 a).1 ha;have hb:=(h2 b).1 hb;rw[c a ha,c b hb]at e;have hp:=Z1O.1 hn;rcases Nat.lt_or_gt_of_ne g with h|h
  .exact hp a b (by simpa using ha) (by simpa using hb) h (by simpa using e)
  .exact hp b a (by simpa using hb) (by simpa using ha) h (by simpa using e.symm)
 .rw[hm];constructor
  .intro h;obtain⟨y,hy,rfl⟩:=Z0G.1 h;exact f y hy
  .refine D8R hn (λy hy=>?_) (by rw[Z0K];omega) x;obtain⟨z,hz,rfl⟩:=Z0G.1 hy;exact f z hz
end
def D7l(u:A0a):Bool:=if u.kind=0 then decide (u.label.size=0)&&decide (u.head.length=0)&&decide (u.words.length=0)else decide (0<u.kind/\u.kind<=7)&&A0B u.label&&A4h u.head&&A4h u.words
mutual
def E0E(d:Nat):A0a->Bool
 |.mk id k l h w ks=>!decide (8<d)&&!(decide (0<d)&&decide (k=0))&&D7l (.mk id k l h w ks)&&decide (ks.length<=64)&&D6J k d ks []
def D6J(kind:Int)(d:Nat):List A0a->List A0a->Bool
 |[],_=>true
 |k::ks,before=>A1Z kind k.kind&&E0E (d+1) k&&!(before.any λa=>A2W a k)&&D6J kind d ks (before++[k])
end
def B7G(t:ByteArray):ByteArray:=if A0L t 0=124\/A0L t 0=92 then⟨#[92]⟩++t else t
def B1G(s:ByteArray)(ws:List A0H):ByteArray:=ws.foldl (λs w=>s++⟨#[32]⟩++B7G w.text) s
def C5Q(a b c:ByteArray):a++b++c=a++(b++c):=by apply ByteArray.ext;simp[ByteArray.data_append,Array.append_assoc]
def B5d:Nat->ByteArray
 |0=>⟨#[]⟩
 |d+1=>B5d d++⟨#[32,32]⟩
def A9V:List ByteArray:=[⟨#[98,111,111,107]⟩,⟨#[112,97,114,116]⟩,⟨#[115,101,99,116,105,111,110]⟩,⟨#[112,97,114,97,103,114,97,112,104]⟩,⟨#[116,97,98,108,101]⟩,⟨#[114,111,119]⟩,⟨#[99,101,108,108]⟩,⟨#[110,111,116,101]⟩]
def B3q(u:A0a)(d:Nat):ByteArray:=B5d d++A9V.getD u.kind.toNat ⟨#[]⟩
def A9a(u:A0a)(d:Nat):ByteArray:=if u.kind=0 then B3q u d else B3q u d++(⟨#[32]⟩++u.label)
def A7C(u:A0a)(d:Nat):ByteArray:=if u.head.length=0 then A9a u d else B1G (A9a u d++⟨#[58]⟩) u.head
def A6W(u:A0a)(d:Nat):ByteArray:=if u.words.length=0 then A7C u d else B1G (A7C u d++⟨#[32,124]⟩) u.words
mutual
def A6d(d:Nat):A0a->List ByteArray
 |.mk id k l h w ks=>A6W (.mk id k l h w ks) d::A6h (d+1) ks
def A6h(d:Nat):List A0a->List ByteArray
 |[]=>[]
 |k::ks=>A6d d k++A6h d ks
end
def A6M(l:List ByteArray):Nat:=(l.map λs=>s.size+1).foldr (·+·) 0
@[simp] def E0f:A6M []=0:=rfl
@[simp] def B2i(s:ByteArray)(l:List ByteArray):A6M (s::l)=s.size+1+A6M l:=rfl
def C8U(a b:List ByteArray):A6M (a++b)=A6M a+A6M b:=by
 induction a with
 |nil=>simp
 |cons s a ih=>simp[ih];omega
def D6k(t:ByteArray):(B7G t).size<=t.size+1:=by
 have e:(⟨#[92]⟩:ByteArray).size=1:=rfl;unfold B7G;split
 .rw[Z0H,e];omega
 .omega
def B0c:∀(ws:List A0H) (s:ByteArray),(∀w∈ws,w.text.size<=24)->(B1G s ws).size<=s.size+26*ws.length
 |[],s,_=>by simp[B1G]
 |w::ws,s,h=>by have h1:=B0c ws (s++⟨#[32]⟩++B7G w.text) λx hx=>h x (by simp[hx]);have h2:=h w (by simp);have h3:=D6k w.text;have e:B1G s (w::ws)=B1G (s++⟨#[32]⟩++B7G w.text) ws:=rfl;have e2:(⟨#[32]⟩:ByteArray).size=1:=rfl;rw[e];simp only[Z0H,Z0x,e2]at h1|-;omega
def B3O:∀d,(B5d d).size=2*d
 |0=>rfl
 |d+1=>by have e2:(⟨#[32,32]⟩:ByteArray).size=2:=rfl;rw[B5d,Z0H,B3O d,e2];omega
def A3r(l:List ByteArray)(p:ByteArray->Bool)(at_:Nat)(en:Bool):Option ByteArray×Nat×Bool:=
 if en=true then(none,at_,en)else match l[at_]? with
 |none=>(none,at_,en)
 |some s=>if p s=true then(some s,at_+1,false)else if s.size=0 then(none,at_,false)else if A5D (A0L s (s.size-1))=false then(none,at_,false)else if p (s.extract 0 (s.size-1))=true then(some (s.extract 0 (s.size-1)),at_+1,true)else(none,at_,false)
def B3R(p:ByteArray->Bool):Prop:=∀s,p s=true->A4u s=true
def B2p{l}{p:ByteArray->Bool}{a}{en}(h:A1k l a en=[]):A3r l p a en=(none,a,en):=by
 unfold A3r;by_cases c:en=true
 .rw[Z0d c]
 .rw[Z0c c];by_cases e:a<l.length
  ·(have:en=false:=by simpa using c);subst this
   rw[D0C e]at h;exact absurd h (by simp)
  .rw[Z1B (by omega)]
def A9T{l}{p:ByteArray->Bool}(hp:B3R p){a}{en}{t}{r}(h:A1k l a en=t::r):a<l.length/\en=false/\((p t=true/\∃en',A3r l p a en=(some t,a+1,en')/\A1k l (a+1) en'=r)\/(p t=false/\A3r l p a en=(none,a,false))):=by
 have he:en=false:=by
  cases en with
  |false=>rfl
  |true=>rw[C8l (.inl rfl)]at h;exact absurd h (by simp)
 subst he
 have hl:a<l.length:=by refine Z1p λc=>?_;rw[C8l (.inr (by omega))]at h;exact absurd h (by simp)
 refine⟨hl,rfl,?_⟩
 rw[D0C hl]at h
 simp only[Z1c]at h
 obtain⟨h1,h2⟩:=h
 unfold A3r
 simp only[Z0J,Z1o,Z0m hl]
 cases hc:A4u l[a]with
 |true=>
  rw[C9X hc]at h1
  rw[hc]at h2
  subst h1
  by_cases e:p l[a]=true
  .exact .inl ⟨e,false,by rw[Z0d e],h2⟩
  .refine .inr ⟨by simpa using e,?_⟩;rw[Z0c e];by_cases z:l[a].size=0
   .rw[Z0d z]
   .rw[Z0c z];unfold A4u at hc;simp only[z,Z4E,Z1v,Z1T]at hc;rw[Z0d hc]
 |false=>
  obtain⟨b1,b2,b3,b4⟩:=D7x hc
  rw[hc]at h2
  have e:¬p l[a]=true:=λe=>by rw[hp _ e]at hc;exact absurd hc (by simp)
  rw[Z0c e,Z0c (by omega),Z0c (by rw[b3];simp),<-b4,h1]
  by_cases c:p t=true
  .exact .inl ⟨c,true,by rw[Z0d c],h2⟩
  .exact .inr ⟨by simpa using c,by rw[Z0c c]⟩
def D3M(w:ByteArray)(h:A4u w=true):B3R λs=>decide (s=w):=λs hs=>by rw[Z2e hs];exact h
def B7r:B3R A0B:=λs hs=>(C6M hs).1
def C6c:B3R λs=>decide (0<kS s):=λs hs=>(C0X s (C3Q (Z2e hs))).1
def D5X:B3R λs=>decide (0<kP s):=λs hs=>(C0B s (B2S (Z2e hs)).1 (B2S (Z2e hs)).2).1
def A7r(l:List ByteArray)(kd:ByteArray->Int)(a:Nat)(en:Bool):Option A0M×Nat×Bool:=
 match A3r l (λs=>decide (0<kd s)) a en with
 |(none,_,_)=>(none,a,en)
 |(some s,a1,en1)=>match A3r l A0B a1 en1 with
  |(none,_,_)=>(none,a,en)
  |(some t,a2,en2)=>(some ⟨kd s,t⟩,a2,en2)
def C1G{l}{kd:ByteArray->Int}(hk:B3R λs=>decide (0<kd s)){a}{en}:
 (∃s t r,A1k l a en=s::t::r/\0<kd s/\A0B t=true/\∃en',A7r l kd a en=(some ⟨kd s,t⟩,a+2,en')/\A1k l (a+2) en'=r)\/
 ((∀s t r,A1k l a en=s::t::r->¬(0<kd s/\A0B t=true))/\A7r l kd a en=(none,a,en)):=by
 unfold A7r
 cases hs:A1k l a en with
 |nil=>
  right
  rw[B2p hs]
  exact⟨λs t r e=>absurd e (by simp),rfl⟩
 |cons s r1=>
  obtain⟨hl,rfl,h|h⟩:=A9T hk hs
  .obtain⟨c1,c,e1,s1⟩:=h;rw[e1];simp only;cases r1 with
   |nil=>right;rw[B2p s1];exact⟨λs t r e=>absurd e (by simp),rfl⟩
   |cons t r=>
    obtain⟨b,rfl,h|h⟩:=A9T B7r s1
    .obtain⟨c2,en2,e2,s2⟩:=h;rw[e2];exact .inl ⟨s,t,r,rfl,by simpa using c1,c2,en2,rfl,s2⟩
    .rw[h.2];refine .inr ⟨λs' t' r' e=>?_,rfl⟩;simp only[Z1c]at e;obtain⟨rfl,rfl,rfl⟩:=e;rw[h.1];simp
  .rw[h.2];refine .inr ⟨λs' t' r' e=>?_,rfl⟩;simp only[Z1c]at e;obtain⟨rfl,rfl⟩:=e;intro hh;have:=h.1;simp[hh.1]at this
def D5v{n}{s t}{r}(h:0<kS s/\A0B t=true):prs (n+1) (s::t::r)=⟨kS s,t⟩::prs n r:=by rw[prs,Z0d h]
def D4c{n}{w}(h:∀s t r,w=s::t::r->¬(0<kS s/\A0B t=true)):prs n w=[]:=by
 match n,w,h with
 |0,w,_=>cases w<;>simp[prs]
 |n+1,[],_=>simp[prs]
 |n+1,[a],_=>simp[prs]
 |n+1,a::b::r,h=>rw[prs,Z0c (h a b r rfl)]
def A8i{l}{want}(hc:A4u want=true){a}{en}:
 (∃r,A1k l a en=want::r/\∃b,A3r l (λs=>decide (s=want)) a en=(some want,a+1,b)/\A1k l (a+1) b=r)\/
 ((∀r,A1k l a en≠want::r)/\A3r l (λs=>decide (s=want)) a en=(none,a,en)):=by
 cases hs:A1k l a en with
 |nil=>exact .inr ⟨λr e=>absurd e (by simp),B2p hs⟩
 |cons s r=>
  obtain⟨hl,rfl,h|h⟩:=A9T (D3M want hc) hs
  .obtain⟨c,b,e1,e2⟩:=h;have:=Z2e c;subst this;exact .inl ⟨r,rfl,b,e1,e2⟩
  .refine .inr ⟨λr' e=>?_,h.2⟩;simp only[Z1c]at e;have:=h.1;simp[e.1]at this
def D1W{l}{kd:ByteArray->Int}(hk:B3R λs=>decide (0<kd s)){a}{en}:
 (∃s r,A1k l a en=s::r/\0<kd s/\∃b,A3r l (λs=>decide (0<kd s)) a en=(some s,a+1,b)/\A1k l (a+1) b=r)\/
 ((∀s r,A1k l a en=s::r->¬0<kd s)/\A3r l (λs=>decide (0<kd s)) a en=(none,a,en)):=by
 cases hs:A1k l a en with
 |nil=>exact .inr ⟨λs r e=>absurd e (by simp),B2p hs⟩
 |cons s r=>
  obtain⟨hl,rfl,h|h⟩:=A9T hk hs
  .obtain⟨c,b,e1,e2⟩:=h;exact .inl ⟨s,r,rfl,Z2e c,b,e1,e2⟩
  .refine .inr ⟨λs' r' e=>?_,h.2⟩;simp only[Z1c]at e;rw[<-e.1];exact of_decide_eq_false h.1
abbrev A1I(l:List ByteArray)(o:Own)(a:Nat)(en:Bool):List AV:=[.list 1 (A1d l) o,I a,B en]
def Rd(M:Mem)(r:Nat)(l:List ByteArray)(o:Own)(a:Nat)(en:Bool):Prop:=M[r]?=some (.cells 240 (A1I l o a en))
def D8Y(C:Ctx)(g:FuncId)(cs:List AV)(p:ByteArray->Bool):Prop:=∀s M,A4A C g (S s::cs) M (λv M'=>v=B (p s)/\M'=M)
def C3Z(c:Int):(A7p c<0)=(A5D c=false):=by unfold A7p A5D;by_cases h1:c=44<;>by_cases h2:c=59<;>by_cases h3:c=46<;>by_cases h4:c=58<;>by_cases h5:c=41<;>simp[h1,h2,h3,h4,h5]
section
variable (gl:Nat->AV)
def D5A(c:UInt8)(M:Mem):A0c (WC gl) 375 [S A6P,.val (.int .u8 c.toNat)] M (λr m=>r=I (A7p c.toNat)/\m=M):=by refine A0o hB func375 ?_;simp -dsimp -implicitDefEqProofs;refine A0i func271 (C6q gl M c) ?_;simp -dsimp -implicitDefEqProofs
def B5o(l:List ByteArray)(o:Own)(hl:l.length<=1000000000)(q:∀s∈l,s.size<=maxLen)(p:ByteArray->Bool)(r:Nat)(g:FuncId)(cs:List AV)(hf:D8Y (WC gl) g cs p)(a:Nat)(en:Bool)(M:Mem)(hr:Rd M r l o a en):A0c (WC gl) 331 [.ptr r 0,.func (.func g) [] cs] M (λv M'=>v=.tuple [S ((A3r l p a en).1.getD ⟨#[]⟩),B (A3r l p a en).1.isSome]/\M'=M.set r (.cells 240 (A1I l o (A3r l p a en).2.1 (A3r l p a en).2.2))):=by
 have b:M.set r (.cells 240 (A1I l o a en))=M:=by
  apply Z1L;intro i;rw[Z2A];split
  .rename_i e;subst e;split
   .exact hr.symm
   .rename_i h;exact(Z1B (by omega)).symm
  .rfl
 refine A0o hB func331 ?_
 simp -dsimp -implicitDefEqProofs
 refine A0X hB (A0t gl) (λk=>if k=3\/k=8\/k=12 then 1 else 0) (λ_=>r) (by rfl) (by kernel_rfl) ?_
 cases en with
 |true=>simp -dsimp -implicitDefEqProofs[A0b hr,A3r,b]
 |false=>
 by_cases hal:a<l.length
 case neg=>
  have h1:(l.length:Int)<=a:=by omega
  have h2:l[a]?=none:=Z1B (by omega);simp -dsimp -implicitDefEqProofs[A0b hr,h1,A3r,h2,b]
 have h1:¬(l.length:Int)<=a:=by omega
 have n:(a:Int)<l.length:=by omega
 have h2:l[a]?=some l[a]:=Z0m hal
 simp -dsimp -implicitDefEqProofs[A0b hr,h1]
 refine A0X hB (A0t gl) (λk=>if k=3\/k=7 then 1 else 0) (λ_=>r) (by rfl) (by kernel_rfl) ?_
 simp -dsimp -implicitDefEqProofs[A0b hr,n,hal]
 have f:IntKind.i64.wrap ((a:Int)+1)=(a+1:Nat):=by rw[A0J (by omega) (by omega)];omega
 have h:r<M.length:=(Z0a.1 hr).1
 refine A1l (hf _ _) ?_
 rintro _ M1 ⟨rfl,rfl⟩
 have t:l[a].size<=9223372036854775807:=q _ (Z0q hal)
 generalize hs:l[a]=s at*
 by_cases c1:p s=true
 .simp -dsimp -implicitDefEqProofs[c1,A0b hr,A0h hr,A0e,f,A3r,h2];rfl
 have c:p s=false:=by simpa using c1
 by_cases c2:s.size=0
 .have hw:IntKind.i64.wrap (-1)=-1:=by decide
  simp -dsimp -implicitDefEqProofs[c,hw,A3r,h2,c1,c2,b]
 have hw:IntKind.i64.wrap ((s.size:Int)-1)=(s.size-1:Nat):=by rw[A0J (by omega) (by omega)];omega
 have i1:((s.size-1:Nat):Int)<s.size:=by omega
 have i2:s.size-1<s.size:=by omega
 have i0:¬((s.size-1:Nat):Int)<0:=by omega
 have i3:((s.size-1:Nat):Int)<=s.size:=by omega
 simp -dsimp -implicitDefEqProofs[c,hw,i0,i1,i2]
 refine A0i func375 (D5A gl (s.data.getD (s.size-1) 0) M1) ?_
 have d:(A7p (s.data.getD (s.size-1) 0).toNat<0)=(A5D (A0L s (s.size-1))=false):=C3Z _
 generalize A7p (s.data.getD (s.size-1) 0).toNat=k at*
 cases c3:A5D (A0L s (s.size-1))with
 |false=>
  rw[c3]at d
  have k0:k<0:=by rw[d]
  simp -dsimp -implicitDefEqProofs[c,hw,i0,k0,A3r,h2,c1,c2,c3,b]
 |true=>
  rw[c3]at d
  have k0:¬k<0:=by rw[d];simp
  simp -dsimp -implicitDefEqProofs[c,hw,i0,k0,i3]
  refine A1l (hf _ _) ?_
  rintro _ M3 ⟨rfl,rfl⟩
  by_cases c4:p (s.extract 0 (s.size-1))=true
  .have m:r<M3.length:=h;(have j:(M3.set r (A0p.cells 240 [AV.list 1 (A1d l) o,AV.val (.int .i64 (a:Int)),AV.val (.bool true)]))[r]?=some (A0p.cells 240 [AV.list 1 (A1d l) o,AV.val (.int .i64 (a:Int)),AV.val (.bool true)]):=by simp[m]);simp -dsimp -implicitDefEqProofs[c4,A0b hr,A0h hr,A0e,f,i3];simp -dsimp -implicitDefEqProofs[A0b j,A0h j,A0e,f,A3r,h2,c1,c2,c3,c4,Z2z];rfl
  .simp -dsimp -implicitDefEqProofs[c4,A3r,h2,c1,c2,c3,b]
end
section
variable (gl:Nat->AV)
def C9O(a:ByteArray):D8Y (WC gl) 332 [.cptr [S a]] (λs=>decide (s=a)):=λs M=>by
 refine A0V func332 rfl rfl ?_;refine A0o hB func332 ?_;simp -dsimp -implicitDefEqProofs
 done
def D6D(l:List ByteArray)(o:Own)(w:ByteArray)(M:Mem)(hl:l.length<=1000000000):A0c (WC gl) 396 [.list 1 (A1d l) o,S w] M (λv M'=>v=I (C4O l w 0)/\M'=M):=by
 refine A0o hB func396 ?_;simp -dsimp -implicitDefEqProofs;refine A0y hB l.length 8 (λT M1=>∃i:Nat,M1=M/\i<=l.length/\T 0=.list 1 (A1d l) o/\T 1=S w/\T 7=I l.length/\T 8=I i/\C4O l w 0=C4O (l.drop i) w i) ?_ ?_
 .exact⟨0,rfl,by omega,by simp,by simp,by simp,by simp,by simp⟩
 rintro T M1 ⟨i,rfl,h1,t0,t1,t7,t8,h2⟩;by_cases hi:i<l.length
 .have a:(i:Int)<l.length:=by omega
  have hw:IntKind.i64.wrap ((i:Int)+1)=(i+1:Nat):=by rw[A0J (by omega) (by omega)];omega
  rw[Z0i hi,C4O]at h2;by_cases c:l[i]=w
  .rw[Z0d c]at h2;simp -dsimp -implicitDefEqProofs[t0,t1,t7,t8,a,hi,c,h2]
  .rw[Z0c c]at h2;have c':¬w=l[i]:=λe=>c e.symm;simp -dsimp -implicitDefEqProofs[t0,t1,t7,t8,a,hi,c,c',hw];exact⟨⟨i+1,by omega,rfl,h2⟩,by omega⟩
 .have a:¬(i:Int)<l.length:=by omega
  rw[Z0o (by omega),C4O]at h2;simp -dsimp -implicitDefEqProofs[t0,t1,t7,t8,a,h2]
def B8H(M:Mem):A0c (WC gl) 219 [] M (λv M'=>v=.list 1 (A1d A1M) .full/\M'=M):=by refine A0o hB func219 ?_;simp -dsimp -implicitDefEqProofs[A0n,A0W,A1d,A1M]
def D3p(M:Mem):A0c (WC gl) 169 [] M (λv M'=>v=.list 1 (A1d A3O) .full/\M'=M):=by refine A0o hB func169 ?_;simp -dsimp -implicitDefEqProofs[A0n,A0W,A1d,A3O]
end
section
variable (gl:Nat->AV)
def D1p(l:List ByteArray)(o:Own)(w:ByteArray)(M:Mem)(hl:l.length<=1000000000):A0c (WC gl) 377 [.list 1 (A1d l) o,S w] M (λv M'=>v=I (A2P l w)/\M'=M):=by
 refine A0o hB func377 ?_;by_cases c:w=⟨#[]⟩
 .simp -dsimp -implicitDefEqProofs[c,A2P]
 .simp -dsimp -implicitDefEqProofs[c,A2P];refine A0i func396 (D6D gl l o w M hl) ?_;simp -dsimp -implicitDefEqProofs;rw[A2P,Z0c c];split<;>omega
def D0h(l:List ByteArray)(o:Own)(hl:l.length<=1000000000):D8Y (WC gl) 376 [.cptr [.list 1 (A1d l) o]] (λs=>decide (0<A2P l s)):=λs M=>by refine A0V func376 rfl rfl ?_;refine A0o hB func376 ?_;simp -dsimp -implicitDefEqProofs;refine A0i func377 (D1p gl l o s M hl) ?_;simp -dsimp -implicitDefEqProofs
def B3f(l:List ByteArray)(o:Own)(hl:l.length<=1000000000)(c:∀s∈l,s.size<=maxLen)(b:ByteArray)(r:Nat)(a:Nat)(en:Bool)(M:Mem)(hr:Rd M r l o a en):A0c (WC gl) 251 [.ptr r 0,S b] M (λv M'=>v=B (A3r l (λs=>decide (s=b)) a en).1.isSome/\M'=M.set r (.cells 240 (A1I l o (A3r l (λs=>decide (s=b)) a en).2.1 (A3r l (λs=>decide (s=b)) a en).2.2))):=by
 refine A0o hB func251 ?_
 simp -dsimp -implicitDefEqProofs
 refine A0s func331 (B5o gl l o hl c _ r 332 _ (C9O gl b) a en M hr) ?_
 rintro _ M1 ⟨rfl,rfl⟩
 simp -dsimp -implicitDefEqProofs
def C6j(l:List ByteArray)(o:Own)(hl:l.length<=1000000000)(b:∀s∈l,s.size<=maxLen)(ks:List ByteArray)(o2:Own)(hk:ks.length<=100)(r:Nat)(a:Nat)(en:Bool)(M:Mem)(hr:Rd M r l o a en):A0c (WC gl) 333 [.ptr r 0,.list 1 (A1d ks) o2] M (λv M'=>v=.tuple [I (A2P ks ((A3r l (λs=>decide (0<A2P ks s)) a en).1.getD ⟨#[]⟩)),B (A3r l (λs=>decide (0<A2P ks s)) a en).1.isSome]/\M'=M.set r (.cells 240 (A1I l o (A3r l (λs=>decide (0<A2P ks s)) a en).2.1 (A3r l (λs=>decide (0<A2P ks s)) a en).2.2))):=by
 refine A0o hB func333 ?_
 simp -dsimp -implicitDefEqProofs
 refine A0s func331 (B5o gl l o hl b _ r 376 _ (D0h gl ks o2 (by omega)) a en M hr) ?_
 rintro _ M1 ⟨rfl,rfl⟩
 simp -dsimp -implicitDefEqProofs
 refine A0s func377 (D1p gl ks o2 _ _ (by omega)) ?_
 rintro _ M2 ⟨rfl,rfl⟩
 simp -dsimp -implicitDefEqProofs
end
end Go.Abs
