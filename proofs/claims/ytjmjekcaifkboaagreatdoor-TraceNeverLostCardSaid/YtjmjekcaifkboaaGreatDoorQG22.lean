/- The texts AbsY, ShN, ShD, CyQ. -/
import Derived.Test.YtjmjekcaifkboaaGreatDoorQG14
import Derived.OpenShut
import Derived.ChangeArms
set_option linter.all false
namespace Go.Abs
section
inductive Sh where
 |bool
 |int (k:IntKind)
 |str
 |slice (sz:Nat) (e:Sh)
 |parts (l:List Sh)
 |ref (i:Nat)
structure A7C where
 sh:Nat->Sh
 ty:Nat->TypeId
 n:Nat
mutual
def Sh.fits(P:Program)(E:A7C):Sh->TypeId->Bool
 |.bool,t=>match P.underlying t with|some .bool=>true|_=>false
 |.int k,t=>match P.underlying t with|some (.int k')=>decide (k'=k)|_=>false
 |.str,t=>match P.underlying t with|some .string=>true|_=>false
 |.slice sz e,t=>match P.underlying t with|some (.slice et)=>Nat.beq (P.cellsOf et) sz&&Nat.blt 0 sz&&Sh.fits P E e et|_=>false
 |.parts l,t=>match P.underlying t with
  |some (.struct fs)=>Sh.fitsF P E l fs.toList 0 (P.cellsOf t)
  |some (.array n e)=>Nat.beq l.length n&&Nat.beq (P.cellsOf t) (n*P.cellsOf e)&&Sh.fitsA P E l e
  |_=>false
 |.ref i,t=>Nat.beq (E.ty i) t&&Nat.blt i E.n
def Sh.fitsF(P:Program)(E:A7C):List Sh->List Field->Nat->Nat->Bool
 |[],[],off,tot=>Nat.beq off tot
 |s::l,f::fs,off,tot=>Nat.beq f.offset off&&Sh.fits P E s f.type&&Sh.fitsF P E l fs (off+P.cellsOf f.type) tot
 |_,_,_,_=>false
def Sh.fitsA(P:Program)(E:A7C):List Sh->TypeId->Bool
 |[],_=>true
 |s::l,e=>Sh.fits P E s e&&Sh.fitsA P E l e
end
inductive Shaped (E:A7C):Sh->List AV->Prop
 |bool (b:Bool):Shaped E .bool [.val (.bool b)]
 |int (k:IntKind) (n:Int) (h:(Lit.int k n).wf=true):Shaped E (.int k) [.val (.int k n)]
 |str (s:ByteArray) (h:s.size<=maxLen):Shaped E .str [.val (.string s)]
 |slice (sz:Nat) (e:Sh) (rows:List (List AV)) (hl:rows.length<=maxLen) (h:∀r∈rows,Shaped E e r):Shaped E (.slice sz e) [.list sz rows .no]
 |nil:Shaped E (.parts []) []
 |cons (s:Sh) (l:List Sh) (a b:List AV) (h:Shaped E s a) (k:Shaped E (.parts l) b):Shaped E (.parts (s::l)) (a++b)
 |ref (i:Nat) (a:List AV) (h:Shaped E (E.sh i) a):Shaped E (.ref i) a
def A3l{H:Type}(E:A7C):Nat->Sh->DataW H->Option (List AV)
 |0,_,_=>none
 |_+1,.bool,.lit (.bool b)=>some [.val (.bool b)]
 |_+1,.int k,.lit (.int k' n)=>if k'=k then some [.val (.int k n)]else none
 |_+1,.str,.lit (.string s)=>some [.val (.string ⟨s.toArray⟩)]
 |_+1,.slice sz _,.nil=>some [.list sz [] .no]
 |n+1,.slice sz e,.slice els _=>(els.mapM (A3l E n e)).map λrows=>[.list sz rows .no]
 |_+1,.parts [],.agg []=>some []
 |n+1,.parts (s::l),.agg (d::ds)=>match A3l E n s d,A3l E n (.parts l) (.agg ds)with
  |some a,some b=>some (a++b)
  |_,_=>none
 |n+1,.ref i,d=>A3l E n (E.sh i) d
 |_,_,_=>none
def A2w(w:World):A0q:=⟨0,λ_=>0,λb i=>w.cell? ⟨b,i,none⟩,λb=>w.heap[b]?,λ_ _=>(none,0),λ_=>0⟩
structure C9a (E:A7C) {H:Type} (W:World) (sh:Sh) (d:DataW H) (cs:List Value):Prop where
 ex:∃avs,(∃n0,∀n,n0<=n->A3l E n sh d=some avs)/\A0v (A2w W) avs cs/\Shaped E sh avs
 one:∀v∈cs,v.oneCell'=true
def B4B{α β:Type}{f:α->Option β}:∀(l:List α) (r:List β),l.length=r.length->(∀(i:Nat) a b,l[i]?=some a->r[i]?=some b->f a=some b)->l.mapM f=some r
 |[],r,hl,_=>by cases r with|nil=>rfl|cons _ _=>simp at hl
 |a::l,r,hl,h=>by
  cases r with
  |nil=>simp at hl
  |cons b r=>have h0:=h 0 a b rfl rfl;have ih:=B4B l r ZDL (λi a b h1 h2=>h (i+1) a b ZBF ZAU);simp[Z3u,h0,ih]
def D1n{α:Type}(len:Nat)(p:Nat->α->Prop)(h:∀i,i<len->∃c,p i c):∃l:List α,l.length=len/\∀i (hi:i<l.length),p i l[i]:=by refine⟨List.ofFn λi:Fin len=>Classical.choose (h i.1 i.2),Q1,λi hi=>?_⟩;simp only[List.length_ofFn]at hi;rw[List.getElem_ofFn];exact Classical.choose_spec (h i hi)
def C5i{w:World}{a:Addr}{n:Nat}{cs:List Value}(h:w.cells? 0 a n=some cs):cs.length=n/\∀(i:Nat) v,cs[i]?=some v->w.cell? (a.add i)=some v:=by
 unfold World.cells? at h;rw[Z0c (Z3H _)]at h;have hl:cs.length=n:=by have:=mapM_some_length h;simpa using this
 refine⟨hl,λi v hv=>?_⟩;have hi:i<n:=hl▸A0P hv;have:=mapM_some_get h i i (by simp[hi]);rw[this];exact hv
def D7m(len:Nat)(p:Nat->Nat->Prop)(h:∀i,i<len->∃n0,p i n0)(hm:∀i a b,p i a->a<=b->p i b):∃n0,∀i,i<len->p i n0:=by
 induction len with
 |zero=>exact⟨0,λi hi=>by omega⟩
 |succ len ih=>
  obtain⟨a,ha⟩:=ih (λi hi=>h i Q0);obtain⟨b,hb⟩:=h len Q0;refine⟨max a b,λi hi=>?_⟩;by_cases e:i=len
  .subst e;exact hm _ _ _ hb Q0
  .exact hm _ _ _ (ha i Q0) Q0
section
variable {P:Program} {E:A7C} {H:Type} {enc:TypeId×Value->H} {W:World} {spare:Nat->Bool} {held:Bool}
def B1w:∀(l:List Sh) (xs:List (DataW H×List MemPlace)) (c:List (List Value)),l.length=xs.length->xs.length=c.length->
 (∀(i:Nat) s x p,l[i]?=some s->xs[i]?=some x->c[i]?=some p->C9a E W s x.1 p)->C9a E W (.parts l) (.agg (xs.map (·.1))) c.flatten
 |[],xs,c,h1,h2,_=>by have e1:xs=[]:=Z0w (by simpa using h1.symm);subst e1;have e2:c=[]:=Z0w (by simpa using h2.symm);subst e2;exact⟨⟨[],⟨1,λn hn=>by obtain⟨m,rfl⟩:∃m,n=m+1:=⟨n-1,Q0⟩;rfl⟩,ZCT,.nil⟩,Q1⟩
 |s::l,[],c,h1,_,_=>by simp at h1
 |s::l,x::xs,[],_,h2,_=>by simp at h2
 |s::l,x::xs,p::ps,h1,h2,h=>by
  obtain⟨⟨a,⟨n1,g⟩,o,d⟩,e⟩:=h 0 s x p rfl rfl rfl;obtain⟨⟨b,⟨n2,k⟩,f,j⟩,q⟩:=B1w l xs ps ZBF ZAU (λi s x p e1 e2 e3=>h (i+1) s x p (by simpa using e1) (by simpa using e2) (by simpa using e3));refine⟨⟨a++b,⟨max n1 n2+1,λn hn=>?_⟩,by simp only[Z1d];exact o.append f,.cons _ _ _ _ d j⟩,λv hv=>?_⟩
  .obtain⟨m,rfl⟩:∃m,n=m+1:=⟨n-1,Q0⟩;simp only[Z0x,A3l,g m Q0,k m Q0]
  .simp only[Z1d,Z0N]at hv;rcases hv with hv|hv
   .exact e v hv
   .exact q v hv
def B2v(sz:Nat):∀(n:Nat) (cs:List Value),cs.length=n*sz->((List.range n).map λi=>(cs.drop (i*sz)).take sz).flatten=cs
 |0,cs,h=>by have:cs=[]:=Z0w ZAJ;subst this;rfl
 |n+1,cs,h=>by
  rw[List.range_succ_eq_map,Z0x,Z1d,Z4u];have ih:=B2v sz n (cs.drop sz) (by rw[Z0G,h,Z0R];omega);have e:((λi=>(cs.drop (i*sz)).take sz)∘Nat.succ)=λi=>((cs.drop sz).drop (i*sz)).take sz:=by funext i;simp only[Function.comp_apply,Z2b];congr 2;rw[Z3r];omega
  rw[e,ih];simp
def B4q(P:Program):∀(l:List Sh) (fs:List Field) (off a:Nat) (cs:List Value),Sh.fitsF P E l fs off a=true->cs.length=a->off<=a/\l.length=fs.length/\
 (fs.map λf=>(cs.drop f.offset).take (P.cellsOf f.type)).flatten=cs.drop off/\(∀(i:Nat) s f,l[i]?=some s->fs[i]?=some f->Sh.fits P E s f.type=true)
 |[],[],off,a,cs,h,hc=>by simp only[Sh.fitsF]at h;have:=Z2t h;refine⟨Q0,rfl,?_,Q1⟩;simp only[Z1N,List.flatten_nil];rw[Z1u Q0]
 |[],f::fs,off,a,cs,h,hc=>by simp[Sh.fitsF]at h
 |s::l,[],off,a,cs,h,hc=>by simp[Sh.fitsF]at h
 |s::l,f::fs,off,a,cs,h,hc=>by
  simp only[Sh.fitsF,Z0h]at h;obtain⟨⟨h1,h2⟩,h3⟩:=h;have h1:=Z2t h1;obtain⟨i1,i2,i3,i4⟩:=B4q P l fs (off+P.cellsOf f.type) a cs h3 hc;refine⟨Q0,by simp[i2],?_,λi s' f' e1 e2=>?_⟩
  .simp only[Z0x,Z1d,i3,h1];rw[<-Z2b];exact Z1j _ _
  .cases i with
   |zero=>simp only[Z3y,Z0b]at e1 e2;subst e1;subst e2;exact h2
   |succ i=>exact i4 i s' f' (by simpa using e1) (by simpa using e2)
def C5w(P:Program):∀(l:List Sh) (e:TypeId),Sh.fitsA P E l e=true->∀(i:Nat) s,l[i]?=some s->Sh.fits P E s e=true
 |[],_,_,i,s,h=>by simp at h
 |s::l,e,h,i,s',hs=>by
  simp only[Sh.fitsA,Z0h]at h;cases i with
  |zero=>simp at hs;subst hs;exact h.1
  |succ i=>exact C5w P l e h.2 i s' (by simpa using hs)
def A4J(hE:∀i,i<E.n->Sh.fits P E (E.sh i) (E.ty i)=true/\∀j,E.sh i≠.ref j):∀(fuel:Nat) (sh:Sh) (t:TypeId) (cs:List Value) (d:DataW H) (ps:List MemPlace),Sh.fits P E sh t=true->DataW.trod enc P W 0 spare held fuel t cs=some (d,ps)->C9a E W sh d cs:=by
 intro fuel;induction fuel with
 |zero=>intro sh t cs d ps _ h;simp[DataW.trod]at h
 |succ fuel ih=>
  have z:∀(sh:Sh) (t:TypeId) (cs:List Value) (d:DataW H) (ps:List MemPlace),(∀i,sh≠.ref i)->Sh.fits P E sh t=true->DataW.trod enc P W 0 spare held (fuel+1) t cs=some (d,ps)->C9a E W sh d cs:=by
   intro sh t cs d ps ad hf h;cases sh with
   |ref i=>exact absurd rfl (ad i)
   |bool=>simp only[Sh.fits]at hf;split at hf;(case h_2=>simp at hf);rename_i hu;obtain⟨b,rfl,hx⟩:=DataW.trod_bool hu h;simp only[Z0i]at hx;obtain⟨rfl,rfl⟩:=hx;exact⟨⟨_,⟨1,λn hn=>by obtain⟨m,rfl⟩:∃m,n=m+1:=⟨n-1,Q0⟩;rfl⟩,ZBK,.bool b⟩,ZDA⟩
   |int k=>simp only[Sh.fits]at hf;split at hf;(case h_2=>simp at hf);rename_i k' hu;simp only[Z0n]at hf;subst hf;obtain⟨n,rfl,hx,ac⟩:=DataW.trod_int hu h;simp only[Z0i]at hx;obtain⟨rfl,rfl⟩:=hx;exact⟨⟨_,⟨1,λn hn=>by obtain⟨m,rfl⟩:∃m,n=m+1:=⟨n-1,Q0⟩;simp only[A3l,Z1e]⟩,ZBK,.int _ n ac⟩,ZDA⟩
   |str=>simp only[Sh.fits]at hf;split at hf;(case h_2=>simp at hf);rename_i hu;obtain⟨s,rfl,hx,u⟩:=DataW.trod_string hu h;simp only[Z0i]at hx;obtain⟨rfl,rfl⟩:=hx;(have e:(⟨s.data.toList.toArray⟩:ByteArray)=s:=by obtain⟨a⟩:=s;simp);exact⟨⟨[.val (.string s)],⟨1,λn hn=>by obtain⟨m,rfl⟩:∃m,n=m+1:=⟨n-1,Q0⟩;simp only[A3l,e]⟩,ZBK,.str s u⟩,ZDA⟩
   |slice sz e=>
    simp only[Sh.fits]at hf;split at hf;(case h_2=>simp at hf);rename_i et hu;simp only[Z0h]at hf;obtain⟨⟨u,a1⟩,al⟩:=hf;have u:=Z2t u;(have a1:0<sz:=by(have:1<=sz:=by simpa[Nat.blt]using a1);omega);rcases DataW.trod_slice hu h with⟨rfl,hx⟩|⟨a,len,cap,c,an,n,hn,rfl,hx,_,hl,hm,am,a7,-,-⟩
    .simp only[Z0i]at hx;obtain⟨rfl,rfl⟩:=hx;refine⟨⟨_,⟨1,λn hn=>by obtain⟨m,rfl⟩:∃m,n=m+1:=⟨n-1,Q0⟩;rfl⟩,?_,.slice sz e [] Q1 Q1⟩,ZDA⟩;simp only[A0v,Rep];exact⟨_,_,rfl,⟨none,0,rfl,Z0j _,by simp[maxLen],⟨by trivial,by trivial⟩,trivial⟩,rfl⟩
    .simp only[Z0i]at hx;obtain⟨rfl,rfl⟩:=hx;have a0:n=fuel:=Q0;subst a0;have row:∀i,i<len->∃g:List AV,(∃x,c[i]?=some x/\∃n0,∀n,n0<=n->A3l E n e x.1=some g)/\g.length=sz/\Shaped E e g/\A0S (A2w W) g a.block (a.off+i*sz)/\a.spot=none:=by
      intro i hi;have:=a7 i hi;rw[Z0g Q0,Z2j]at this;obtain⟨cs,hc,ht⟩:=this;rw[u]at hc;obtain⟨w,aa⟩:=C5i hc;obtain⟨⟨g,ah,hr,hs⟩,ho⟩:=ih e et cs (c[i]'Q0).1 (c[i]'Q0).2 al ht;(have ag:g.length=sz:=by rw[<-hr.length,w]);have a2:a.spot=none:=by
       have h0:=aa 0 _ (Z0g (by omega:0<cs.length));by_cases hz:i*sz=0
       .rw[hz]at h0;simp only[Addr.add,Z1e]at h0;unfold World.cell? at h0;split at h0
        .split at h0
         .simp at h0
         .rename_i hsp;simpa using hsp
        .simp at h0
       ·-- the first row tells it
        have:=a7 0 Q0;rw[Z0g Q0,Z2j]at this;obtain⟨ae,a6,_⟩:=this;rw[u]at a6;obtain⟨ao,a9⟩:=C5i a6;have h0:=a9 0 _ (Z0g (by omega:0<ae.length));simp only[Z1S,Addr.add,Z1e]at h0;unfold World.cell? at h0;split at h0
        .split at h0
         .simp at h0
         .rename_i hsp;simpa using hsp
        .simp at h0
      refine⟨g,⟨_,Z0g Q0,ah⟩,ag,hs,A0S.mk hr ho (λj v hv=>?_),a2⟩;have:=aa j v hv;(have ea:a=⟨a.block,a.off,none⟩:=by cases a;simp_all);rw[ea,Z1k,Z1k]at this;exact this
     obtain⟨rows,ak,q⟩:=D1n len _ row;have a3:A0F (A2w W) sz rows a.block a.off:=by
      have aj:∀(rs:List (List AV)) (o:Nat),(∀i (hi:i<rs.length),rs[i].length=sz/\A0S (A2w W) rs[i] a.block (o+i*sz))->A0F (A2w W) sz rs a.block o:=by
       intro rs;induction rs with
       |nil=>intro o _;simp[A0F]
       |cons r rs ih2=>intro o hh;simp only[A0F];have h0:=hh 0 Q1;refine⟨by simpa using h0,ih2 (o+sz) (λi hi=>?_)⟩;have:=hh (i+1) ZAS;simp only[Z1P]at this;rw[show o+sz+i*sz=o+(i+1)*sz from by rw[Z0R];omega];exact this
      exact aj rows a.off (λi hi=>⟨(q i hi).2.1,(q i hi).2.2.2.1⟩)
     obtain⟨n0,a5⟩:=D7m len (λi n0=>∀n,n0<=n->∀x r,c[i]?=some x->rows[i]?=some r->A3l E n e x.1=some r) (λi hi=>by obtain⟨x,hx,n0,af⟩:=(q i Q0).1;refine⟨n0,λn hn x' r e1 e2=>?_⟩;rw[hx]at e1;rw[Z0g (by omega:i<rows.length)]at e2;simp only[Z0b]at e1 e2;subst e1;subst e2;exact af n hn) (λi a b h1 h2 n hn=>h1 n Q0);refine⟨⟨[.list sz rows .no],⟨n0+1,λn hn=>?_⟩,?_,.slice sz e rows Q0 (λr hr=>?_)⟩,ZDA⟩
     .obtain⟨m,rfl⟩:∃m,n=m+1:=⟨n-1,Q0⟩;simp only[A3l];rw[B4B (f:=A3l E m e) (c.map (·.1)) rows ZAB (λi a b e1 e2=>by simp only[Z1i,Z0l]at e1;obtain⟨x,hx,rfl⟩:=e1;exact a5 i (by have:=A0P hx;omega) m Q0 x b hx e2)];rfl
     .simp only[A0v,Rep];refine⟨_,_,rfl,⟨some a,cap,by rw[ak],Q0,hm,⟨λab=>?_,a3⟩,trivial⟩,rfl⟩;have:0<rows.length:=Z1K.2 ab;exact(q 0 this).2.2.2.2
     .obtain⟨j,hj,rfl⟩:=Z2z.1 hr;exact(q j hj).2.2.1
   |parts l=>
    simp only[Sh.fits]at hf;split at hf
    .rename_i fs hu;obtain⟨xs,n,hn,hx,w,y,a4⟩:=DataW.trod_struct hu h;simp only[Z0i]at hx;obtain⟨rfl,rfl⟩:=hx;have a0:n=fuel:=Q0;subst a0;obtain⟨_,i2,i3,i4⟩:=B4q P l fs.toList 0 _ cs hf w;rw[Z1z]at i3;rw[<-i3];refine B1w l xs _ (by rw[i2,y];simp) (by rw[y];simp) (λi s x p e1 e2 e3=>?_);simp only[Z1i,Z0l]at e3;obtain⟨f,a8,rfl⟩:=e3;have:=a4 i f (by simpa using a8);rw[e2]at this;exact ih s f.type _ x.1 x.2 (i4 i s f e1 a8) this
    .rename_i m e hu;simp only[Z0h]at hf;obtain⟨⟨h1,h2⟩,h3⟩:=hf;have h1:=Z2t h1;have h2:=Z2t h2;obtain⟨xs,n,hn,hx,w,y,a4⟩:=DataW.trod_array hu h;simp only[Z0i]at hx;obtain⟨rfl,rfl⟩:=hx;have a0:n=fuel:=Q0;subst a0;rw[h2]at w;rw[<-B2v (P.cellsOf e) m cs w];refine B1w l xs _ Q0 (by simp[y]) (λi s x p e1 e2 e3=>?_);simp only[Z1i,Z0l]at e3;obtain⟨j,hj,rfl⟩:=e3;(have hi:i<m:=by rw[<-y];exact A0P e2);(have ai:j=i:=by rw[List.getElem?_range hi]at hj;simpa using hj.symm);subst ai;have:=a4 j hi;rw[e2]at this;exact ih s e _ x.1 x.2 (C5w P l e h3 j s e1) this
    .simp at hf
  intro sh t cs d ps hf h;cases sh with
  |ref i=>simp only[Sh.fits,Z0h]at hf;obtain⟨h1,h2⟩:=hf;have h1:=Z2t h1;subst h1;(have h2:i<E.n:=by(have:i+1<=E.n:=by simpa[Nat.blt]using h2);omega);obtain⟨⟨g,⟨n0,a5⟩,hr,hs⟩,ho⟩:=z (E.sh i) (E.ty i) cs d ps (hE i h2).2 (hE i h2).1 h;refine⟨⟨g,⟨n0+1,λn hn=>?_⟩,hr,.ref i g hs⟩,ho⟩;obtain⟨m,rfl⟩:∃m,n=m+1:=⟨n-1,Q0⟩;simp only[A3l];exact a5 m Q0
  |_=>exact z _ t cs d ps (λi e=>by simp at e) hf h
end
end
def A0Z(E:A7C):Nat->Sh->List AV->Prop
 |_,.bool,r=>∃b,r=[.val (.bool b)]
 |_,.int k,r=>∃n,r=[.val (.int k n)]/\(Lit.int k n).wf=true
 |_,.str,r=>∃s:ByteArray,r=[.val (.string s)]/\s.size<=maxLen
 |n,.slice sz e,r=>∃rows,r=[.list sz rows .no]/\rows.length<=maxLen/\∀x∈rows,A0Z E n e x
 |_,.parts [],r=>r=[]
 |n,.parts (s::l),r=>∃a b,r=a++b/\A0Z E n s a/\A0Z E n (.parts l) b
 |0,.ref _,_=>False
 |n+1,.ref i,r=>A0Z E n (E.sh i) r
termination_by n s=>(n,SizeOf.sizeOf s)
section
variable {E:A7C} {n:Nat}
def B8K{r}:A0Z E n .bool r<->∃b,r=[.val (.bool b)]:=ZCZ
def B6Z{k}{r}:A0Z E n (.int k) r<->∃i,r=[.val (.int k i)]/\(Lit.int k i).wf=true:=ZCZ
def B6N{r}:A0Z E n .str r<->∃s:ByteArray,r=[.val (.string s)]/\s.size<=maxLen:=ZCZ
def B2a{sz}{e}{r}:A0Z E n (.slice sz e) r<->∃rows,r=[.list sz rows .no]/\rows.length<=maxLen/\∀x∈rows,A0Z E n e x:=ZCZ
def B6U{r}:A0Z E n (.parts []) r<->r=[]:=ZCZ
def B3P{s}{l}{r}:A0Z E n (.parts (s::l)) r<->∃a b,r=a++b/\A0Z E n s a/\A0Z E n (.parts l) b:=ZCZ
def B3G{i}{r}:A0Z E (n+1) (.ref i) r<->A0Z E n (E.sh i) r:=by rw[A0Z]
end
def A0Z.mono{E}:∀(n:Nat) (s:Sh) (r:List AV) (m:Nat),n<=m->A0Z E n s r->A0Z E m s r
 |n,.bool,r,m,h,k=>B8K.2 (B8K.1 k)
 |n,.int _,r,m,h,k=>B6Z.2 (B6Z.1 k)
 |n,.str,r,m,h,k=>B6N.2 (B6N.1 k)
 |n,.slice sz e,r,m,h,k=>by obtain⟨rows,h1,h2,h3⟩:=B2a.1 k;exact B2a.2 ⟨rows,h1,h2,λx hx=>A0Z.mono n e x m h (h3 x hx)⟩
 |n,.parts [],r,m,h,k=>B6U.2 (B6U.1 k)
 |n,.parts (s::l),r,m,h,k=>by obtain⟨a,b,h1,h2,h3⟩:=B3P.1 k;exact B3P.2 ⟨a,b,h1,A0Z.mono n s a m h h2,A0Z.mono n (.parts l) b m h h3⟩
 |0,.ref i,r,m,h,k=>by simp[A0Z]at k
 |n+1,.ref i,r,m,h,k=>by obtain⟨m,rfl⟩:∃m',m=m'+1:=⟨m-1,Q0⟩;exact B3G.2 (A0Z.mono n (E.sh i) r m Q0 (B3G.1 k))
termination_by n s=>(n,SizeOf.sizeOf s)
def C0H{α:Type}{p:Nat->α->Prop}(hm:∀n m x,n<=m->p n x->p m x):∀l:List α,(∀x∈l,∃n,p n x)->∃n,∀x∈l,p n x
 |[],_=>⟨0,λx h=>by simp at h⟩
 |x::l,h=>by
  obtain⟨n,hn⟩:=h x Q1;obtain⟨m,a⟩:=C0H hm l λy hy=>h y (by simp[hy]);exact⟨max n m,λy hy=>by
   rcases Z0p.1 hy with rfl|hy
   .exact hm _ _ _ (Nat.le_max_left ..) hn
   .exact hm _ _ _ (Nat.le_max_right ..) (a y hy)⟩
def A4t{E}{s}{r}(h:Shaped E s r):∃n,A0Z E n s r:=by
 induction h with
 |bool b=>exact⟨0,B8K.2 ⟨b,rfl⟩⟩
 |int k n h=>exact⟨0,B6Z.2 ⟨n,rfl,h⟩⟩
 |str s h=>exact⟨0,B6N.2 ⟨s,rfl,h⟩⟩
 |slice sz e rows hl h ih=>obtain⟨n,hn⟩:=C0H (λn m x=>A0Z.mono n e x m) rows ih;exact⟨n,B2a.2 ⟨rows,rfl,hl,hn⟩⟩
 |nil=>exact⟨0,B6U.2 rfl⟩
 |cons s l a b h k ih1 ih2=>obtain⟨n,hn⟩:=ih1;obtain⟨m,hm⟩:=ih2;exact⟨max n m,B3P.2 ⟨a,b,rfl,A0Z.mono _ _ _ _ (Nat.le_max_left ..) hn,A0Z.mono _ _ _ _ (Nat.le_max_right ..) hm⟩⟩
 |ref i a h ih=>obtain⟨n,hn⟩:=ih;exact⟨n+1,B3G.2 hn⟩
def C9E{α:Type}{f:α->List AV}{Q:α->Prop}{p:List AV->Prop}(key:∀r,p r->∃x,r=f x/\Q x):∀rows:List (List AV),(∀r∈rows,p r)->∃l:List α,rows=l.map f/\∀x∈l,Q x
 |[],_=>⟨[],rfl,λ_ h=>by simp at h⟩
 |r::rows,h=>by obtain⟨x,rfl,hx⟩:=key r (h r Q1);obtain⟨l,rfl,hl⟩:=C9E key rows λr hr=>h r (by simp[hr]);exact⟨x::l,rfl,λy hy=>(Z0p.1 hy).elim (λe=>e▸hx) (hl y)⟩
abbrev I(n:Int):AV:=.val (.int .i64 n)
abbrev B(b:Bool):AV:=.val (.bool b)
abbrev S(s:ByteArray):AV:=.val (.string s)
def inI(n:Int):Prop:=-9223372036854775808<=n/\n<=9223372036854775807
structure A0z where
 text:ByteArray
 act:Int
 item:Int
 at_:Int
def A0z.row(w:A0z):List AV:=[S w.text,I w.act,I w.item,I w.at_]
def A0z.good(w:A0z):Prop:=w.text.size<=maxLen/\inI w.act/\inI w.item/\inI w.at_
def A0i(l:List A0z):List (List AV):=l.map A0z.row
@[simp] def D0T(l:List A0z):(A0i l).length=l.length:=by simp[A0i]
@[simp] def E0B{p}{i}(h:i<(A0i p).length):(A0i p)[i]=(p[i]'ZAJ).row:=by simp[A0i]
structure IdD where
 act:Int
 item:Int
 n:Int
deriving DecidableEq
def IdD.row(x:IdD):List AV:=[I x.act,I x.item,I x.n]
def IdD.good(x:IdD):Prop:=inI x.act/\inI x.item/\inI x.n
inductive A0a where
 |mk (id:IdD) (kind:Int) (label:ByteArray) (head words:List A0z) (kids:List A0a)
def A0a.id:A0a->IdD|.mk i ..=>i
def A0a.kind:A0a->Int|.mk _ k ..=>k
def A0a.label:A0a->ByteArray|.mk _ _ l ..=>l
def A0a.head:A0a->List A0z|.mk _ _ _ h ..=>h
def A0a.words:A0a->List A0z|.mk _ _ _ _ w _=>w
def A0a.kids:A0a->List A0a|.mk _ _ _ _ _ k=>k
mutual
def A0a.row:A0a->List AV
 |.mk id kind label head words kids=>[I id.act,I id.item,I id.n,I kind,S label,.list 4 (A0i head) .no,.list 4 (A0i words) .no,.list 8 (A0t kids) .no]
def A0t:List A0a->List (List AV)
 |[]=>[]
 |u::l=>u.row::A0t l
end
def A3h:∀l:List A0a,A0t l=l.map A0a.row
 |[]=>by simp[A0t]
 |u::l=>by simp[A0t,A3h l]
@[simp] def A9Q(l:List A0a):(A0t l).length=l.length:=by simp[A3h]
@[simp] def E0a{p}{i}(h:i<(A0t p).length):(A0t p)[i]=(p[i]'ZAJ).row:=by simp[A3h]
def A0a.row_eq(u:A0a):u.row=[I u.id.act,I u.id.item,I u.id.n,I u.kind,S u.label,.list 4 (A0i u.head) .no,.list 4 (A0i u.words) .no,.list 8 (A0t u.kids) .no]:=by obtain⟨id,k,l,h,w,ks⟩:=u;rw[A0a.row];rfl
@[simp] def A0a.row_len(u:A0a):u.row.length=8:=by rw[A0a.row_eq];rfl
@[simp] def A0a.row_take(u:A0a):List.take 8 u.row=u.row:=Z0e Q1
mutual
def A0a.good:A0a->Prop
 |.mk id kind label head words kids=>id.good/\inI kind/\label.size<=maxLen/\head.length<=maxLen/\(∀w∈head,w.good)/\words.length<=maxLen/\(∀w∈words,w.good)/\kids.length<=maxLen/\B2A kids
def B2A:List A0a->Prop
 |[]=>True
 |u::l=>u.good/\B2A l
end
def B5D:∀{l:List A0a},B2A l<->∀u∈l,u.good
 |[]=>by simp[B2A]
 |u::l=>by simp[B2A,B5D (l:=l)]
def A0a.good_iff(u:A0a):u.good<->u.id.good/\inI u.kind/\u.label.size<=maxLen/\u.head.length<=maxLen/\(∀w∈u.head,w.good)/\u.words.length<=maxLen/\(∀w∈u.words,w.good)/\u.kids.length<=maxLen/\∀k∈u.kids,k.good:=by obtain⟨id,k,l,h,w,ks⟩:=u;rw[A0a.good,B5D];rfl
def A0a.kid_lt{u k:A0a}(h:k∈u.kids):SizeOf.sizeOf k<SizeOf.sizeOf u:=by obtain⟨id,a,l,hd,w,ks⟩:=u;have:=Z4N (show k∈ks from h);simp only[A0a.mk.sizeOf_spec];omega
def A4W:Sh:=.int .i64
def D1A:Sh:=.parts [A4W,A4W,A4W]
def C7t:Sh:=.parts [.str,D1A]
def B0D:Sh:=.parts [D1A,A4W,.str,.slice 4 C7t,.slice 4 C7t,.slice 8 (.ref 0)]
section
variable {E:A7C} {n:Nat} {r:List AV}
def A4z(h:A0Z E n A4W r):∃i,r=[I i]/\inI i:=by obtain⟨i,rfl,hw⟩:=B6Z.1 h;refine⟨i,rfl,?_⟩;have a:(decide (IntKind.i64.min<=i)&&decide (i<=IntKind.i64.max))=true:=hw;simp only[Z0h,Z0n]at a;exact a
def A7E(h:A0Z E n .str r):∃s,r=[S s]/\s.size<=maxLen:=B6N.1 h
def A1B{s}{l}(h:A0Z E n (.parts (s::l)) r):∃a b,r=a++b/\A0Z E n s a/\A0Z E n (.parts l) b:=B3P.1 h
def B1D(h:A0Z E n (.parts []) r):r=[]:=B6U.1 h
def C8J(h:A0Z E n D1A r):∃x:IdD,r=x.row/\x.good:=by obtain⟨a,b,rfl,h1,h2⟩:=A1B h;obtain⟨c,d,rfl,h3,h4⟩:=A1B h2;obtain⟨e,f,rfl,h5,h6⟩:=A1B h4;obtain rfl:=B1D h6;obtain⟨x,rfl,hx⟩:=A4z h1;obtain⟨y,rfl,hy⟩:=A4z h3;obtain⟨z,rfl,hz⟩:=A4z h5;exact⟨⟨x,y,z⟩,rfl,hx,hy,hz⟩
def C9c(h:A0Z E n C7t r):∃w:A0z,r=w.row/\w.good:=by obtain⟨a,b,rfl,h1,h2⟩:=A1B h;obtain⟨c,d,rfl,h3,h4⟩:=A1B h2;obtain rfl:=B1D h4;obtain⟨s,rfl,hs⟩:=A7E h1;obtain⟨x,rfl,hx⟩:=C8J h3;exact⟨⟨s,x.act,x.item,x.n⟩,rfl,hs,hx⟩
def A6s{α:Type}{f:α->List AV}{Q:α->Prop}{sz}{e}(key:∀r,A0Z E n e r->∃x,r=f x/\Q x)(h:A0Z E n (.slice sz e) r):∃l:List α,r=[.list sz (l.map f) .no]/\l.length<=maxLen/\∀x∈l,Q x:=by obtain⟨rows,rfl,hn,hr⟩:=B2a.1 h;obtain⟨l,rfl,hl⟩:=C9E key rows hr;exact⟨l,rfl,by simpa using hn,hl⟩
def C9r(hE:E.sh 0=B0D):∀(n:Nat) (r:List AV),A0Z E n (.ref 0) r->∃u:A0a,r=u.row/\u.good
 |0,r,h=>by rw[A0Z]at h;exact h.elim
 |n+1,r,h=>by
  have h:=B3G.1 h;rw[hE]at h;obtain⟨a,b,rfl,h1,h2⟩:=A1B h;obtain⟨a3,b3,rfl,h3,h4⟩:=A1B h2;obtain⟨a5,b5,rfl,h5,h6⟩:=A1B h4;obtain⟨a7,b7,rfl,h7,h8⟩:=A1B h6;obtain⟨a9,b9,rfl,h9,f⟩:=A1B h8;obtain⟨q,p,rfl,m,g⟩:=A1B f;obtain rfl:=B1D g;obtain⟨x,rfl,hx⟩:=C8J h1;obtain⟨k,rfl,hk⟩:=A4z h3;obtain⟨l,rfl,hl⟩:=A7E h5;obtain⟨hd,rfl,i,j⟩:=A6s (λr=>C9c) h7;obtain⟨ws,rfl,o,e⟩:=A6s (λr=>C9c) h9;obtain⟨ks,rfl,d,c⟩:=A6s (λr=>C9r hE n r) m;refine⟨.mk x k l hd ws ks,?_,?_⟩
  .rw[A0a.row,A3h];rfl
  .rw[A0a.good,B5D];exact⟨hx,hk,hl,i,j,o,e,d,c⟩
end
set_option maxRecDepth 100000
def C1j{α β:Type}{f g:α->Option β}(h:∀a b,f a=some b->g a=some b):∀{l:List α} {r:List β},l.mapM f=some r->l.mapM g=some r
 |[],r,hr=>by simpa using hr
 |a::l,r,hr=>by simp only[Z3u,Option.bind_eq_bind,Z2j]at hr|-;obtain⟨b,hb,r',c,e⟩:=hr;exact⟨b,h a b hb,r',C1j h c,e⟩
def A8i{H:Type}{E:A7C}:∀(n:Nat) (sh:Sh) (d:DataW H) (a:List AV),A3l E n sh d=some a->A3l E (n+1) sh d=some a
 |0,sh,d,a,h=>by simp[A3l]at h
 |n+1,sh,d,a,h=>by
  unfold A3l at h;split at h<;>try (first|(simp at h;done)|skip)
  all_goals first
   |(obtain rfl:n=_:=Nat.succ.inj ‹n+1=Nat.succ _›)
   |skip
  case h_2=>simpa[A3l]using h
  case h_3=>rw[A3l];exact h
  case h_4=>simpa[A3l]using h
  case h_5=>simpa[A3l]using h
  case h_6=>simp only[Z0l]at h;obtain⟨rows,hr,rfl⟩:=h;rw[A3l];rw[C1j (λd a=>A8i _ _ d a) hr];rfl
  case h_7=>simpa[A3l]using h
  case h_8=>split at h;(case h_2=>simp at h);rename_i a1 b1 h1 h2;rw[A3l,A8i _ _ _ _ h1,A8i _ _ _ _ h2];exact h
  case h_9=>rw[A3l];exact A8i _ _ _ _ h
def B8S{H:Type}{E:A7C}{n:Nat}{sh:Sh}{d:DataW H}{a:List AV}(h:A3l E n sh d=some a):∀k,A3l E (n+k) sh d=some a
 |0=>h
 |k+1=>A8i _ _ _ _ (B8S h k)
end Go.Abs
