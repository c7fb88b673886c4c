/- The texts EgD, EgQ, EgE, EgF, EgG, EgH, EgI, EgJ. -/
import Derived.Test.YtmihnfpinnfnfaaGreatDoorPG27
import Derived.Test.YtmihnfpinnfnfaaGreatDoorPG18
import Derived.Test.YtmihnfpinnfnfaaGreatDoorPG19
import Derived.Test.YtmihnfpinnfnfaaGreatDoorPG22
import Derived.Test.YtmihnfpinnfnfaaGreatDoorPG25
import Derived.Shelf.SlSortCmp.NoneTotal
import Derived.Shelf.Slices.In.SortNone
import Derived.RowKit
import Derived.Test.YtmihnfpinnfnfaaGreatDoorPG26
import Derived.Test.YtmihnfpinnfnfaaGreatDoorPG03
import Derived.Test.YtmihnfpinnfnfaaGreatDoorPG28
import Derived.Test.YtmihnfpinnfnfaaGreatDoorPG33
set_option linter.all false
section
set_option maxRecDepth 100000
namespace Go.Proofs
open Go.Shelf Go.RowKit Go.Lib Go.Sort
def Tryz.encSp(x:Int×Int):List Value:=[.int .i64 x.1,.int .i64 x.2]
set_option maxHeartbeats 1000000 in
def Tryz.closure87(x y:Int×Int)(W:World):Calls Tryz.prog 87 #[.agg #[.int .i64 x.1,.int .i64 x.2],.agg #[.int .i64 y.1,.int .i64 y.2]] W λe w'=>e=.returned (.int .i64 (Lib.compareInt x.1 y.1))/\∃q os',w'=grow (W.drewN q) os':=by
 have a:=λW'=>AnyG.cmp_Compare_int Tryz.cmpInt x.1 y.1 W';change∀W',Calls Tryz.prog 77 _ _ _ at a;generalize Lib.compareInt x.1 y.1=r at a|-
 go_enter Tryz.func87,Tryz.ntmps87
 go_wp2_with (go_at_call 77;refine(a _).mono ?_;rintro e w' ⟨rfl,rfl⟩)
 go_ret
 exact⟨rfl,0,_,by rw[alloc_eq_grow,alloc_eq_grow,grow_grow];rfl⟩
end Go.Proofs
namespace Go.Abs
open Go.Proofs TryTypes
def C7H(l:List A0L):(Go.Sort.flatK Tryz.encSp 2 l.toArray)=(l.flatMap Tryz.encSp).toArray:=by
 apply Array.ext
 .simp only[Go.Sort.size_flatK,Z1o];induction l with
  |nil=>rfl
  |cons a l ih=>simp only[Z0q,Z0z,Z0k,<-ih];show(l.length+1)*2=2+l.length*2;omega
 .intro t h1 h2;have ht:t<l.length*2:=by simpa using h1
  rw[<-Z3H,Go.Sort.get_flatK _ _ _ _ (by simpa using ht)];rw[<-Z3H];clear h1 h2;induction l generalizing t with
  |nil=>simp at ht
  |cons a l ih=>
   rcases t with _|_|t
   .rfl
   .rfl
   .have:=ih t (by simp at ht;omega);have e1:(t+1+1)/2=t/2+1:=Q0;have e2:(t+1+1)%2=t%2:=Q0;rw[e1,e2];simp only[Z4v,Z0z]at this|-;rw[List.getElem!_cons_succ,this];rfl
def D3G{G:A0p}:∀(l:List A0L) (vs:List Value),A0s G (l.flatMap A1y) vs->vs=l.flatMap Tryz.encSp
 |[],vs,h=>by simpa[A0s]using h
 |a::l,vs,h=>by simp only[Z0z,A1y,Z0O,Z1v,A0s]at h;obtain⟨x,_,rfl,hx,y,r,rfl,hy,hr⟩:=h;simp only[Rep]at hx hy;rw[D3G l r hr,hx,hy];rfl
def C6Y{G:A0p}:∀l:List A0L,A0s G (l.flatMap A1y) (l.flatMap Tryz.encSp)
 |[]=>by simp[A0s]
 |a::l=>by simp only[Z0z,A1y,Z0O,Z1v,A0s,Tryz.encSp];exact⟨_,_,rfl,by simp[Rep],_,_,rfl,by simp[Rep],C6Y l⟩
def B7a{α:Type}{f:α->Int}:∀{l m:List α},l.Perm m->l.Pairwise (λa b=>f a<f b)->m.Pairwise (λa b=>¬f b<f a)->m=l
 |[],m,hp,_,_=>hp.symm.eq_nil
 |a::l,m,hp,hl,hm=>by
  cases m with
  |nil=>exact absurd hp.eq_nil Q1
  |cons b m=>
   rw[Z1d]at hl hm;have hb:b∈a::l:=hp.mem_iff.2 Q1;have ha:a∈b::m:=hp.mem_iff.1 Q1;have c:b=a:=by
    rcases Z0r.1 hb with h|h
    .exact h
    .rcases Z0r.1 ha with h2|h2
     .exact h2.symm
     .exact absurd (hl.1 b h) (hm.1 a h2)
   subst c;rw[B7a ((List.perm_cons _).1 hp) hl.2 hm.2]
def C0N{C:Ctx}{G:A0p}{M:Mem}{w:World}{f g s:Nat}{x:Value}(hr:Rep G (.vref f g s 0 0) x):∃p cap,x=.slice p 0 cap:=by simp only[Rep]at hr;obtain⟨hf,hg,a,a',cap,hd,d,b,rfl,e,c,i⟩:=hr;exact⟨_,_,rfl⟩
def B5s{C:Ctx}{fn:FuncId}{args:List AV}{M:Mem}(h:∀G w (vs:List Value),Inv C G M w->A0s G args vs->Calls C.P fn vs.toArray w λe w'=>e=.returned (.tuple #[])/\w'=w):
 A0c C fn args M (λ_ M'=>M'=M):=by
 intro G w vs hi hr
 refine Z1B (h G w vs hi hr) ?_
 rintro e w' ⟨rfl,rfl⟩
 exact⟨.tuple [],M,G,_,rfl,rfl,.refl _,hi,by simp[Rep,A0s],⟨rfl,rfl,rfl,Z0j _⟩⟩
def C2K{C:Ctx}{α:Type}{e sz:Nat}{enc:α->List AV}{M:Mem}{v:AV}(h:A1p e sz enc M v []){G:A0p}{w:World}(hi:Inv C G M w){x:Value}(hr:Rep G v x):∃p cap,x=.slice p 0 cap:=by
 rcases h with⟨rfl,-⟩|⟨f,g,a,rfl,hm,hl⟩
 .simp only[Rep]at hr;exact⟨_,_,hr⟩
 .exact C0N (C:=C) (M:=M) (w:=w) hr
section
variable (gl:Nat->AV)
def D4S(x y:Int×Int):Go.Proofs.ltOf (λx y:Int×Int=>Lib.compareInt x.1 y.1) x y=decide (x.1<y.1):=by
 unfold Go.Proofs.ltOf Lib.compareInt;by_cases h1:x.1<y.1
 .simp[h1]
 .by_cases h2:y.1<x.1<;>simp[h1,h2]
def E0N:Go.Sort.SWO (Go.Proofs.ltOf λx y:Int×Int=>Lib.compareInt x.1 y.1):=by
 refine⟨λx=>?_,λx y z h1 h2=>?_,λx y z h1 h2=>?_⟩
 .rw[D4S];simp
 .rw[D4S]at*;simp at*;omega
 .rw[D4S]at*;simp at*;omega
def C7Z(l:List A0L)(v:AV)(M:Mem)(hv:A1p 124 2 A1y M v l)(ha:l.Pairwise λa b=>a.1<b.1)(hl:l.length<=10000000):
 A0c (WC gl) 86 [v,.func (.func 87) [] []] M (λ_ M'=>A1p 124 2 A1y M' v l/\A0d (obj v) M M'):=by
 cases l with
 |nil=>
  refine(B5s λG w vs hi hr=>?_).mono (λ_ M' h=>by subst h;exact⟨hv,.refl _ _⟩)
  simp only[A0s]at hr
  obtain⟨x,_,rfl,hx,y,_,rfl,hy,rfl⟩:=hr
  obtain⟨p,cap,rfl⟩:=C2K hv hi hx
  exact AnyF.slices_SortFunc_none Tryz.sortSp p cap y w
 |cons a0 l0=>
  obtain⟨l,hL⟩:=ex (a0::l0)
  rw[<-hL]at hv ha hl|-
  have o:l≠[]:=by rw[hL];simp
  rcases hv with⟨-,h⟩|⟨f,g,s,rfl,hm,r⟩
  .exact absurd h o
  have d:0<l.length:=Z1G.2 o
  have a5:(l.flatMap A1y).length=l.length*2:=by
   clear hm r ha hl d o hL;induction l with
   |nil=>rfl
   |cons a l ih=>simp only[Z0z,Z0k,ih,Z0q];show 2+_=_;omega
  refine(B2h (P:=λnews=>news=l.flatMap A1y) hm r d ?_).mono ?_
  .intro G w vs b off cap a3 hi hr hb a7 m t a6;simp only[A0s]at hr;obtain⟨y,_,rfl,hy,rfl⟩:=hr;(have hy:y=.func (.func 87) #[] #[]:=by simpa[Rep,A0s]using hy);subst hy;rw[Z0e Q0]at m;have c:=D3G l _ m;have hH:Go.Sort.HoldsK Tryz.encSp 2 w b off l.toArray:=by
    intro j hj;simp only[Go.Sort.size_flatK,Z1o]at hj;constructor
    .simp only[World.cell?,hb];rw[C7H,<-c];(have n:j<((a3.toList.drop off).take (l.length*2)).length:=by simp;omega);simp only[Z4v,id];rw[Z3H _ j n];simp
    .simp[World.frozen?,hb]
   have eg:∀args w,(callFunc 87 args).run Tryz.prog w=.ok (.enter 87 args) w:=Go.Proofs.enters_of Tryz.func87 Q2 rfl;have u:=AnyQ.slices_SortFunc Tryz.sortSp 2 Tryz.isAgg124 Tryz.sizeOf124 Tryz.encSp (λ_=>rfl) (λx v hv=>by simp[Tryz.encSp]at hv;rcases hv with rfl|rfl<;>rfl) (λx y=>Lib.compareInt x.1 y.1) E0N 87 #[] b off cap l.toArray w eg (λ_ _ _ _ x y=>Tryz.closure87 x y _) hH (Z1H.1 hb).1 (by simp;omega);refine Z1B u ?_;rintro e w' ⟨rfl,d',k,os,hp,hs,rfl⟩;have hd:d'.toList=l:=by
    refine B7a (f:=λx:Int×Int=>x.1) ?_ ha ?_
    .have h2:=hp.2.2;(have h1:d'.size=l.length:=by simpa using hp.1);(have e:d'.extract 0 l.toArray.size=d':=by rw[Z1o,<-h1];simp);rw[e]at h2;simpa using h2.symm
    .rw[Z2O];intro i j a2 a4 a1;have:=hs i j Q0 a1 (by have:=hp.1;simp at*;omega);(have e1:∀q (h:q<d'.toList.length),d'[q]! =d'.toList[q]:=λq h=>by rw[Z3H d' q (by simpa using h)];simp);rw[e1 i a2,e1 j a4,D4S]at this;exact of_decide_eq_false this
   (have z:d'=l.toArray:=by rw[<-hd]);subst z
   refine⟨rfl,l.flatMap Tryz.encSp,_,k,os,C6Y l,a5,?_,rfl,?_⟩
   .intro v hv;rw[<-c]at hv;exact t v hv
   .rw[<-C7H];rfl
  .rintro _ M' ⟨news,h1,rfl,rfl⟩;have n:f<M.length:=(Z0a.1 hm).1;(have e:A0e (l.flatMap A1y) 0 (l.flatMap A1y)=l.flatMap A1y:=by simp[A0e]);rw[e];refine⟨.inr ⟨f,g,A0V 2 g 0 s,rfl,by simp[n],by unfold A0V;exact A2X _ r⟩,.set _ _ _⟩
end
def A3U(n:Int):List AV:=[I n]
def B6F(w:World)(b off:Nat)(zs:List Int):Go.Sort.putRow (Value.int .i64) w b off zs.toArray=Go.Sort.putRow id w b off (zs.map (Value.int .i64)).toArray:=by
 unfold Go.Sort.putRow;refine Go.Sort.mapBlock_congr _ _ _ _ λc e fr _=>?_;apply Z3T;intro k;simp only[Go.Sort.putCells,Z4w,Z1o,Z0N];cases c[k]? with
 |none=>rfl
 |some v=>
  simp only[Z1R,Z0b];by_cases h:off<=k/\k<off+zs.length
  .rw[Z0c h,Z0c h];have a:k-off<zs.length:=Q0;simp[a,id]
  .rw[Z0d h,Z0d h]
def C0Z{G:A0p}:∀(l:List Int) (vs:List Value),A0s G (l.flatMap A3U) vs->vs=l.map (Value.int .i64)
 |[],vs,h=>by simpa[A0s]using h
 |a::l,vs,h=>by simp only[Z0z,A3U,Z0O,Z1v,A0s]at h;obtain⟨x,r,rfl,hx,hr⟩:=h;simp only[Rep]at hx;rw[C0Z l r hr,hx];rfl
def B6B{G:A0p}:∀l:List Int,A0s G (l.flatMap A3U) (l.map (Value.int .i64))
 |[]=>by simp[A0s]
 |a::l=>by simp only[Z0z,A3U,Z0O,Z1v,A0s,Z0w];exact⟨_,_,rfl,by simp[Rep],B6B l⟩
def B4h(x:Int):∀l:List Int,(C4Y x l).Perm (x::l)
 |[]=>.refl _
 |y::l=>by
  rw[C4Y];split
  .exact .refl _
  .exact((B4h x l).cons y).trans (.swap x y l)
def A3h:∀l:List Int,(A7b l).Perm l
 |[]=>.refl _
 |x::l=>(B4h x _).trans ((A3h l).cons x)
def B5a(x:Int):∀{l:List Int},l.Pairwise (·<=·)->(C4Y x l).Pairwise (·<=·)
 |[],_=>by simp[C4Y]
 |y::l,h=>by
  rw[Z1d]at h;rw[C4Y];split
  .rename_i hxy;rw[Z1d,Z1d];exact⟨λz hz=>by rcases Z0r.1 hz with rfl|hz;exact hxy;exact Int.le_trans hxy (h.1 z hz),h⟩
  .rename_i hxy;rw[Z1d];refine⟨λz hz=>?_,B5a x h.2⟩;rcases Z0r.1 ((B4h x l).mem_iff.1 hz)with rfl|hz
   .omega
   .exact h.1 z hz
def A7u:∀l:List Int,(A7b l).Pairwise (·<=·)
 |[]=>.nil
 |x::l=>B5a x (A7u l)
def B6u:∀{l m:List Int},l.Perm m->l.Pairwise (·<=·)->m.Pairwise (·<=·)->m=l
 |[],m,hp,_,_=>hp.symm.eq_nil
 |a::l,m,hp,hl,hm=>by
  cases m with
  |nil=>exact absurd hp.eq_nil Q1
  |cons b m=>
   rw[Z1d]at hl hm;have hb:b∈a::l:=hp.mem_iff.2 Q1;have ha:a∈b::m:=hp.mem_iff.1 Q1;have c:b=a:=by
    rcases Z0r.1 hb with h|h
    .exact h
    .rcases Z0r.1 ha with h2|h2
     .exact h2.symm
     .have:=hl.1 b h;have:=hm.1 a h2;omega
   subst c;rw[B6u ((List.perm_cons _).1 hp) hl.2 hm.2]
def C3y(l:List Int):(l.mergeSort λx y=>decide (x<=y))=A7b l:=by refine B6u ((A3h l).trans (List.mergeSort_perm l _).symm) (A7u l) ?_;have:=List.pairwise_mergeSort (le:=λx y:Int=>decide (x<=y)) (λa b c h1 h2=>by simp at*;omega) (λa b=>by simp;omega) l;exact this.imp λh=>by simpa using h
section
variable (gl:Nat->AV)
def C3W(l:List Int)(v:AV)(M:Mem)(hv:A1p 3 1 A3U M v l)(hl:l.length<=100000000):A0c (WC gl) 41 [v] M (λ_ M'=>A1p 3 1 A3U M' v (A7b l)/\A0d (obj v) M M'):=by
 by_cases hne:l=[]
 .subst hne;refine(B5s λG w vs hi hr=>?_).mono (λ_ M' h=>by subst h;exact⟨hv,.refl _ _⟩);simp only[A0s]at hr;obtain⟨x,_,rfl,hx,rfl⟩:=hr;obtain⟨p,cap,rfl⟩:=C2K hv hi hx;exact Any.slices_Sort_int_none Tryz.lays189 p cap w
 rcases hv with⟨-,h⟩|⟨f,g,m,rfl,hm,o⟩
 .exact absurd h hne
 have n:0<l.length:=Z1G.2 hne
 have c:∀l:List Int,(l.flatMap A3U).length=l.length*1:=λl=>by
  induction l with
  |nil=>rfl
  |cons a l ih=>simp only[Z0z,Z0k,ih,Z0q];show 1+_=_;omega
 refine(B2h (P:=λnews=>news=(A7b l).flatMap A3U) hm o n ?_).mono ?_
 .intro G w vs b off cap r hi hr hb u i t s;simp only[A0s]at hr;subst hr;rw[Z0e (by rw[c];omega)]at i;have d:=C0Z l _ i;have hH:Go.Sort.Holds (Value.int .i64) w b off l.toArray:=by
   intro j hj;(have hj:j<l.length:=by simpa using hj);constructor
   .simp only[World.cell?,hb];(have h1:((r.toList.drop off).take (l.length*1))[j]?=(l.map (Value.int .i64))[j]?:=by rw[d]);rw[Z0x,Z0c Q0,Z0C,Z1i,Z0i hj]at h1;rw[Z2Y]at h1;rw[h1];simp[hj]
   .simp[World.frozen?,hb]
  refine Z1B (Any.slices_Sort_int Tryz.lays189 b off cap l w hH (Z1H.1 hb).1 Q0) ?_;rintro e w' ⟨rfl,k,os,rfl⟩;refine⟨rfl,(A7b l).map (Value.int .i64),_,k,os,B6B _,by rw[c,(A3h l).length_eq],?_,rfl,?_⟩
  .intro v hv;obtain⟨z,_,rfl⟩:=Z0H.1 hv;rfl
  .rw[C3y,B6F]
 .rintro _ M' ⟨news,h1,rfl,rfl⟩;have q:f<M.length:=(Z0a.1 hm).1;have e:A0e (l.flatMap A3U) 0 ((A7b l).flatMap A3U)=(A7b l).flatMap A3U:=by simp only[A0e,Z2m,Z1v,Z0P];rw[Z1r (by rw[c,c,(A3h l).length_eq];omega),Z1g]
  rw[e];refine⟨.inr ⟨f,g,A0V 1 g 0 m,by rw[(A3h l).length_eq],by simp[q],by rw[(A3h l).length_eq];unfold A0V;exact A2X _ o⟩,.set _ _ _⟩
end
end Go.Abs
end
namespace Go.Abs
def A8m(l:List A0X)(a:A0X):A3D (l++[a])=B3G (A3D l) a:=by simp[A3D,Z1S]
def B6V{α:Type}{P:List α->Prop}(h0:P [])(h1:∀l a,P l->P (l++[a])):∀l,P l:=by
 intro l;have:∀n (l:List α),l.length=n->P l:=by
  intro n;induction n with
  |zero=>intro l h;rw[Z0v h];exact h0
  |succ n ih=>intro l h;(have b:l≠[]:=by intro e;rw[e]at h;simp at h);rw[<-Z3O b];exact h1 _ _ (ih _ (by rw[List.length_dropLast];omega))
 exact this _ l rfl
def B5C(l:List A0X):∀n,n∈(A3D l).map (·.number)<->n∈l.map (·.number):=by
 refine B6V (P:=λl=>∀n,n∈(A3D l).map (·.number)<->n∈l.map (·.number)) (by simp[A3D]) (λl a ih n=>?_) l;rw[A8m,B3G];by_cases h:a.number∈(A3D l).map (·.number)
 .rw[Z0c h,ih,Z1c,Z0T];have:=(ih a.number).1 h;constructor
  .exactλh=>.inl h
  .rintro(h2|h2)
   .exact h2
   .simp only[Z0w,Z1O,Z0r,Z1F,Z2K]at h2;rw[h2];exact this
 .rw[Z0d h,Z1c,Z1c,Z0T,Z0T,ih]
def B3v(l:List A0X):((A3D l).map (·.number)).Nodup:=by
 refine B6V (P:=λl=>((A3D l).map (·.number)).Nodup) (by simp[A3D]) (λl a ih=>?_) l;rw[A8m,B3G];by_cases h:a.number∈(A3D l).map (·.number)
 .rw[Z0c h];exact ih
 .rw[Z0d h,Z1c,Z2y];refine⟨ih,Q1,λx hx y hy e=>?_⟩;simp only[Z0w,Z1O,Z0r,Z1F,Z2K]at hy;subst hy;subst e;exact h hx
def B2m(l:List A0X):(A3D l).length<=l.length:=by
 refine B6V (P:=λl=>(A3D l).length<=l.length) (by simp[A3D]) (λl a ih=>?_) l;rw[A8m,B3G];split
 .simp;omega
 .simp;omega
def C2g(a b:A0X):Int:=orL [A9J a.day b.day,A9J a.number b.number]
def B1K(a b:A0X):C2g a b<0<->a.day<b.day\/(a.day=b.day/\a.number<b.number):=by
 have hc:∀x y:Int,(A9J x y<0<->x<y)/\(A9J x y=0<->x=y):=λx y=>by unfold A9J;split<;>(try split)<;>omega
 have h1:=hc a.day b.day;have h2:=hc a.number b.number;simp only[C2g,orL];by_cases e:A9J a.day b.day=0
 .rw[Z0c e];by_cases e2:A9J a.number b.number=0
  .rw[Z0c e2];omega
  .rw[Z0d e2];omega
 .rw[Z0d e];omega
def D1g:A5A C2g:=⟨λx y=>by rw[B1K,B1K];omega,λx y z=>by rw[B1K,B1K,B1K];omega⟩
def B6l(a b:A0X):leA a b=true<->a.day<b.day\/(a.day=b.day/\a.number<=b.number):=by simp[leA]
def D5W(a b:A0X):leA a b=true<->¬C2g b a<0:=by rw[B6l,B1K];omega
def B4y(x:A0X):∀l,(C5r x l).Perm (x::l)
 |[]=>.refl _
 |y::l=>by
  rw[C5r];split
  .exact .refl _
  .exact((B4y x l).cons y).trans (.swap ..)
def A6K:∀l,(B5x l).Perm l
 |[]=>.refl _
 |x::l=>by rw[B5x];exact(B4y x _).trans ((A6K l).cons x)
def B5R(x:A0X):∀l,l.Pairwise (λa b=>leA a b=true)->(C5r x l).Pairwise (λa b=>leA a b=true)
 |[],_=>by simp[C5r]
 |y::l,h=>by
  rw[Z1d]at h;rw[C5r];split
  .rename_i e;refine Z1d.2 ⟨λz hz=>?_,Z1d.2 h⟩;rcases Z0r.1 hz with rfl|hz
   .exact e
   .have:=h.1 z hz;rw[B6l]at this e|-;omega
  .rename_i e;refine Z1d.2 ⟨λz hz=>?_,B5R x l h.2⟩;rcases Z0r.1 ((B4y x l).mem_iff.1 hz)with rfl|hz
   .rw[B6l]at e|-;omega
   .exact h.1 z hz
def B3H:∀l,(B5x l).Pairwise (λa b=>leA a b=true)
 |[]=>by simp[B5x]
 |x::l=>by rw[B5x];exact B5R x _ (B3H l)
def D5U{l:List A0X}(h:(l.map (·.number)).Nodup){a b:A0X}(ha:a∈l)(hb:b∈l)(e:a.number=b.number):a=b:=by
 induction l with
 |nil=>simp at ha
 |cons x l ih=>
  rw[Z0w,Z1D]at h;rcases Z0r.1 ha with e1|h1<;>rcases Z0r.1 hb with e2|h2
  .rw[e1,e2]
  .exact(h.1 (Z0H.2 ⟨b,h2,by rw[<-e,e1]⟩)).elim
  .exact(h.1 (Z0H.2 ⟨a,h1,by rw[e,e2]⟩)).elim
  .exact ih h.2 h1 h2
def D3u{E L:List A0X}(hp:E.Perm L)(hs:E.Pairwise (λa b=>leA a b=true))(hn:(L.map (·.number)).Nodup):E=B5x L:=by refine List.Perm.eq_of_pairwise (le:=λa b=>leA a b=true) (λa b ha hb h1 h2=>?_) hs (B3H L) (hp.trans (A6K L).symm);rw[B6l]at h1 h2;exact D5U hn (hp.mem_iff.1 ha) ((A6K L).mem_iff.1 hb) Q0
set_option maxRecDepth 100000
open Go.Proofs TryTypes Tryz
@[simp] def D6V{p:List A0L}{i:Nat}(h:i<(A1M p).length):(A1M p)[i]=[I (p[i]'(by simpa using h)).1,I (p[i]'(by simpa using h)).2]:=by simp[A1M,A1y]
def A6s{i:Nat}(h:i<=1000000000):IntKind.i64.wrap ((i:Int)+1)=((i+1:Nat):Int):=by rw[A0R Q0 Q0];omega
def D7N{n:Int}(h0:0<=n)(h:n<=1000000000):IntKind.i64.wrap ((IntKind.u64.wrap n).fdiv 2)=n/2:=by rw[IntWalk.u64_in n ⟨h0,Q0⟩,Z3W _ Q0,A0R Q0 Q0]
def C6Z{x y:Int}:A9J x y<0<->x<y:=by
 simp only[A9J];by_cases h:x<y
 .simp[h]
 .by_cases h2:y<x<;>simp[h,h2]
def D5g{x y:Int}:A9J x y=0<->x=y:=by
 simp only[A9J];by_cases h:x<y
 .simp[h];omega
 .by_cases h2:y<x
  .simp[h,h2];omega
  .simp[h,h2];omega
def D0D{x y:Int}:(A9J x y==0)=decide (x=y):=by rw[Z2u,Z0m,Z3i];exact D5g
def B7X{l:List A0L}{i:Nat}(h:i<l.length):(A1M l)[i]?=some [I l[i].1,I l[i].2]:=by simp[A1M,A1y,h]
section
variable (gl:Nat->AV)
def D5M(x:A0L)(d:Int)(M:Mem):A0c (WC gl) 85 [.agg (A1y x),I d] M (λv M'=>v=I (A9J x.1 d)/\M'=M):=by refine A0t hB func85 ?_;simp -dsimp[A1y];refine A0h func77 (C5j gl M x.1 d) ?_;simp -dsimp
def C4r(l:List A0L)(o:Own)(d:Int)(M:Mem)(hl:l.length<=1000000):A0c (WC gl) 84 [.list 2 (A1M l) o,I d,.func (.func 85) [] []] M (λv M'=>v=.tuple [I (bsD l d l.length 0 l.length:Nat),B (decide (bsD l d l.length 0 l.length<l.length)&&decide ((l.getD (bsD l d l.length 0 l.length) (0,0)).1=d))]/\M'=M):=by
 have hc:=λ(x:A0L) M=>A0m func85 rfl rfl (D5M gl x d M)
 simp only[A1y]at hc
 refine A0t hB func84 ?_
 simp -dsimp
 refine A0K hB (λT M1=>∃i j f:Nat,i<=j/\j<=l.length/\j-i<=f/\M1=M/\T 0=.list 2 (A1M l) o/\T 1=I d/\T 2=.func (.func 85) [] []/\T 8=I l.length/\T 9=I i/\T 10=I j/\bsD l d l.length 0 l.length=bsD l d f i j) (λT M1=>match T 9,T 10 with|.val (.int _ i),.val (.int _ j)=>j.toNat-i.toNat|_,_=>0) Q2 ?_ ?_
 .exact⟨0,l.length,l.length,Q0,Q0,Q0,rfl,Q1,Q1,Q1,Q1,Q1,Q1,rfl⟩
 rintro T M1 ⟨i,j,f,h1,h2,h3,rfl,t0,t1,t2,t8,t9,b,hb⟩
 by_cases hij:i<j
 case neg=>
  have a:¬(i:Int)<j:=Q0;have e:bsD l d l.length 0 l.length=i:=by
   rw[hb];cases f with
   |zero=>rfl
   |succ f=>rw[bsD,Z0d hij]
  rw[e];by_cases hi:i<l.length;case neg=>simp -dsimp[t0,t1,t2,t8,t9,b,a,hi]
  simp -dsimp[t0,t1,t2,t8,t9,b,a,hi,B7X hi];refine A0v (hc l[i] M1) ?_;rintro _ _ ⟨rfl,rfl⟩;simp -dsimp[D0D,hi]
 have a:(i:Int)<j:=Q0
 obtain⟨f,rfl⟩:∃g,f=g+1:=⟨f-1,Q0⟩
 rw[bsD,Z0c hij]at hb
 obtain⟨h,hh⟩:=ex ((i+j)/2)
 have c:h<l.length:=Q0
 rw[<-hh,Z1Q,Z0i c,Z1E]at hb
 have w1:IntKind.i64.wrap ((i:Int)+j)=(i+j:Nat):=by rw[A0R Q0 Q0];omega
 have w2:IntKind.i64.wrap ((IntKind.u64.wrap ((i:Int)+j)).fdiv (2^min 1 IntKind.u64.bits))=(h:Int):=by rw[show(2:Int)^min 1 IntKind.u64.bits=2 from rfl,D7N Q0 Q0];omega
 have w3:=A1Y (i:=h) Q0
 simp -dsimp[t0,t1,t2,t8,t9,b,a,w1,A5C,w2,c,B7X c]
 refine A0v (hc l[h] M1) ?_
 rintro _ _ ⟨rfl,rfl⟩
 by_cases hlt:l[h].1<d
 .rw[Z0c hlt]at hb;simp -dsimp[t0,t1,t2,t8,t9,b,C6Z,hlt,w3];exact⟨⟨h+1,j,by clear w1 w2 w3;omega,h2,f,by clear w1 w2 w3;omega,by clear w1 w2 w3;omega,rfl,hb⟩,by clear w1 w2 w3;omega⟩
 .rw[Z0d hlt]at hb;simp -dsimp[t0,t1,t2,t8,t9,b,C6Z,hlt,w3];exact⟨⟨i,h,by clear w1 w2 w3;omega,by clear w1 w2 w3;omega,f,by clear w1 w2 w3;omega,rfl,rfl,hb⟩,by clear w1 w2 w3;omega⟩
def C5I(l:List A0L)(o:Own)(d:Int)(M:Mem)(hl:l.length<=1000000):A0c (WC gl) 59 [.list 2 (A1M l) o,I d] M (λv M'=>v=B (B0t l d)/\M'=M):=by
 obtain⟨a,ha⟩:=ex (bsD l d l.length 0 l.length);have hs:=C4r gl l o d M hl;have hD:B0t l d=((decide (a<l.length)&&decide ((l.getD a (0,0)).1=d))||(decide (0<a)&&decide (d<(l.getD (a-1) (0,0)).2))):=by rw[B0t,<-ha]
 rw[<-ha]at hs;rw[hD];have g:a<=l.length:=by
  rw[ha];have key:∀(f i j:Nat),i<=j->j<=l.length->bsD l d f i j<=l.length:=by
   intro f;induction f with
   |zero=>intro i j h1 h2;simp only[bsD];omega
   |succ f ih=>
    intro i j h1 h2;rw[bsD];split
    .split
     .exact ih _ _ Q0 h2
     .exact ih _ _ Q0 Q0
    .omega
  exact key _ _ _ (Z3u _) (Z0j _)
 refine A0t hB func59 ?_;simp -dsimp;refine A0h func84 hs ?_;cases h1:(decide (a<l.length)&&decide ((l.getD a (0,0)).1=d))with
 |true=>simp -dsimp
 |false=>
  by_cases h2:0<a
  .have e:a-1<l.length:=Q0;(have w1:IntKind.i64.wrap ((a:Int)-1)=(a-1:Nat):=by rw[A0R Q0 Q0];omega);have c:(a:Int)>0:=Q0;have b:(0:Int)<a:=Q0;simp -dsimp[h2,c,b,w1,e,B7X e]
  .have c:¬(0:Int)<a:=Q0;have b:¬(a:Int)>0:=Q0;simp -dsimp[h2,c,b]
end
def A0d.chain{o o':Option Nat}{A B C:Mem}(h1:A0d o A B)(h2:A0d o' B C)(h:o'=o\/∀g,o'=some g->A.length<=g):A0d o A C:=
 ⟨Z0L h1.1 h2.1,λi hi ho=>(h2.2 i (Z0Z hi h1.1) (λe=>by
  rcases h with h|h
  .exact ho (h▸e)
  .have:=h i e;omega)).trans (h1.2 i hi ho)⟩
def D7r(X:List A0L):(X.flatMap A1y).length=X.length*2:=A1Z (enc:=A1y) (sz:=2) (λ_=>rfl) X
def C4i:∀(X:List A0L) (k:Nat) (b:Int) (h:k<X.length),A0e (X.flatMap A1y) (k*2+1) [I b]=(X.set k (X[k].1,b)).flatMap A1y
 |a::X,0,b,_=>by simp[A0e,A1y]
 |a::X,k+1,b,h=>by have ih:=C4i X k b (by simpa using h);have e:(k+1)*2+1=(k*2+1)+2:=Q0;simp only[Z0z,Z3R,Z1M,<-ih,e];simp[A0e,A1y]
section
variable {M:Mem} {f g:Nat} {hist:List (Nat×Nat)} {X:List A0L}
def C8k(hm:M[f]?=some (.vec 124 2 (X.flatMap A1y) g hist))(hl:hist.lookup g=some X.length){k:Nat}(hk:k<X.length)(b:Int):A0k (some 1) M (.vptr f g (k*2+1)) (I b)=some (M.set f (.vec 124 2 ((X.set k (X[k].1,b)).flatMap A1y) g (A0V 2 g (k*2+1) hist))):=by
 have e:=C4i X k b hk
 have h1:AV.storable (I b)=true:=rfl
 have h2:AV.cells (I b)=[I b]:=rfl
 simp only[A0k,hm,hl,h1,h2,Z0q,Z1n,Z0B (show k*2+1+(0+1)<=X.length*2 by omega),decide_true,Z2L,Z1f,e]
def C0f(hm:M[f]?=some (.vec 124 2 (X.flatMap A1y) g hist))(hl:hist.lookup g=some X.length){k:Nat}(hk:k<X.length)(x:A0L):A0k (some 2) M (.vptr f g (k*2)) (.agg [I x.1,I x.2])=some (M.set f (.vec 124 2 ((X.set k x).flatMap A1y) g (A0V 2 g (k*2) hist))):=by
 have e:A0e (X.flatMap A1y) (k*2) [I x.1,I x.2]=(X.set k x).flatMap A1y:=B3b (enc:=A1y) (sz:=2) (λ_=>rfl) X k x hk
 have h1:AV.storable (.agg [I x.1,I x.2])=true:=rfl
 have h2:AV.cells (.agg [I x.1,I x.2])=[I x.1,I x.2]:=rfl
 simp only[A0k,hm,hl,h1,h2,Z0q,Z1n,Z0B (show k*2+(0+1+1)<=X.length*2 by omega),decide_true,Z2L,Z1f,e]
def D3C(hm:M[f]?=some (.vec 124 2 (X.flatMap A1y) g hist))(hl:hist.lookup g=some X.length)(o:Nat):A2r M (.vptr f g o)=some ((X.flatMap A1y).drop o):=by simp only[A2r,hm,hl];rw[Z0e (by rw[D7r];omega)]
def D4o(hm:M[f]?=some (.vec 124 2 (X.flatMap A1y) g hist))(hl:hist.lookup g=some X.length){k:Nat}(hk:k<X.length):A0M prog 124 M (.vptr f g (k*2))=some (.agg [I X[k].1,I X[k].2]):=by have h1:(X.flatMap A1y).drop (k*2)=(X.drop k).flatMap A1y:=A3x (enc:=A1y) (sz:=2) (λ_=>rfl) k X;have h2:X.drop k=X[k]::X.drop (k+1):=Z0o hk;simp only[A0M,D3C hm hl,h1,h2,Z0z,Z2j,A0g];simp[A1y,A7w]
def D1M(hm:M[f]?=some (.vec 124 2 (X.flatMap A1y) g hist))(hl:hist.lookup g=some X.length){k:Nat}(hk:k<X.length):A0M prog 3 M (.vptr f g (k*2+1))=some (I X[k].2):=by
 have h1:(X.flatMap A1y).drop (k*2)=(X.drop k).flatMap A1y:=A3x (enc:=A1y) (sz:=2) (λ_=>rfl) k X;have h2:X.drop k=X[k]::X.drop (k+1):=Z0o hk;have h3:(X.flatMap A1y).drop (k*2+1)=I X[k].2::(X.drop (k+1)).flatMap A1y:=by rw[<-Z2l,h1,h2];rfl
 simp only[A0M,D3C hm hl,h3,Z2j,A0g];simp[A7w]
end
def C4U{l:List A0L}{i:Nat}(h:i<l.length):A6U (l.take (i+1))=A6U (l.take i)++(if(A6E l[i]).1<(A6E l[i]).2 then[A6E l[i]]else[]):=by rw[Z0A,Z0i h];simp only[A6U,Z0X,Z1c,Z2U,Z0w,Z1O];congr 1;by_cases c:(A6E l[i]).1<(A6E l[i]).2<;>simp[c]
def B9Z(l:List A0L):(A6U l).length<=l.length:=by have:=Z1s (λx:A0L=>decide (x.1<x.2)) (l.map A6E);simpa[A6U]using this
def B5q(A:List A0L)(y x:A0L):A7i (A++[y]) x=if x.1<=y.2 then A++[(y.1,max y.2 x.2)]else A++[y]++[x]:=by simp[A7i]
def D0i{K:List A0L}{i:Nat}(h:i<K.length):(K.take (i+1)).foldl A7i []=A7i ((K.take i).foldl A7i []) K[i]:=by rw[Z0A,Z0i h,Z0X,Z1S];rfl
def B7c{X:List A0L}{k i:Nat}(hk:k<=i)(hi:i<X.length)(x:A0L):(X.set k x).take (k+1)=X.take k++[x]/\(X.set k x).drop (i+1)=X.drop (i+1):=by
 constructor
 .rw[Z0A,List.take_set_of_le (Z0j _)];simp[show k<X.length by omega]
 .rw[List.drop_set_of_lt Q0]
section
variable (gl:Nat->AV)
def SpV(v:AV)(l:List A0L):Prop:=(∃o,v=.list 2 (A1M l) o)\/(v=.val (.slice none 0 0)/\l=[])
def SpV.of{l:List A0L}(o:Own):SpV (.list 2 (A1M l) o) l:=.inl ⟨o,rfl⟩
def SpV.nil:SpV (.val (.slice none 0 0)) []:=.inr ⟨rfl,rfl⟩
def SpV.len{v:AV}{l:List A0L}(h:SpV v l):A2W prog 92 v=some l.length:=by
 rcases h with⟨o,rfl⟩|⟨rfl,rfl⟩
 .simp[A2W]
 .kernel_rfl
set_option maxHeartbeats 1000000 in
def B1p{va:AV}{l:List A0L}(ay:SpV va l)(M:Mem)(ha:Asc l)(hl:l.length<=10000000):A0c (WC gl) 60 [va] M (λv M'=>v=.list 2 (A1M (A4a l)) .no/\M'=M):=by
 refine A0c.dataX ?_;have an:=ay.len;refine A0t (hQ [31]) func60 ?_;simp -dsimp[an];refine A1E (hQ [31]) l.length 11 (λT Mi=>∃i:Nat,i<=l.length/\T 9=va/\T 10=I l.length/\T 11=I i/\A1p 124 2 A1y Mi (T 3) (A6U (l.take i))/\Grow M Mi/\A1K M.length (T 3)) ?_ ?_
 .exact⟨0,Q0,Q1,Q1,Q1,by simp[A1p,A6U],A0d.refl _ _,by simp[A1K]⟩
 rintro T Mi ⟨i,i1,t9,a7,a6,hv,hg,a5⟩;obtain⟨v,ao⟩:=ex (T 3);rw[<-ao]at hv a5;have t3:=ao.symm;by_cases hi:i<l.length;case pos=>
  have u:(i:Int)<l.length:=Q0;obtain⟨o,rfl⟩:∃o,va=.list 2 (A1M l) o:=by
   rcases ay with h|⟨_,rfl⟩
   .exact h
   .simp at hi
  have w1:=A6s (i:=i) Q0;obtain⟨b,hb⟩:=ex (Mi.length);obtain⟨y,hy⟩:=ex (A6E l[i]);have d:=C4U hi;rw[<-hy]at d;have aw:(if l[i].1<0 then 0 else l[i].1)=y.1:=by rw[hy];simp only[A6E];split<;>omega
  have b2:(if 1048577<l[i].2 then 1048577 else l[i].2)=y.2:=by rw[hy];simp only[A6E,A3n];split<;>omega
  obtain⟨M4,t⟩:=ex (Mi++[A0l.cells 124 [I l[i].1,I l[i].2]]);have m:M4[b]?=some (A0l.cells 124 [I l[i].1,I l[i].2]):=by rw[t,hb];simp
  have ak:b<M4.length:=(Z0a.1 m).1;obtain⟨M5,au⟩:=ex (M4.set b (A0l.cells 124 [I y.1,I l[i].2]));have bb:M5[b]?=some (A0l.cells 124 [I y.1,I l[i].2]):=by rw[au];simp[ak]
  have s5:A0k (some 1) M4 (.ptr b 0) (I y.1)=some M5:=by rw[A0f m,au];rfl
  obtain⟨M6,av⟩:=ex (M4.set b (A0l.cells 124 [I y.1,I y.2]));have s6:A0k (some 1) M5 (.ptr b 1) (I y.2)=some M6:=by rw[A0f bb,av,au,Z2h];rfl
  have ax:M6[b]?=some (A0l.cells 124 [I y.1,I y.2]):=by rw[av];simp[ak]
  have af:Grow Mi M6:=by rw[av,t,hb];exact A0u (A0d.app none _ _) (Z0j _)
  have b0:=hv.keep af Q1;simp -dsimp[t3,t9,a7,a6,hi,u,B7X hi,A0j,A0k,A0e,A0o,A0n];rw[<-t,<-hb];by_cases hlt:y.1<y.2;case neg=>rw[Z0d hlt,Z1g]at d;simp -dsimp[A0b m,aw,b2,s5,s6,A0b ax,hlt,w1,t3,t9,a7,a6];exact⟨⟨i+1,Q3,rfl,by rw[d];exact b0,hg.trans af,a5⟩,Q3⟩
  rw[Z0c hlt]at d;simp -dsimp[A0b m,aw,b2,s5,s6,A0b ax,hlt,w1,t3,t9,a7,a6,A0w,A1e,A0o,A0n];refine A3u (C:=WC gl) (enc:=A1y) (e:=124) (sz:=2) (news:=[y]) C1T C7j C1z (λ_=>rfl) b0 (by simp[A0D,A1y]) (by have:=B9Z (l.take i);simp at this|-;omega) rfl ?_;intro v1 M7 a1 a2 a3 _;simp -dsimp[w1,t3,t9,a7,a6];refine⟨⟨i+1,Q3,rfl,by rw[d];exact a1,A0d.chain (hg.trans af) a2 (.inr λq hq=>a5 q hq),?_⟩,Q3⟩;intro q hq;rcases a3 with e|e
  .exact a5 q (by rw[<-e];exact hq)
  .have:=e q hq;have:=hg.1;have:=af.1;omega
 have u:¬(i:Int)<l.length:=Q0;rw[Z0e Q0]at hv;obtain⟨K,hK⟩:=ex (A6U l);have bd:=B9Z l;unfold Asc at ha;rw[<-hK]at hv ha bd;have bc:A4a l=K.foldl A7i []:=by rw[A4a,hK]
 rw[bc];simp -dsimp[t9,a7,a6,u,t3];refine A4b func86 (C7Z gl K v Mi hv ha Q0) ?_;rintro r M2 ⟨b5,b1⟩;have aq:Grow M M2:=A0d.chain hg b1 (.inr λq hq=>a5 q hq);clear hv b1 hg t9 a7 a6 ao;rcases b5 with⟨rfl,b7⟩|⟨f,g,hist,rfl,hm,j⟩
 .subst b7;simp -dsimp[t3];refine A0K (hQ [31]) (λT Mi=>Mi=M2/\T 3=A0B/\T 6=I 0/\T 36=I 0/\T 37=I 0) (λ_ _=>0) Q2 ?_ ?_
  .exact⟨rfl,by simp[t3],Q1,Q1,Q1⟩
  rintro T Mi ⟨rfl,t3,t6,s,t37⟩;have ba:A1W prog 92 A0B none (some (I 0)) none=some A0B:=Q2;simp -dsimp[t3,t6,s,t37,ba];exact⟨aq,.nilS .nil⟩
 have ag:=a5 f rfl;obtain⟨n,hn⟩:=ex (K.length);rw[<-hn]at j;simp -dsimp[t3];rw[<-hn];refine A1E (hQ [31]) n 37 (λT Mi=>∃(i:Nat) (a X:List A0L) (h:List (Nat×Nat)),i<=n/\T 3=.vref f g 2 0 n/\T 6=I a.length/\T 35=.vref f g 2 0 n/\T 36=I n/\T 37=I i/\a.length<=i/\X.length=n/\X.take a.length=a/\X.drop i=K.drop i/\a=(K.take i).foldl A7i []/\Mi[f]?=some (.vec 124 2 (X.flatMap A1y) g h)/\h.lookup g=some n/\Grow M Mi) ?_ ?_
 .exact⟨0,[],K,hist,Q0,by simp[t3,hn],Q1,by simp[t3,hn],by simp[hn],Q1,Q1,hn.symm,Q1,Q1,Q1,hm,j,aq⟩
 clear t3 hm j aq;rintro T Mi ⟨i,a,X,h,i1,t3,t6,a4,s,t37,hk,hX,ae,am,ad,hm,j,hg⟩;have p:h.lookup g=some X.length:=by rw[hX];exact j
 by_cases hi:i<n;case neg=>
  have u:¬(i:Int)<n:=Q0;rw[Z0e Q0]at ad;have b8:a.length<=n:=Q0;have b3:(a.length:Int)<=n:=Q0;have hs:A1W prog 92 (.vref f g 2 0 n) none (some (I a.length)) none=some (.vref f g 2 0 a.length):=by simp[A1W,A4y,A8s,A1s,B0l,b3]
  simp -dsimp[t3,t6,a4,s,t37,u,hs,<-ad];refine⟨hg,.vec ag hm j b8 Q1 (λr hr=>by obtain⟨q,_,rfl⟩:=Z0H.1 hr;rfl) ?_ .nil⟩;have e1:(X.flatMap A1y).take (a.length*2)=a.flatMap A1y:=by rw[A7D (enc:=A1y) (sz:=2) (λ_=>rfl),ae]
  have e2:(A1M a).flatten=a.flatMap A1y:=by simp[A1M,List.flatMap]
  rw[e1,e2];exact Still.refl λc hc=>by obtain⟨q,_,hq⟩:=Z1Y.1 hc;simp only[A1y,Z0r,Z1F,Z2K]at hq;rcases hq with rfl|rfl<;>trivial
 have u:(i:Int)<n:=Q0;have aa:X.drop (i+1)=K.drop (i+1):=by rw[<-Z2l,am,Z2l]
 have b4:X[i]'Q0=K[i]'Q0:=by have h1:=Z0o (show i<X.length by omega);have h2:=Z0o (show i<K.length by omega);rw[h1,h2]at am;exact(List.cons.inj am).1
 obtain⟨x,hx⟩:=ex (K[i]'Q0);have az:=D4o hm p (show i<X.length by omega);rw[b4,<-hx]at az;have ah:=D0i (K:=K) (show i<K.length by omega);rw[<-ad,<-hx]at ah;have w1:=A6s (i:=i) Q0;have w2:=A6s (i:=a.length) Q0;obtain⟨b,hb⟩:=ex (Mi.length);obtain⟨M4,t⟩:=ex (Mi++[A0l.cells 124 [I x.1,I x.2]]);have m:M4[b]?=some (A0l.cells 124 [I x.1,I x.2]):=by rw[t,hb];simp
 have aj:Grow Mi M4:=by rw[t];exact A0d.app none _ _
 have a9:=aj.get hm Q1;have z:f<M4.length:=(Z0a.1 a9).1;simp -dsimp[t3,t6,a4,s,t37,hi,u,az,A0j,A0k,A0e,A0o,A0n];rw[<-t,<-hb];refine A0Z (hQ [31]) (A0E gl) (λk=>if k=4\/k=10 then 1 else 0) (λk=>if k=4 then b else f) (by rfl) Q2 ?_;by_cases h0:0<a.length;case neg=>have ai:¬(0:Int)<a.length:=Q0;have ar:a=[]:=Z0v Q0;have a8:=C0f a9 p (k:=a.length) Q0 x;obtain⟨s1,s2⟩:=B7c (X:=X) hk Q0 x;have d:a.length<n:=Q0;simp -dsimp[t3,t6,a4,s,t37,h0,ai,A0b m,a8,d,w1,w2];exact⟨⟨i+1,by clear w1 w2;omega,a++[x],Q1,rfl,by simp;clear w1 w2;omega,X.set a.length x,by simp[hX],by rw[Z0k];exact s1.trans (by rw[ae]),s2.trans aa,by rw[ah,ar];rfl,A0V 2 g (a.length*2) h,by simp[z],by unfold A0V;exact A2X _ j,A0u (hg.trans aj) ag⟩,by clear w1 w2;omega⟩
 have ai:(0:Int)<a.length:=Q0;have al:(a.length:Int)>0:=Q0;have w3:IntKind.i64.wrap ((a.length:Int)-1)=(a.length-1:Nat):=by rw[A0R Q0 Q0];omega
 obtain⟨k1,b9⟩:=ex (a.length-1);rw[<-b9]at w3;have ab:k1<n:=Q0;have ac:k1<X.length:=Q0;obtain⟨y,hy⟩:=ex (X[k1]);have a0:=D1M a9 p ac;rw[<-hy]at a0;have w:a=X.take k1++[y]:=by rw[<-ae,show a.length=k1+1 by omega,Z0A,Z0i ac,<-hy];rfl
 by_cases hle:x.1<=y.2
 .have a8:=C8k a9 p ac (max y.2 x.2);rw[<-hy]at a8;have b6:(if y.2<x.2 then x.2 else y.2)=max y.2 x.2:=by split<;>omega
  simp -dsimp[t3,t6,a4,s,t37,h0,ai,al,A0b m,w3,ab,a0,hle];refine A0Z (hQ [31]) (A0E gl) (λk=>if k=8\/k=10 then 1 else if k=14 then 2 else 0) (λk=>if k=8 then f else b) (by rfl) Q2 ?_;simp -dsimp[t3,t6,a4,s,t37,A0b m,w3,ab,a0,b6,a8,w1];obtain⟨s1,s2⟩:=B7c (X:=X) (show k1<=i by clear w1 w2 w3;omega) (by clear w1 w2 w3;omega) (y.1,max y.2 x.2);have ap:(X.take k1++[(y.1,max y.2 x.2)]).length=a.length:=by rw[w];simp
  exact⟨⟨i+1,by clear w1 w2 w3;omega,X.take k1++[(y.1,max y.2 x.2)],by rw[ap],rfl,by rw[ap];clear w1 w2 w3;omega,X.set k1 (y.1,max y.2 x.2),by simp[hX],by rw[ap,show a.length=k1+1 by clear w1 w2 w3;omega];exact s1,s2.trans aa,by rw[ah,w,B5q,Z0c hle],A0V 2 g (k1*2+1) h,by simp[z],by unfold A0V;exact A2X _ j,A0u (hg.trans aj) ag⟩,by clear w1 w2 w3;omega⟩
 .have a8:=C0f a9 p (k:=a.length) Q0 x;have d:a.length<n:=Q0;simp -dsimp[t3,t6,a4,s,t37,h0,ai,al,A0b m,w3,ab,a0,hle,a8,d,w1,w2];obtain⟨s1,s2⟩:=B7c (X:=X) hk (by clear w1 w2 w3;omega) x;exact⟨⟨i+1,by clear w1 w2 w3;omega,a++[x],Q1,rfl,by simp;clear w1 w2 w3;omega,X.set a.length x,by simp[hX],by rw[Z0k];exact s1.trans (by rw[ae]),s2.trans aa,by rw[ah,w,B5q,Z0d hle],A0V 2 g (a.length*2) h,by simp[z],by unfold A0V;exact A2X _ j,A0u (hg.trans aj) ag⟩,by clear w1 w2 w3;omega⟩
def D5V(l:List A0L)(o:Own)(M:Mem)(ha:Asc l)(hl:l.length<=10000000):A0c (WC gl) 60 [.list 2 (A1M l) o] M (λv M'=>v=.list 2 (A1M (A4a l)) .no/\M'=M):=B1p gl (.of o) M ha hl
end
def B6A(p x:Int):∀a:List Int,A2V (a++[p,x])=A2V (a++[p])++(if p=x then[]else[x])
 |[]=>by by_cases h:p=x<;>simp[A2V,h]
 |[b]=>by by_cases h:p=x<;>by_cases h2:b=p<;>simp[A2V,h,h2]
 |b::c::a=>by have ih:=B6A p x (c::a);simp only[Z0O]at ih|-;rw[A2V,A2V,ih];split<;>rfl
def B7g(l:List Int):Lib.compact l=A2V l:=by
 have key:∀m,m<=l.length->Lib.compactUpTo l.toArray m=A2V (l.take m):=by
  intro m;induction m with
  |zero=>intro _;simp[Lib.compactUpTo,A2V]
  |succ m ih=>
   intro hm;rw[Lib.compactUpTo_succ,ih Q0,Z0A,Z0i (show m<l.length by omega),Z0X];(have e0:l.toArray[m]! =l[m]:=by simp[show m<l.length by omega]);rcases m with _|m
   .simp[Lib.keeps,A2V,e0]
   ·(have e1:l.toArray[m]! =l[m]:=by simp[show m<l.length by omega]);have e2:l.take (m+1)=l.take m++[l[m]]:=by rw[Z0A,Z0i (show m<l.length by omega),Z0X]
    have hs:=B6A l[m] l[m+1] (l.take m);rw[e2,Z0F];show _=A2V (l.take m++[l[m],l[m+1]]);rw[hs];congr 1;simp only[Lib.keeps,Nat.add_sub_cancel,e0,e1];by_cases h:l[m]=l[m+1]
    .simp[h]
    .have h':¬l[m+1]=l[m]:=λe=>h e.symm;simp[h,h']
 have:=key l.length (Z0j _);rw[Z3a]at this;exact this
def B4O(l:List Int):(A2V l).length<=l.length:=by rw[<-B7g];have:=Z1s (Lib.keeps l.toArray) (List.range l.length);simpa[Lib.compact,Lib.compactUpTo]using this
def Pre(e:TypeId)(sz:Nat){α:Type}(enc:α->List AV)(M:Mem)(v:AV)(l:List α):Prop:=(v=.val (.slice none 0 0)/\l=[])\/∃f g hist cs n,v=.vref f g sz 0 l.length/\M[f]?=some (.vec e sz cs g hist)/\cs.take (l.length*sz)=l.flatMap enc/\hist.lookup g=some n/\l.length<=n
def Pre.keep{e sz:Nat}{α:Type}{enc:α->List AV}{M M':Mem}{v:AV}{l:List α}(h:Pre e sz enc M v l)(hg:∀f,obj v=some f->M'[f]?=M[f]?):Pre e sz enc M' v l:=by
 rcases h with h|⟨f,g,a,cs,n,rfl,hm,hc,hl,hn⟩
 .exact .inl h
 .exact .inr ⟨f,g,a,cs,n,rfl,by rw[hg f rfl,hm],hc,hl,hn⟩
section
variable (gl:Nat->AV)
def C2n(l:List Int)(v:AV)(M:Mem)(hv:A1p 3 1 A3U M v l)(hl:l.length<=100000000):A0c (WC gl) 42 [v] M (λr M'=>Pre 3 1 A3U M' r (A2V l)/\A0d (obj v) M M'/\(∀f,obj r=some f->obj v=some f)):=by
 by_cases hne:l=[]
 .subst hne;rcases hv with⟨rfl,-⟩|⟨f,g,c,rfl,hm,i⟩
  .intro G w vs hi hr;simp only[A0s]at hr;obtain⟨x,_,rfl,hx,rfl⟩:=hr;simp only[Rep]at hx;subst hx;refine Z1B (slices_Compact_int_empty none 0 w) ?_;rintro e w' ⟨rfl,rfl⟩;exact⟨_,M,G,_,rfl,⟨.inl ⟨rfl,rfl⟩,.refl _ _,λf h=>by simp at h⟩,.refl _,hi,by simp[Rep],⟨rfl,rfl,rfl,Z0j _⟩⟩
  .intro G w vs hi hr;simp only[A0s]at hr;obtain⟨x,_,rfl,hx,rfl⟩:=hr;obtain⟨p,cap,rfl⟩:=C0N (C:=WC gl) (M:=M) (w:=w) hx;refine Z1B (slices_Compact_int_empty p cap w) ?_;rintro e w' ⟨rfl,rfl⟩;exact⟨.vref f g 1 0 0,M,G,_,rfl,⟨.inr ⟨f,g,c,_,0,rfl,hm,by simp[A2V],i,Z0j _⟩,.refl _ _,λq h=>h⟩,.refl _,hi,hx,⟨rfl,rfl,rfl,Z0j _⟩⟩
 rcases hv with⟨-,h⟩|⟨f,g,c,rfl,hm,i⟩
 .exact absurd h hne
 have s:0<l.length:=Z1G.2 hne
 have d:∀l:List Int,(l.flatMap A3U).length=l.length:=λl=>by
  induction l with
  |nil=>rfl
  |cons a l ih=>simp only[Z0z,Z0k,ih,Z0q];show 1+_=_;omega
 have u:=B4O l
 refine(B8h (P:=λm news=>m=(A2V l).length/\news=(A2V l++List.replicate (l.length-(A2V l).length) 0).flatMap A3U) hm i s ?_).mono ?_
 .intro G w vs b off cap a0 hi hr hb a2 o a1 t;simp only[A0s]at hr;subst hr;rw[Z0e (by rw[d];omega)]at o;have n:=C0Z l _ o;have hH:Go.Sort.Holds (Value.int .i64) w b off l.toArray:=by
   intro j hj;(have hj:j<l.length:=by simpa using hj);constructor
   .simp only[World.cell?,hb];(have h1:((a0.toList.drop off).take (l.length*1))[j]?=(l.map (Value.int .i64))[j]?:=by rw[n]);rw[Z0x,Z0c Q0,Z0C,Z1i,Z0i hj]at h1;rw[Z2Y]at h1;rw[h1];simp[hj]
   .simp[World.frozen?,hb]
  refine Z1B (slices_Compact_int b off cap l w hH Q0 t) ?_;rintro e w' ⟨rfl,k,rfl⟩;rw[B7g];refine⟨_,u,rfl,(A2V l++List.replicate (l.length-(A2V l).length) 0).map (Value.int .i64),_,k,#[],B6B _,?_,?_,⟨rfl,rfl⟩,?_⟩
  .rw[d];simp;omega
  .intro v hv;obtain⟨z,_,rfl⟩:=Z0H.1 hv;rfl
  .rw[B6F];simp only[Go.Sort.grow,Array.append_empty]
 .rintro r M' ⟨m,news,h0,rfl,h1,⟨rfl,rfl⟩,rfl⟩;have y:f<M.length:=(Z0a.1 hm).1;have e:A0e (l.flatMap A3U) 0 ((A2V l++List.replicate (l.length-(A2V l).length) 0).flatMap A3U)=(A2V l++List.replicate (l.length-(A2V l).length) 0).flatMap A3U:=by simp only[A0e,Z2m,Z1v,Z0P];rw[Z1r (by simp only[d,Z0k,List.length_replicate];omega),Z1g]
  rw[e];refine⟨.inr ⟨f,g,A0V 1 g 0 c,(A2V l++List.replicate (l.length-(A2V l).length) 0).flatMap A3U,l.length,rfl,Z2F y,?_,by unfold A0V;exact A2X _ i,u⟩,.set _ _ _,λq h=>h⟩;rw[Z1k,Z3t,Z1A (by rw[d];omega),Z0e (by rw[d];omega)]
end
def D3q(n:Nat)(l:List A0L)(o:Own)(h:o=.no):bdd n (.list 2 (A1M l) o):=by
 subst h;simp only[bdd,Z1z];induction l with
 |nil=>simp[A1M,A4f]
 |cons a l ih=>simp only[A1M,Z0w,A4f]at ih|-;exact⟨by simp[A1y,A1l,bdd],ih⟩
def D2E{M:Mem}{f g n:Nat}{b:List (Nat×Nat)}{cs:List AV}{l:List Int}(hm:M[f]?=some (.vec 3 1 cs g b))(hc:cs.take (l.length*1)=l.flatMap A3U)(hl:b.lookup g=some n)(hn:l.length<=n){i:Nat}(hi:i<l.length):A0M prog 3 M (.vptr f g i)=some (I l[i]):=by
 have h1:(cs.take (n*1)).drop i=I l[i]::(cs.take (n*1)).drop (i+1):=by
  have hg:(cs.take (n*1))[i]?=some (I l[i]):=by
   have h2:(cs.take (l.length*1))[i]?=some (I l[i]):=by
    rw[hc];have e:∀(l:List Int) (i:Nat) (hi:i<l.length),(l.flatMap A3U)[i]?=some (I l[i]):=by
     intro l;induction l with
     |nil=>intro i hi;simp at hi
     |cons a l ih=>
      intro i hi;cases i with
      |zero=>rfl
      |succ i=>simpa[A3U]using ih i (by simpa using hi)
    exact e l i hi
   rw[Z0x,Z0c Q0]at h2|-;exact h2
  obtain⟨c,he⟩:=Z0a.1 hg;rw[Z0o c,he]
 simp only[A0M,A2r,hm,hl,h1,Z2j,A0g]
 simp[A7w]
def Pre.at_{M:Mem}{v:AV}{l:List Int}(h:Pre 3 1 A3U M v l){i:Nat}(hi:i<l.length):∃p,A5O (some (some 1)) v (I i)=some p/\A0M prog 3 M p=some (I l[i]):=by
 rcases h with⟨rfl,rfl⟩|⟨f,g,a,cs,n,rfl,hm,hc,hl,hn⟩
 .simp at hi
 .exact⟨.vptr f g i,by simp[hi],D2E hm hc hl hn hi⟩
def Pre.len{M:Mem}{v:AV}{l:List Int}(h:Pre 3 1 A3U M v l):A2W prog 82 v=some l.length:=by rcases h with⟨rfl,rfl⟩|⟨f,g,a,cs,n,rfl,hm,hc,hl,hn⟩<;>simp
def Pre.lt{M:Mem}{v:AV}{l:List Int}(h:Pre 3 1 A3U M v l){f:Nat}(hf:obj v=some f):f<M.length:=by
 rcases h with⟨rfl,rfl⟩|⟨f,g,a,cs,n,rfl,hm,hc,hl,hn⟩
 .simp at hf
 .simp at hf;subst hf;exact(Z0a.1 hm).1
def C0A(c:Bool->Bool->Bool)(a b:List A0L)(x y:Int):∀l:List Int,A3M c a b (l++[x,y])=A3M c a b (l++[x])++(if c (B0t a x) (B0t b x)=true then[(x,y)]else[])
 |[]=>by simp only[Z1v,A3M]
 |[z]=>by simp only[Z0O,Z1v,A3M];split<;>split<;>rfl
 |z::w::l=>by have ih:=C0A c a b x y (w::l);simp only[Z0O]at ih|-;rw[A3M,A3M,ih];split<;>rfl
section
variable (gl:Nat->AV)
def C5M(l:List A0L)(M:Mem)(hn:l.length<=10000000):A0c (WC gl) 277 [.list 2 (A1M l) .no] M (λv M'=>A1p 124 2 A1y M' v l/\Grow M M'/\A1K M.length v):=by
 refine A0t (hQ [5,7]) func277 ?_;have hz:A1B prog 92 0 [] M=some (.vref M.length 0 2 0 0,M++[.vec 124 2 [] 0 [(0,0)]]):=by simp[A1B,A1e]
 have a:A1p 124 2 A1y (M++[.vec 124 2 [] 0 [(0,0)]]) (.vref M.length 0 2 0 0) []:=.inr ⟨M.length,0,[(0,0)],rfl,Q1,Q1⟩;have key:∀(K:AV->Mem->Prop),(∀v' M',A1p 124 2 A1y M' v' l->Grow M M'->A1K M.length v'->K v' M')->A3s (WC gl) false true 92 92 (.vref M.length 0 2 0 0) (.list 2 (A1M l) .no) (M++[.vec 124 2 [] 0 [(0,0)]]) K ⟨⟩:=by
  intro K hK;refine A3u (C:=WC gl) (enc:=A1y) (e:=124) (sz:=2) (news:=l) C1T C7j C1z (λ_=>rfl) a (by simp[A0D,A1M,List.flatMap_def]) (by simp;omega) rfl ?_;intro v' M' h1 h2 h3 _;refine hK v' M' h1 ⟨by have:=h2.1;simp at this;omega,λi hi _=>by rw[h2.2 i (by simp;omega) (by simp;omega),Z0n hi]⟩ λq hq=>?_;rcases h3 with e|e
  .rw[e]at hq;simp at hq;omega
  .have:=e q hq;simp at this;omega
 cases l with
 |nil=>
  simp only[A1M,Z1O]at key|-;simp -dsimp;rw[A6O (.inl rfl) underlying92];intro b;cases b
  .simp -dsimp[hz];refine key _ ?_;intro v' M' h1 h2 h3;simp -dsimp[h1,h2,h3]
  .simp -dsimp[A1p.nil,A0d.refl,A1K]
 |cons k ks=>simp only[A1M,Z0w]at key|-;simp -dsimp[hz];refine key _ ?_;intro v' M' h1 h2 h3;simp -dsimp[h1,h2,h3]
def D1w{a b:List A0L}(ha:A5U a)(hb:A5U b):((a++b).flatMap λx=>[x.1,x.2]).length<=4194312:=by
 have e:∀l:List A0L,(l.flatMap λx=>[x.1,x.2]).length=l.length*2:=λl=>by
  induction l with
  |nil=>rfl
  |cons a l ih=>simp only[Z0z,Z0k,ih,Z0q];show 2+_=_;omega
 rw[e,Z0k];have:=A4N ha;have:=A4N hb;omega
set_option maxHeartbeats 1000000 in
def C7z(c:Bool->Bool->Bool)(g:FuncId)(hc:∀x y M,A3E (WC gl) g [B x,B y] M (λv M'=>v=B (c x y)/\M'=M))(a b:List A0L)(va vb:AV)(b4:SpV va a)(b7:SpV vb b)(M:Mem)(ha:Asc a)(hb:Asc b)(b5:a.length<=10000000)(ba:b.length<=10000000):
 A0c (WC gl) 250 [va,vb,.func (.func g) [] []] M (λv M'=>v=.list 2 (A1M (C0t c a b)) .no/\M'=M):=by
 refine A2e (λn=>D3q n _ _ rfl) ?_
 have w:=A8n ha
 have a1:=A8n hb
 have ag:=λM=>B1p gl b4 M ha b5
 have aw:=λM=>B1p gl b7 M hb ba
 obtain⟨A,hA⟩:=ex (A4a a)
 obtain⟨D,hD⟩:=ex (A4a b)
 rw[<-hA]at w ag
 rw[<-hD]at a1 aw
 have b1:C0t c a b=A4a (A3M c A D (C2O A D)):=by rw[C0t,hA,hD]
 rw[b1]
 have bf:=A4N w
 have be:=A4N a1
 obtain⟨L,hL⟩:=ex (A++D)
 have bh:L.length<=1048578:=by rw[hL,Z0k];omega
 obtain⟨cs,a4⟩:=ex (L.flatMap λx=>[x.1,x.2])
 have bl:cs.length<=4194312:=by rw[a4,hL];exact D1w w a1
 obtain⟨C,hC⟩:=ex (A2V (A7b cs))
 have b3:C2O A D=C:=by rw[hC,a4,hL];rfl
 rw[b3]
 have bk:C.length<=4194312:=by rw[hC];have:=B4O (A7b cs);have:=(A3h cs).length_eq;omega
 have a7:=B7J (A7u cs)
 rw[<-hC]at a7
 have au:=B2T c A D C a7.1
 have bj:=B8P c A D C
 have b8:∀z∈C,0<=z:=λz hz=>by
  have h1:=(A3h cs).mem_iff.1 (a7.2 z hz);rw[a4,hL]at h1;obtain⟨x,hx,hz⟩:=Z1Y.1 h1;have bc:0<=x.1/\x.1<x.2:=by
   rcases Z0T.1 hx with h|h
   .exact⟨(w.1 x h).1,(w.1 x h).2.1⟩
   .exact⟨(a1.1 x h).1,(a1.1 x h).2.1⟩
  simp only[Z0r,Z1F,Z2K]at hz;rcases hz with rfl|rfl<;>omega
 have am:Asc (A3M c A D C):=C6N (λx hx=>b8 _ (au.2 x hx)) au.1
 refine A0t (hQ [20,32,65]) func250 ?_
 simp -dsimp
 refine A0h func60 (ag M) ?_
 simp -dsimp
 refine A0h func60 (aw M) ?_
 simp -dsimp
 refine A4b func277 (C5M gl A M Q0) ?_
 rintro v1 M1 ⟨ad,a0,a6⟩
 simp -dsimp
 refine A3u (C:=WC gl) (enc:=A1y) (e:=124) (sz:=2) (news:=D) C1T C7j C1z (λ_=>rfl) ad (by simp[A0D,A1M,List.flatMap_def]) Q0 rfl ?_
 intro v2 M2 m an ah _
 have ab:Arr 124 2 A1y M.length M1 v1 A:=⟨ad,a6⟩
 have aq:=ab.grow a0 an
 have bb:=ab.later a0.1 ah
 rw[<-hL]at m
 have af:A2W prog 92 v2=some L.length:=m.len (e':=124) Q1
 clear ab ad a6 a0 an ah
 simp -dsimp[af]
 refine A1E (hQ [20,32,65]) L.length 22 (λT Mi=>∃i:Nat,i<=L.length/\T 0=.list 2 (A1M A) .no/\T 1=.list 2 (A1M D) .no/\T 2=.func (.func g) [] []/\T 20=v2/\T 21=I L.length/\T 22=I i/\Arr 3 1 A3U M.length Mi (T 7) ((L.take i).flatMap λx=>[x.1,x.2])/\A1p 124 2 A1y Mi v2 L/\Grow M Mi/\∀f,obj v2=some f->obj (T 7)≠some f) ?_ ?_
 .exact⟨0,Q0,Q1,Q1,Q1,Q1,Q1,Q1,by simpa using Arr.nil,m,aq,λf _=>by simp⟩
 clear m aq
 rintro T Mi ⟨i,i1,t0,t1,t2,t20,t21,t22,h7,m,hg,s⟩
 generalize ae:T 7=v7 at*
 by_cases hi:i<L.length
 case pos=>
  have o:(i:Int)<L.length:=Q0;obtain⟨x,hx⟩:=ex (L[i]);obtain⟨p,p1,_,p3,_⟩:=m.at_ (P:=prog) (t:=124) (λ_=>rfl) Q1 Q1 hi;rw[<-hx]at p3;simp only[A1y]at p3;obtain⟨b0,ar⟩:=ex (Mi.length);obtain⟨M4,aa⟩:=ex (Mi++[A0l.cells 124 [I x.1,I x.2]]);have b9:M4[b0]?=some (A0l.cells 124 [I x.1,I x.2]):=by rw[aa,ar];simp
  have a3:Grow Mi M4:=by rw[aa];exact A0d.app none _ _
  have a8:=h7.keep a3;have a5:=m.keep a3 Q1;have bm:((L.take i).flatMap λx=>[x.1,x.2]).length<=4194312:=by
   have e:∀l:List A0L,(l.flatMap λx=>[x.1,x.2]).length=l.length*2:=λl=>by
    induction l with
    |nil=>rfl
    |cons a l ih=>simp only[Z0z,Z0k,ih,Z0q];show 2+_=_;omega
   rw[e,Z0s];omega
  have b6:(L.take (i+1)).flatMap (λx=>[x.1,x.2])=((L.take i).flatMap λx=>[x.1,x.2])++[x.1,x.2]:=by rw[Z0A,Z0i hi,<-hx];simp
  have w1:=A6s (i:=i) Q0;simp -dsimp[t0,t1,t2,t20,t21,t22,o,p1,p3,A0j,A0k,A0e,A0o,A0n];rw[<-aa,<-ar];simp -dsimp[t0,t1,t2,t20,t21,t22,ae,A0b b9,A0w,A1e];refine A3u (C:=WC gl) (enc:=A3U) (e:=3) (sz:=1) (news:=[x.1,x.2]) B2w C0a C8K (λ_=>rfl) a8.own (by simp[A0D,A3U]) (by simp only[Z0q,Z1n];omega) rfl ?_;intro v' M5 q1 q2 q3 _;simp -dsimp[t0,t1,t2,t20,t21,t22,w1];refine⟨⟨i+1,Q3,rfl,by rw[b6];exact⟨q1,a8.later (hg.trans a3).1 q3⟩,a5.keep q2 (λf hf=>λe=>s f hf e),a8.grow (hg.trans a3) q2,λf hf e=>?_⟩,Q3⟩;rcases q3 with q3|q3
  .exact s f hf (q3▸e)
  .have:=q3 f e;have:=a5.lt hf;omega
 have o:¬(i:Int)<L.length:=Q0
 rw[Z0e Q0,<-a4]at h7
 clear s m
 simp -dsimp[t0,t1,t2,t20,t21,t22,o,ae]
 refine A4b func41 (C3W gl cs v7 Mi h7.own Q0) ?_
 rintro r3 M3 ⟨a9,al⟩
 have ao:=h7.grow hg al
 have av:Arr 3 1 A3U M.length M3 v7 (A7b cs):=⟨a9,h7.lat⟩
 simp -dsimp[t0,t1,t2,ae]
 refine A4b func42 (C2n gl (A7b cs) v7 M3 a9 (by rw[(A3h cs).length_eq];omega)) ?_
 rintro r M5 ⟨hr,ai,bi⟩
 rw[<-hC]at hr
 have ay:=av.grow ao ai
 clear av a9 al ai h7 hg ao t20 t21 t22
 simp -dsimp[t0,t1,t2]
 refine B2C (.exit 2) (λT Mi=>Arr 124 2 A1y M.length Mi (T 10) (A3M c A D C)/\Grow M Mi) ?_ ?_
 .refine A0K (hQ [20,32,65]) (λT Mi=>∃i:Nat,1<=i/\i<=max C.length 1/\T 0=.list 2 (A1M A) .no/\T 1=.list 2 (A1M D) .no/\T 2=.func (.func g) [] []/\T 7=r/\T 11=I i/\
   Arr 124 2 A1y M.length Mi (T 10) (A3M c A D (C.take i))/\Pre 3 1 A3U Mi r C/\Grow M Mi/\∀f,obj r=some f->obj (T 10)≠some f)
   (λT M1=>match T 11 with|.val (.int _ i)=>C.length+1-i.toNat|_=>0) Q2 ?_ ?_
  ·(have e1:A3M c A D (C.take 1)=[]:=by cases C<;>simp[A3M]);exact⟨1,Q0,Q0,by simp[t0],by simp[t1],by simp[t2],Q1,Q1,by rw[e1];simpa using Arr.nil,hr,ay,λf _=>by simp⟩
  clear hr ay t0 t1 t2;rintro T Mi ⟨i,i0,i1,t0,t1,t2,t7,d,k,hr,hg,s⟩;generalize u:T 10=bd at*;have ac:=hr.len;by_cases hi:i<C.length;case neg=>have o:¬(i:Int)<C.length:=Q0;rw[Z0e Q0]at k;simp -dsimp[t0,t1,t2,t7,d,ac,o,u];exact⟨k,hg⟩
  have o:(i:Int)<C.length:=Q0;obtain⟨j,hj⟩:=ex (i-1);have aj:j<C.length:=Q0;obtain⟨x,hx⟩:=ex (C[j]);obtain⟨y,hy⟩:=ex (C[i]);obtain⟨p,p1,p2⟩:=hr.at_ aj;obtain⟨q,q1,q2⟩:=hr.at_ hi;rw[<-hx]at p2;rw[<-hy]at q2;have ap:C.take i=C.take j++[x]:=by rw[show i=j+1 by omega,Z0A,Z0i aj,<-hx];rfl
  have ak:C.take (i+1)=C.take j++[x,y]:=by rw[Z0A,Z0i hi,<-hy,ap];simp
  have a2:A3M c A D (C.take (i+1))=A3M c A D (C.take i)++(if c (B0t A x) (B0t D x)=true then[(x,y)]else[]):=by rw[ak,ap];exact C0A c A D x y _
  have ax:=B8P c A D (C.take i);have w0:IntKind.i64.wrap ((i:Int)-1)=(j:Nat):=by rw[A0R Q0 Q0];omega
  have w1:=A6s (i:=i) Q0;simp -dsimp[t0,t1,t2,t7,d,ac,o,w0,p1,p2];refine A0h func59 (C5I gl A .no x Mi Q0) ?_;simp -dsimp[t0,t1,t2,t7,d];refine A0h func59 (C5I gl D .no x Mi Q0) ?_;simp -dsimp[t0,t1,t2,t7,d];refine A0v (hc _ _ Mi) ?_;rintro _ Mi ⟨rfl,rfl⟩;simp -dsimp[t0,t1,t2,t7,d];clear hc;have az:1<=i:=i0;cases h:c (B0t A x) (B0t D x);case false=>rw[Z0d (by rw[h];simp),Z1g]at a2;simp -dsimp[h,t0,t1,t2,t7,d,u,w1];exact⟨⟨i+1,by clear w0 w1;omega,by clear w0 w1;omega,rfl,by rw[a2];exact k,hr,hg,s⟩,by clear w0 w1;omega⟩
  rw[Z0c h]at a2;have b2:A0A prog 124 [(0,I x),(1,I y)]=some (.agg [I x,I y]):=Q2;simp -dsimp[h,t0,t1,t2,t7,d,u,w0,ac,p1,p2,q1,q2];rw[b2];simp -dsimp[t0,t1,t2,t7,d,u,A0w,A1e];have bg:(A3M c A D (C.take i)).length<=i:=by have:=ax;rw[Z0s]at this;omega
  refine A3u (C:=WC gl) (enc:=A1y) (e:=124) (sz:=2) (news:=[(x,y)]) C1T C7j C1z (λ_=>rfl) k.own (by simp[A0D,A1y]) (by simp only[Z0q,Z1n];omega) rfl ?_;intro v' M5 u1 u2 u3 _;rw[<-a2]at u1;simp -dsimp[t0,t1,t2,t7,d,w1];refine⟨⟨i+1,by clear w0 w1;omega,by clear w0 w1;omega,rfl,⟨u1,k.later hg.1 u3⟩,hr.keep (λf hf=>u2.2 f (hr.lt hf) (λe=>s f hf e)),k.grow hg u2,λf hf e=>?_⟩,by clear w0 w1;omega⟩;rcases u3 with u3|u3
  .exact s f hf (u3▸e)
  .have:=u3 f e;have:=hr.lt hf;omega
 rintro T Mi ⟨k,hg⟩
 refine⟨M.length,T.put (some 10) (.list 2 (A1M (A3M c A D C)) .no),A6v (A6J T) (Still.rows (λ_=>rfl) (λ_ _ _=>trivial) k.own k.lat .nil),?_⟩
 have a0:=A4T hg
 generalize A3i Mi M.length=M2 at*
 simp -dsimp[Env.put_some]
 refine A0h func60 (D5V gl (A3M c A D C) .no M2 am Q0) ?_
 simp -dsimp[a0]
end
def C2L{A D:List A0L}(a:A5U A)(c:A5U D):(∀z∈C2O A D,0<=z)/\(C2O A D).Pairwise (·<·):=by
 have b:=B7J (A7u ((A++D).flatMap λx=>[x.1,x.2]));refine⟨λz hz=>?_,b.1⟩;have h1:=(A3h _).mem_iff.1 (b.2 z hz);obtain⟨x,hx,hz⟩:=Z1Y.1 h1;have d:0<=x.1/\x.1<x.2:=by
  rcases Z0T.1 hx with h|h
  .exact⟨(a.1 x h).1,(a.1 x h).2.1⟩
  .exact⟨(c.1 x h).1,(c.1 x h).2.1⟩
 simp only[Z0r,Z1F,Z2K]at hz;rcases hz with rfl|rfl<;>omega
def B9K(c:Bool->Bool->Bool){a b:List A0L}(ha:Asc a)(hb:Asc b):A5U (C0t c a b):=by have hz:=C2L (A8n ha) (A8n hb);have d:=B2T c (A4a a) (A4a b) _ hz.2;exact A8n (C6N (λx hx=>hz.1 _ (d.2 x hx)) d.1)
def C1u:Asc []:=by simp[Asc,A6U]
def B2y{l:List A0L}(h:Asc l)(d:Int):A5U (B4l l d):=B9K _ h (B6q _)
def B8q{l:List A0L}(h:Asc l)(d:Int):A5U (C3f l d):=B9K _ (B2y h d).asc' (B6q _)
section
variable (gl:Nat->AV)
def D7h(x y:Bool)(M:Mem):A3E (WC gl) 251 [B x,B y] M (λv M'=>v=B (x||y)/\M'=M):=by refine A0m func251 rfl rfl ?_;refine A0t (hQ []) func251 ?_;cases x<;>cases y<;>simp -dsimp
def D5Y(x y:Bool)(M:Mem):A3E (WC gl) 252 [B x,B y] M (λv M'=>v=B (x&&y)/\M'=M):=by refine A0m func252 rfl rfl ?_;refine A0t (hQ []) func252 ?_;cases x<;>cases y<;>simp -dsimp
def D1L(a b:List A0L)(va vb:AV)(e:SpV va a)(d:SpV vb b)(M:Mem)(ha:Asc a)(hb:Asc b)(c:a.length<=10000000)(f:b.length<=10000000):A0c (WC gl) 193 [va,vb] M (λv M'=>v=.list 2 (A1M (C4Q a b)) .no/\M'=M):=by
 refine A0t (hQ [20,32,65]) func193 ?_
 simp -dsimp
 refine A0h func250 (C7z gl _ 251 (D7h gl) a b va vb e d M ha hb c f) ?_
 simp -dsimp[C4Q]
def D2X(a b:List A0L)(va vb:AV)(e:SpV va a)(d:SpV vb b)(M:Mem)(ha:Asc a)(hb:Asc b)(c:a.length<=10000000)(f:b.length<=10000000):A0c (WC gl) 196 [va,vb] M (λv M'=>v=.list 2 (A1M (C6r a b)) .no/\M'=M):=by
 refine A0t (hQ [20,32,65]) func196 ?_
 simp -dsimp
 refine A0h func250 (C7z gl _ 252 (D5Y gl) a b va vb e d M ha hb c f) ?_
 simp -dsimp[C6r]
def C4l(a:List A0L)(va:AV)(e:SpV va a)(d:Int)(M:Mem)(ha:Asc a)(b:a.length<=10000000):A0c (WC gl) 124 [va,I d] M (λv M'=>v=.list 2 (A1M (B4l a d)) .no/\M'=M):=by
 have c:A0A prog 124 [(0,I 0),(1,I d)]=some (.agg [I 0,I d]):=Q2
 have h1:=D2X gl a [(0,d)] va _ e (SpV.of .full) M ha (B6q _) b Q1
 refine A0t (hQ [20,32,65]) func124 ?_
 simp -dsimp
 try rw[c]
 simp -dsimp[A0w,A1e]
 refine A0h func196 h1 ?_
 simp -dsimp[B4l]
def D0T(a:List A0L)(va:AV)(e:SpV va a)(d:Int)(M:Mem)(ha:Asc a)(b:a.length<=10000000):A0c (WC gl) 122 [va,I d] M (λv M'=>v=.list 2 (A1M (C3f a d)) .no/\M'=M):=by
 have c:A0A prog 124 [(0,I d),(1,I A3n)]=some (.agg [I d,I A3n]):=Q2
 have hn:=B2y ha d
 have h1:=D1L gl (B4l a d) [(d,A3n)] _ _ (SpV.of .no) (SpV.of .full) M hn.asc' (B6q _) (by have:=A4N hn;omega) Q1
 refine A0t (hQ [20,32,65]) func122 ?_
 simp -dsimp
 refine A0h func124 (C4l gl a va e d M ha b) ?_
 simp -dsimp
 try rw[c]
 simp -dsimp[A0w,A1e]
 refine A0h func193 h1 ?_
 simp -dsimp[C3f]
def D4n(n:Nat)(l:List Int):bdd n (.list 1 (A4P l) .no):=by
 simp only[bdd,Z1z];induction l with
 |nil=>simp[A4P,A4f]
 |cons a l ih=>simp only[A4P,Z0w,A4f]at ih|-;exact⟨by simp[A1l,bdd],ih⟩
def B0v(x:A0L):List Int:=if x.2<A3n then[x.1,x.2]else[x.1]
def C7h(l:List A0L):(l.flatMap B0v).length<=l.length*2:=by
 induction l with
 |nil=>simp
 |cons a l ih=>simp only[Z0z,Z0k,Z0q];(have:(B0v a).length<=2:=by(simp only[B0v];split<;>simp));omega
set_option maxHeartbeats 1000000 in
def C9V(l:List A0L)(va:AV)(y:SpV va l)(M:Mem)(ha:Asc l)(hl:l.length<=10000000):A0c (WC gl) 40 [va] M (λv M'=>v=.list 1 (A4P (A6h l)) .no/\M'=M):=by
 refine A2e (λn=>D4n n _) ?_;have hn:=A8n ha;have h1:=B1p gl y M ha hl;have u:A6h l=(A4a l).flatMap B0v:=rfl;rw[u];generalize A4a l=L at*;have hL:=A4N hn;refine A0t (hQ [17,25]) func40 ?_;simp -dsimp;refine A0h func60 h1 ?_;simp -dsimp;refine B2C (.exit 0) (λT Mi=>Arr 3 1 A3U M.length Mi (T 3) (L.flatMap B0v)/\Grow M Mi) ?_ ?_
 .refine A1E (hQ [17,25]) L.length 9 (λT Mi=>∃i:Nat,i<=L.length/\T 7=.list 2 (A1M L) .no/\T 8=I L.length/\T 9=I i/\Arr 3 1 A3U M.length Mi (T 3) ((L.take i).flatMap B0v)/\Grow M Mi) ?_ ?_
  .exact⟨0,Q0,Q1,Q1,Q1,by simpa using Arr.nil,A0d.refl _ _⟩
  rintro T Mi ⟨i,i1,t7,t8,t9,h3,hg⟩;generalize o:T 3=v3 at*;by_cases hi:i<L.length;case neg=>have g:¬(i:Int)<L.length:=Q0;rw[Z0e Q0]at h3;simp -dsimp[t7,t8,t9,g,o];exact⟨h3,hg⟩
  have g:(i:Int)<L.length:=Q0;have w1:=A6s (i:=i) Q0;obtain⟨x,hx⟩:=ex (L[i]);have s:=B7X hi;rw[<-hx]at s;have a:(L.take (i+1)).flatMap B0v=((L.take i).flatMap B0v)++B0v x:=by rw[Z0A,Z0i hi,<-hx];simp
  have t:=C7h (L.take i);rw[Z0s]at t;obtain⟨b0,j⟩:=ex (Mi.length);obtain⟨M4,b⟩:=ex (Mi++[A0l.cells 124 [I x.1,I x.2]]);have r:M4[b0]?=some (A0l.cells 124 [I x.1,I x.2]):=by rw[b,j];simp
  have f:Grow Mi M4:=by rw[b];exact A0d.app none _ _
  have k:=h3.keep f;simp -dsimp[t7,t8,t9,hi,g,s,A0j,A0k,A0e,A0o,A0n];rw[<-hx,<-b,<-j];simp -dsimp[t7,t8,t9,o,A0b r,A0w,A1e];refine A3u (C:=WC gl) (enc:=A3U) (e:=3) (sz:=1) (news:=[x.1]) B2w C0a C8K (λ_=>rfl) k.own (by simp[A0D,A3U]) (by simp only[Z0q,Z1n];omega) rfl ?_;intro v' M5 u1 u2 u3 _;have c:Arr 3 1 A3U M.length M5 v' ((L.take i).flatMap B0v++[x.1]):=⟨u1,k.later (hg.trans f).1 u3⟩;have m:=k.grow (hg.trans f) u2;have a1:obj v3≠some b0:=λe=>by have:=h3.own.lt e;omega
  have q:M5[b0]?=some (A0l.cells 124 [I x.1,I x.2]):=by rw[u2.2 b0 (by rw[b,j];simp) a1];exact r
  by_cases hf:x.2<1048577;case neg=>
   (have d:B0v x=[x.1]:=by simp only[B0v,A3n];rw[Z0d hf]);rw[d]at a
   simp -dsimp[t7,t8,t9,A0b q,hf,w1];exact⟨⟨i+1,Q3,rfl,by rw[a];exact c,m⟩,Q3⟩
  have d:B0v x=[x.1,x.2]:=by simp only[B0v,A3n];rw[Z0c hf]
  rw[d]at a;simp -dsimp[t7,t8,t9,A0b q,hf,A0w,A1e];refine A3u (C:=WC gl) (enc:=A3U) (e:=3) (sz:=1) (news:=[x.2]) B2w C0a C8K (λ_=>rfl) c.own (by simp[A0D,A3U]) (by simp only[Z0k,Z0q,Z1n];omega) rfl ?_;intro a0 M6 y1 y2 y3 _;have z:Arr 3 1 A3U M.length M6 a0 (((L.take i).flatMap B0v++[x.1])++[x.2]):=⟨y1,c.later m.1 y3⟩;simp -dsimp[t7,t8,t9,w1];exact⟨⟨i+1,Q3,rfl,by rw[a];simpa using z,c.grow m y2⟩,Q3⟩
 rintro T Mi ⟨p,hg⟩;refine⟨M.length,T.put (some 3) (.list 1 (A4P (L.flatMap B0v)) .no),A6v (A6J T) (Still.rows (λ_=>rfl) (λ_ _ _=>trivial) p.own p.lat .nil),?_⟩;have w:=A4T hg;generalize A3i Mi M.length=M2 at*;simp -dsimp[Env.put_some,w]
end
def A0G.row_all(x:A0G):x.row=[I x.h.kind,.list 2 (A0P x.h.at_) .no,.list 2 (A0P x.h.to) .no,I x.h.where_,I x.h.nth,I x.h.unit.id.act,I x.h.unit.id.item,I x.h.unit.id.n,I x.h.unit.kind,S x.h.unit.label,.list 4 (A0i x.h.unit.head) .no,.list 4 (A0i x.h.unit.words) .no,.list 8 (A0q x.h.unit.kids) .no,.list 1 (A0J x.h.old) .no,.list 1 (A0J x.h.new) .no,S x.h.lab,S x.h.for_,I x.h.start.k,I x.h.start.day,S x.h.start.ev,I x.h.act,I x.h.item,I x.h.day,S x.h.ev,.list 25 (A1r x.by_) .no]:=by rw[A0G.row_eq];rfl
def EnD.row_all(d:EnD):d.row=[I d.act,I d.item,I d.day,I d.it.h.kind,.list 2 (A0P d.it.h.at_) .no,.list 2 (A0P d.it.h.to) .no,I d.it.h.where_,I d.it.h.nth,I d.it.h.unit.id.act,I d.it.h.unit.id.item,I d.it.h.unit.id.n,I d.it.h.unit.kind,S d.it.h.unit.label,.list 4 (A0i d.it.h.unit.head) .no,.list 4 (A0i d.it.h.unit.words) .no,.list 8 (A0q d.it.h.unit.kids) .no,.list 1 (A0J d.it.h.old) .no,.list 1 (A0J d.it.h.new) .no,S d.it.h.lab,S d.it.h.for_,I d.it.h.start.k,I d.it.h.start.day,S d.it.h.start.ev,I d.it.h.act,I d.it.h.item,I d.it.h.day,S d.it.h.ev,.list 25 (A1r d.it.by_) .no]:=by rw[EnD.row,A0G.row_all]
def A8h{l:List EnD}{i:Nat}(hi:i<l.length):(A3Q l)[i]?=some l[i].row:=by simp[A3Q,hi]
@[simp] def D8R{p:List EnD}{i:Nat}(h:i<(A3Q p).length):(A3Q p)[i]=(p[i]'(by simpa using h)).row:=by simp[A3Q]
@[simp] def EnD.row_take(d:EnD):List.take 28 d.row=d.row:=Z0e Q1
def C1E(p:EnD->Bool):List EnD->Nat->Int
 |[],_=>-1
 |d::l,i=>if p d=true then i else C1E p l (i+1)
def B9H(p:EnD->Bool):∀(l:List EnD) (i:Nat),(l.find? p=none/\C1E p l i=-1)\/∃j,∃h:j<l.length,l.find? p=some l[j]/\C1E p l i=((i+j:Nat):Int)
 |[],_=>.inl ⟨rfl,rfl⟩
 |d::l,i=>by
  rw[C1E];by_cases h:p d=true
  .exact .inr ⟨0,Q1,by simp[h],by simp[h]⟩
  .rw[Z0d h];rcases B9H p l (i+1)with⟨h1,h2⟩|⟨j,hj,h1,h2⟩
   .exact .inl ⟨by simp[h,h1],h2⟩
   .exact .inr ⟨j+1,by simp;omega,by simp[h,h1],by rw[h2];congr 1;omega⟩
section
variable (gl:Nat->AV)
def D5R(p:EnD->Bool)(g:FuncId)(cap:List AV)(l:List EnD)(o:Own)(M:Mem)(hl:l.length<=10000000)(hp:∀u∈l,A3E (WC gl) g (.agg u.row::cap) M (λv M'=>v=B (p u)/\M'=M)):
 A0c (WC gl) 194 [.list 28 (A3Q l) o,.func (.func g) [] cap] M (λv M'=>v=I (C1E p l 0)/\M'=M):=by
 refine A0t hB func194 ?_
 simp -dsimp
 refine A1E hB l.length 8 (λT M1=>∃i:Nat,i<=l.length/\M1=M/\T 0=.list 28 (A3Q l) o/\T 1=.func (.func g) [] cap/\T 7=I l.length/\T 8=I i/\C1E p l 0=C1E p (l.drop i) i) ?_ ?_
 .exact⟨0,Q0,rfl,Q1,Q1,Q1,Q1,Q1⟩
 .rintro T M1 ⟨i,i1,rfl,t0,t1,t7,t8,ho⟩;by_cases hi:i<l.length
  .have a:(i:Int)<l.length:=Q0;have w1:=A6s (i:=i) Q0;have hd:l.drop i=l[i]::l.drop (i+1):=Z0o hi;rw[hd,C1E]at ho;simp -dsimp[t0,t1,t7,t8,hi,a,A8h hi];refine A0v (hp l[i] (Z0u hi)) ?_;rintro _ _ ⟨rfl,rfl⟩;cases hq:p l[i]
   .rw[hq,Z0d Q1]at ho;simp -dsimp[t0,t1,t7,t8,w1];exact⟨⟨i+1,Q3,rfl,ho⟩,Q3⟩
   .rw[hq,Z0c rfl]at ho;simp -dsimp[t0,t1,t7,t8,ho]
  .have a:¬(i:Int)<l.length:=Q0;rw[Z1r Q0,C1E]at ho;simp -dsimp[t0,t1,t7,t8,a,ho]
def C8E(nm:ByteArray)(d:EnD):Bool:=decide (d.kind=10)&&decide (d.it.h.ev=nm)
def D4e(nm:ByteArray)(d:EnD)(M:Mem):A3E (WC gl) 195 [.agg d.row,.cptr [S nm]] M (λv M'=>v=B (C8E nm d)/\M'=M):=by
 refine A0m func195 rfl rfl ?_;refine A0t hB func195 ?_;rw[EnD.row_all];by_cases h:d.it.h.kind=10
 .simp -dsimp[C8E,h]
 .simp -dsimp[C8E,h]
def C9G(nm:ByteArray)(l:List EnD):B2s nm l=(l.find? (C8E nm)).map λd=>d.it.h.day:=rfl
def D1D(nm:ByteArray)(l:List EnD)(o:Own)(M:Mem)(hl:l.length<=10000000):A0c (WC gl) 123 [S nm,.list 28 (A3Q l) o] M (λv M'=>v=.tuple [I ((B2s nm l).getD 0),B (B2s nm l).isSome]/\M'=M):=by
 have hc:=D5R gl (C8E nm) 195 [.cptr [S nm]] l o M hl (λu _=>D4e gl nm u M);rw[C9G];refine A0t hB func123 ?_;simp -dsimp;refine A0h func194 hc ?_;rcases B9H (C8E nm) l 0 with⟨h1,h2⟩|⟨j,hj,h1,h2⟩
 .rw[h1,h2];simp -dsimp
 .rw[h1,h2];simp -dsimp[hj,A8h hj,EnD.row_all]
@[simp] def A1z.row_len(s:A1z):s.row.length=3:=(rfl)
@[simp] def A1z.row_take(s:A1z):List.take 3 s.row=s.row:=(rfl)
def SpN(v:AV)(l:List A0L):Prop:=v=.list 2 (A1M l) .no\/(v=.val (.slice none 0 0)/\l=[])
def SpN.toV{v:AV}{l:List A0L}(h:SpN v l):SpV v l:=by
 rcases h with rfl|⟨rfl,rfl⟩
 .exact .of _
 .exact .nil
def SpN.bdd{v:AV}{l:List A0L}(h:SpN v l)(n:Nat):bdd n v:=by
 rcases h with rfl|⟨rfl,rfl⟩
 .exact D3q n _ _ rfl
 .trivial
def D3y(a s:A1z)(M:Mem):A0c (WC gl) 81 [.agg a.row,.agg s.row] M (λv M'=>v=.agg (B1f a s).row/\M'=M):=by
 refine A0c.dataX ?_;refine A0t hB func81 ?_;by_cases h:s.k=0
 .simp -dsimp[A1z.row,B1f,h,A0j,A0k,A0e,A0o,A0n];simp -dsimp[A2r,A0y];refine⟨A0d.app none _ _,?_⟩;rw[show B1f a s=a by simp[B1f,h],A1z.row];exact Still.refl λc hc=>by simp only[Z0R]at hc;subst hc;simp[bdd,A1l]
 .simp -dsimp[A1z.row,B1f,h,A0j,A0k,A0e,A0o,A0n];simp -dsimp[A2r,A0y];refine⟨A0d.app none _ _,?_⟩;rw[show B1f a s=s by simp[B1f,h],A1z.row];exact Still.refl λc hc=>by simp only[Z0R]at hc;subst hc;simp[bdd,A1l]
def B0o(s:A1z)(l:List EnD):Bool:=!decide (s.k=1)&&!(decide (s.k=3)&&(B2s s.ev l).isSome)
def C8R{s:A1z}{l:List EnD}(h:B0o s l=true):B0w s l=[]:=by
 simp only[B0o,Z0h,Z2N,decide_eq_false_iff_not]at h;obtain⟨h1,h2⟩:=h;rw[B0w,Z0d h1];split
 .rename_i h3;cases he:B2s s.ev l with
  |none=>rfl
  |some d=>simp[h3,he]at h2
 .rfl
def D5T(s:A1z)(l:List EnD)(o:Own)(M:Mem)(hl:l.length<=10000000):A0c (WC gl) 80 [.agg s.row,.list 28 (A3Q l) o] M (λv M'=>v=(if B0o s l=true then .val (.slice none 0 0)else .list 2 (A1M (B0w s l)) .no)/\M'=M):=by
 have hx:=λd M=>D0T gl [] _ .nil d M C1u Q1;refine A0t hB func80 ?_;rw[A1z.row];by_cases h1:s.k=1
 .have e:B0w s l=C3f [] s.day:=by rw[B0w,Z0c h1]
  have e2:B0o s l=false:=by simp[B0o,h1]
  rw[e,e2];simp -dsimp[h1];refine A0h func122 (hx _ _) ?_;simp -dsimp
 by_cases h3:s.k=3
 .simp -dsimp[h1,h3];refine A0h func123 (D1D gl s.ev l o M hl) ?_;cases h:B2s s.ev l with
  |none=>
   (have e2:B0o s l=true:=by simp[B0o,h1,h]);rw[e2]
   simp -dsimp
  |some d=>
   (have e:B0w s l=C3f [] d:=by rw[B0w,Z0d h1,Z0c h3,h]);have e2:B0o s l=false:=by simp[B0o,h3,h]
   rw[e,e2];simp -dsimp;refine A0h func122 (hx _ _) ?_;simp -dsimp
 .have e2:B0o s l=true:=by simp[B0o,h1,h3]
  rw[e2];simp -dsimp[h1,h3]
end
end Go.Abs
