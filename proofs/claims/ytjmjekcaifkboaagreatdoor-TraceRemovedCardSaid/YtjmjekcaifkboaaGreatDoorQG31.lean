/- The texts EgD, EgQ, EgE, EgF, EgG, EgH, EgI, EgJ, EgK, EgL, EgM, EgSa, EgSb, EgSc, EgSd, EgSe, EgSf, EgR, EgT. -/
import Derived.Test.YtjmjekcaifkboaaGreatDoorQG25
import Derived.Test.YtjmjekcaifkboaaGreatDoorQG16
import Derived.Test.YtjmjekcaifkboaaGreatDoorQG17
import Derived.Test.YtjmjekcaifkboaaGreatDoorQG20
import Derived.Test.YtjmjekcaifkboaaGreatDoorQG23
import Derived.Shelf.SlSortCmp.NoneTotal
import Derived.Shelf.Slices.In.SortNone
import Derived.RowKit
import Derived.Test.YtjmjekcaifkboaaGreatDoorQG24
import Derived.Test.YtjmjekcaifkboaaGreatDoorQG02
import Derived.Test.YtjmjekcaifkboaaGreatDoorQG29
import Derived.Test.YtjmjekcaifkboaaGreatDoorQG14
set_option linter.all false
section
set_option maxRecDepth 100000
namespace Go.Proofs
open Go.Shelf Go.RowKit Go.Lib Go.Sort
def Tryz.encSp(x:Int×Int):List Value:=[.int .i64 x.1,.int .i64 x.2]
set_option maxHeartbeats 1000000 in
def Tryz.closure87(x y:Int×Int)(W:World):Calls Tryz.prog 88 #[.agg #[.int .i64 x.1,.int .i64 x.2],.agg #[.int .i64 y.1,.int .i64 y.2]] W λe w'=>e=.returned (.int .i64 (Lib.compareInt x.1 y.1))/\∃q os',w'=grow (W.drewN q) os':=by
 have a:=λW'=>AnyG.cmp_Compare_int Tryz.cmpInt x.1 y.1 W';change∀W',Calls Tryz.prog 78 _ _ _ at a;generalize Lib.compareInt x.1 y.1=r at a|-
 go_enter Tryz.func88,Tryz.ntmps88
 go_wp2_with (go_at_call 78;refine(a _).mono ?_;rintro e w' ⟨rfl,rfl⟩)
 go_ret
 exact⟨rfl,0,_,by rw[alloc_eq_grow,alloc_eq_grow,grow_grow];rfl⟩
end Go.Proofs
namespace Go.Abs
open Go.Proofs TryTypes
def C9w(l:List A0L):(Go.Sort.flatK Tryz.encSp 2 l.toArray)=(l.flatMap Tryz.encSp).toArray:=by
 apply Array.ext
 .simp only[Go.Sort.size_flatK,Z1r];induction l with
  |nil=>rfl
  |cons a l ih=>simp only[Z0r,Z0y,Z0k,<-ih];show(l.length+1)*2=2+l.length*2;omega
 .intro t h1 h2;have ht:t<l.length*2:=by simpa using h1
  rw[<-Z3U,Go.Sort.get_flatK _ _ _ _ (by simpa using ht)];rw[<-Z3U];clear h1 h2;induction l generalizing t with
  |nil=>simp at ht
  |cons a l ih=>
   rcases t with _|_|t
   .rfl
   .rfl
   .have:=ih t (by simp at ht;omega);have e1:(t+1+1)/2=t/2+1:=Q0;have e2:(t+1+1)%2=t%2:=Q0;rw[e1,e2];simp only[Z4J,Z0y]at this|-;rw[List.getElem!_cons_succ,this];rfl
def D5z{G:A0q}:∀(l:List A0L) (vs:List Value),A0v G (l.flatMap A1G) vs->vs=l.flatMap Tryz.encSp
 |[],vs,h=>by simpa[A0v]using h
 |a::l,vs,h=>by simp only[Z0y,A1G,Z0Q,Z1y,A0v]at h;obtain⟨x,_,rfl,hx,y,r,rfl,hy,hr⟩:=h;simp only[Rep]at hx hy;rw[D5z l r hr,hx,hy];rfl
def C8G{G:A0q}:∀l:List A0L,A0v G (l.flatMap A1G) (l.flatMap Tryz.encSp)
 |[]=>by simp[A0v]
 |a::l=>by simp only[Z0y,A1G,Z0Q,Z1y,A0v,Tryz.encSp];exact⟨_,_,rfl,ZAE,_,_,rfl,ZAE,C8G l⟩
def B7M{α:Type}{f:α->Int}:∀{l m:List α},l.Perm m->l.Pairwise (λa b=>f a<f b)->m.Pairwise (λa b=>¬f b<f a)->m=l
 |[],m,hp,_,_=>hp.symm.eq_nil
 |a::l,m,hp,hl,hm=>by
  cases m with
  |nil=>exact absurd hp.eq_nil Q1
  |cons b m=>
   rw[Z1c]at hl hm;have hb:b∈a::l:=hp.mem_iff.2 Q1;have ha:a∈b::m:=hp.mem_iff.1 Q1;have c:b=a:=by
    rcases Z0p.1 hb with h|h
    .exact h
    .rcases Z0p.1 ha with h2|h2
     .exact h2.symm
     .exact absurd (hl.1 b h) (hm.1 a h2)
   subst c;rw[B7M ((List.perm_cons _).1 hp) hl.2 hm.2]
def C1F{C:Ctx}{G:A0q}{M:Mem}{w:World}{f g s:Nat}{x:Value}(hr:Rep G (.vref f g s 0 0) x):∃p cap,x=.slice p 0 cap:=by simp only[Rep]at hr;obtain⟨hf,hg,a,a',cap,hd,d,b,rfl,e,c,i⟩:=hr;exact⟨_,_,rfl⟩
def B6f{C:Ctx}{fn:FuncId}{args:List AV}{M:Mem}(h:∀G w (vs:List Value),Inv C G M w->A0v G args vs->Calls C.P fn vs.toArray w λe w'=>e=.returned (.tuple #[])/\w'=w):
 A0c C fn args M (λ_ M'=>M'=M):=by
 intro G w vs hi hr
 refine Z1E (h G w vs hi hr) ?_
 rintro e w' ⟨rfl,rfl⟩
 exact⟨.tuple [],M,G,_,rfl,rfl,.refl _,hi,by simp[Rep,A0v],⟨rfl,rfl,rfl,Z0j _⟩⟩
def C3Y{C:Ctx}{α:Type}{e sz:Nat}{enc:α->List AV}{M:Mem}{v:AV}(h:A1r e sz enc M v []){G:A0q}{w:World}(hi:Inv C G M w){x:Value}(hr:Rep G v x):∃p cap,x=.slice p 0 cap:=by
 rcases h with⟨rfl,-⟩|⟨f,g,a,rfl,hm,hl⟩
 .simp only[Rep]at hr;exact⟨_,_,hr⟩
 .exact C1F (C:=C) (M:=M) (w:=w) hr
section
variable (gl:Nat->AV)
def D6H(x y:Int×Int):Go.Proofs.ltOf (λx y:Int×Int=>Lib.compareInt x.1 y.1) x y=decide (x.1<y.1):=by
 unfold Go.Proofs.ltOf Lib.compareInt;by_cases h1:x.1<y.1
 .simp[h1]
 .by_cases h2:y.1<x.1<;>simp[h1,h2]
def E2p:Go.Sort.SWO (Go.Proofs.ltOf λx y:Int×Int=>Lib.compareInt x.1 y.1):=by
 refine⟨λx=>?_,λx y z h1 h2=>?_,λx y z h1 h2=>?_⟩
 .rw[D6H];simp
 .rw[D6H]at*;simp at*;omega
 .rw[D6H]at*;simp at*;omega
def C9P(l:List A0L)(v:AV)(M:Mem)(hv:A1r 152 2 A1G M v l)(ha:l.Pairwise λa b=>a.1<b.1)(hl:l.length<=10000000):
 A0c (WC gl) 87 [v,.func (.func 88) [] []] M (λ_ M'=>A1r 152 2 A1G M' v l/\A0d (obj v) M M'):=by
 cases l with
 |nil=>
  refine(B6f λG w vs hi hr=>?_).mono (λ_ M' h=>by subst h;exact⟨hv,.refl _ _⟩)
  simp only[A0v]at hr
  obtain⟨x,_,rfl,hx,y,_,rfl,hy,rfl⟩:=hr
  obtain⟨p,cap,rfl⟩:=C3Y hv hi hx
  exact AnyF.slices_SortFunc_none Tryz.sortSp p cap y w
 |cons a0 l0=>
  obtain⟨l,hL⟩:=ex (a0::l0)
  rw[<-hL]at hv ha hl|-
  have n:l≠[]:=by rw[hL];simp
  rcases hv with⟨-,h⟩|⟨f,g,r,rfl,hm,o⟩
  .exact absurd h n
  have d:0<l.length:=Z1K.2 n
  have a4:(l.flatMap A1G).length=l.length*2:=by
   clear hm o ha hl d n hL;induction l with
   |nil=>rfl
   |cons a l ih=>simp only[Z0y,Z0k,ih,Z0r];show 2+_=_;omega
  refine(B2H (P:=λnews=>news=l.flatMap A1G) hm o d ?_).mono ?_
  .intro G w vs b off cap a2 hi hr hb a6 m s a5;simp only[A0v]at hr;obtain⟨y,_,rfl,hy,rfl⟩:=hr;(have hy:y=.func (.func 88) #[] #[]:=by simpa[Rep,A0v]using hy);subst hy;rw[Z0e Q0]at m;have c:=D5z l _ m;have hH:Go.Sort.HoldsK Tryz.encSp 2 w b off l.toArray:=by
    intro j hj;simp only[Go.Sort.size_flatK,Z1r]at hj;constructor
    .simp only[World.cell?,hb];rw[C9w,<-c];(have hlt:j<((a2.toList.drop off).take (l.length*2)).length:=by simp;omega);simp only[Z4J,id];rw[Z3U _ j hlt];simp
    .simp[World.frozen?,hb]
   have eg:∀args w,(callFunc 88 args).run Tryz.prog w=.ok (.enter 88 args) w:=Go.Proofs.enters_of Tryz.func88 Q2 rfl;have t:=AnyQ.slices_SortFunc Tryz.sortSp 2 Tryz.isAgg152 Tryz.sizeOf152 Tryz.encSp (λ_=>rfl) (λx v hv=>by simp[Tryz.encSp]at hv;rcases hv with rfl|rfl<;>rfl) (λx y=>Lib.compareInt x.1 y.1) E2p 88 #[] b off cap l.toArray w eg (λ_ _ _ _ x y=>Tryz.closure87 x y _) hH (Z1L.1 hb).1 ZAB;refine Z1E t ?_;rintro e w' ⟨rfl,d',k,os,hp,hs,rfl⟩;have hd:d'.toList=l:=by
    refine B7M (f:=λx:Int×Int=>x.1) ?_ ha ?_
    .have h2:=hp.2.2;(have h1:d'.size=l.length:=by simpa using hp.1);(have e:d'.extract 0 l.toArray.size=d':=by rw[Z1r,<-h1];simp);rw[e]at h2;simpa using h2.symm
    .rw[Z1G];intro i j a1 a3 z;have:=hs i j Q0 z (by have:=hp.1;simp at*;omega);(have e1:∀q (h:q<d'.toList.length),d'[q]! =d'.toList[q]:=λq h=>by rw[Z3U d' q ZAJ];simp);rw[e1 i a1,e1 j a3,D6H]at this;exact of_decide_eq_false this
   (have u:d'=l.toArray:=by rw[<-hd]);subst u
   refine⟨rfl,l.flatMap Tryz.encSp,_,k,os,C8G l,a4,?_,rfl,?_⟩
   .intro v hv;rw[<-c]at hv;exact s v hv
   .rw[<-C9w];rfl
  .rintro _ M' ⟨news,h1,rfl,rfl⟩;have hlt:f<M.length:=(Z0a.1 hm).1;(have e:A0e (l.flatMap A1G) 0 (l.flatMap A1G)=l.flatMap A1G:=by simp[A0e]);rw[e];refine⟨.inr ⟨f,g,A0Q 2 g 0 r,rfl,ZDE,by unfold A0Q;exact A2C _ o⟩,.set _ _ _⟩
end
def A4e(n:Int):List AV:=[I n]
def B7n(w:World)(b off:Nat)(zs:List Int):Go.Sort.putRow (Value.int .i64) w b off zs.toArray=Go.Sort.putRow id w b off (zs.map (Value.int .i64)).toArray:=by
 unfold Go.Sort.putRow;refine Go.Sort.mapBlock_congr _ _ _ _ λc e fr _=>?_;apply Z4i;intro k;simp only[Go.Sort.putCells,Z4K,Z1r,Z0W];cases c[k]? with
 |none=>rfl
 |some v=>
  simp only[Z1T,Z0b];by_cases h:off<=k/\k<off+zs.length
  .rw[Z0c h,Z0c h];have hlt:k-off<zs.length:=Q0;simp[hlt,id]
  .rw[Z0d h,Z0d h]
def C1S{G:A0q}:∀(l:List Int) (vs:List Value),A0v G (l.flatMap A4e) vs->vs=l.map (Value.int .i64)
 |[],vs,h=>by simpa[A0v]using h
 |a::l,vs,h=>by simp only[Z0y,A4e,Z0Q,Z1y,A0v]at h;obtain⟨x,r,rfl,hx,hr⟩:=h;simp only[Rep]at hx;rw[C1S l r hr,hx];rfl
def B7k{G:A0q}:∀l:List Int,A0v G (l.flatMap A4e) (l.map (Value.int .i64))
 |[]=>by simp[A0v]
 |a::l=>by simp only[Z0y,A4e,Z0Q,Z1y,A0v,Z0x];exact⟨_,_,rfl,ZAE,B7k l⟩
def B4J(x:Int):∀l:List Int,(C6t x l).Perm (x::l)
 |[]=>.refl _
 |y::l=>by
  rw[C6t];split
  .exact .refl _
  .exact((B4J x l).cons y).trans (.swap x y l)
def A3g:∀l:List Int,(A7A l).Perm l
 |[]=>.refl _
 |x::l=>(B4J x _).trans ((A3g l).cons x)
def B5K(x:Int):∀{l:List Int},l.Pairwise (·<=·)->(C6t x l).Pairwise (·<=·)
 |[],_=>by simp[C6t]
 |y::l,h=>by
  rw[Z1c]at h;rw[C6t];split
  .rename_i hxy;rw[Z1c,Z1c];exact⟨λz hz=>by rcases Z0p.1 hz with rfl|hz;exact hxy;exact Int.le_trans hxy (h.1 z hz),h⟩
  .rename_i hxy;rw[Z1c];refine⟨λz hz=>?_,B5K x h.2⟩;rcases Z0p.1 ((B4J x l).mem_iff.1 hz)with rfl|hz
   .omega
   .exact h.1 z hz
def A7T:∀l:List Int,(A7A l).Pairwise (·<=·)
 |[]=>.nil
 |x::l=>B5K x (A7T l)
def B7c:∀{l m:List Int},l.Perm m->l.Pairwise (·<=·)->m.Pairwise (·<=·)->m=l
 |[],m,hp,_,_=>hp.symm.eq_nil
 |a::l,m,hp,hl,hm=>by
  cases m with
  |nil=>exact absurd hp.eq_nil Q1
  |cons b m=>
   rw[Z1c]at hl hm;have hb:b∈a::l:=hp.mem_iff.2 Q1;have ha:a∈b::m:=hp.mem_iff.1 Q1;have c:b=a:=by
    rcases Z0p.1 hb with h|h
    .exact h
    .rcases Z0p.1 ha with h2|h2
     .exact h2.symm
     .have:=hl.1 b h;have:=hm.1 a h2;omega
   subst c;rw[B7c ((List.perm_cons _).1 hp) hl.2 hm.2]
def C4P(l:List Int):(l.mergeSort λx y=>decide (x<=y))=A7A l:=by refine B7c ((A3g l).trans (List.mergeSort_perm l _).symm) (A7T l) ?_;have:=List.pairwise_mergeSort (le:=λx y:Int=>decide (x<=y)) (λa b c h1 h2=>by simp at*;omega) (λa b=>by simp;omega) l;exact this.imp λh=>by simpa using h
section
variable (gl:Nat->AV)
def C5l(l:List Int)(v:AV)(M:Mem)(hv:A1r 3 1 A4e M v l)(hl:l.length<=100000000):A0c (WC gl) 62 [v] M (λ_ M'=>A1r 3 1 A4e M' v (A7A l)/\A0d (obj v) M M'):=by
 by_cases hne:l=[]
 .subst hne;refine(B6f λG w vs hi hr=>?_).mono (λ_ M' h=>by subst h;exact⟨hv,.refl _ _⟩);simp only[A0v]at hr;obtain⟨x,_,rfl,hx,rfl⟩:=hr;obtain⟨p,cap,rfl⟩:=C3Y hv hi hx;exact Any.slices_Sort_int_none Tryz.lays189 p cap w
 rcases hv with⟨-,h⟩|⟨f,g,m,rfl,hm,o⟩
 .exact absurd h hne
 have n:0<l.length:=Z1K.2 hne
 have c:∀l:List Int,(l.flatMap A4e).length=l.length*1:=λl=>by
  induction l with
  |nil=>rfl
  |cons a l ih=>simp only[Z0y,Z0k,ih,Z0r];show 1+_=_;omega
 refine(B2H (P:=λnews=>news=(A7A l).flatMap A4e) hm o n ?_).mono ?_
 .intro G w vs b off cap q hi hr hb t i s r;simp only[A0v]at hr;subst hr;rw[Z0e (by rw[c];omega)]at i;have d:=C1S l _ i;have hH:Go.Sort.Holds (Value.int .i64) w b off l.toArray:=by
   intro j hj;(have hj:j<l.length:=by simpa using hj);constructor
   .simp only[World.cell?,hb];(have h1:((q.toList.drop off).take (l.length*1))[j]?=(l.map (Value.int .i64))[j]?:=by rw[d]);rw[Z0B,Z0c Q0,Z0H,Z1i,Z0g hj]at h1;rw[Z2v]at h1;rw[h1];simp[hj]
   .simp[World.frozen?,hb]
  refine Z1E (Any.slices_Sort_int Tryz.lays189 b off cap l w hH (Z1L.1 hb).1 Q0) ?_;rintro e w' ⟨rfl,k,os,rfl⟩;refine⟨rfl,(A7A l).map (Value.int .i64),_,k,os,B7k _,by rw[c,(A3g l).length_eq],?_,rfl,?_⟩
  .intro v hv;obtain⟨z,_,rfl⟩:=Z0C.1 hv;rfl
  .rw[C4P,B7n]
 .rintro _ M' ⟨news,h1,rfl,rfl⟩;have hlt:f<M.length:=(Z0a.1 hm).1;have e:A0e (l.flatMap A4e) 0 ((A7A l).flatMap A4e)=(A7A l).flatMap A4e:=by simp only[A0e,Z2c,Z1y,Z0P];rw[Z1u (by rw[c,c,(A3g l).length_eq];omega),Z1b]
  rw[e];refine⟨.inr ⟨f,g,A0Q 1 g 0 m,by rw[(A3g l).length_eq],ZDE,by rw[(A3g l).length_eq];unfold A0Q;exact A2C _ o⟩,.set _ _ _⟩
end
end Go.Abs
end
namespace Go.Abs
def A8P(l:List A0Y)(a:A0Y):A3m (l++[a])=B4c (A3m l) a:=by simp[A3m,Z1X]
def B7F{α:Type}{P:List α->Prop}(h0:P [])(h1:∀l a,P l->P (l++[a])):∀l,P l:=by
 intro l;have:∀n (l:List α),l.length=n->P l:=by
  intro n;induction n with
  |zero=>intro l h;rw[Z0w h];exact h0
  |succ n ih=>intro l h;(have b:l≠[]:=by intro e;rw[e]at h;simp at h);rw[<-Z4d b];exact h1 _ _ (ih _ (by rw[List.length_dropLast];omega))
 exact this _ l rfl
def B6o(l:List A0Y):∀n,n∈(A3m l).map (·.number)<->n∈l.map (·.number):=by
 refine B7F (P:=λl=>∀n,n∈(A3m l).map (·.number)<->n∈l.map (·.number)) (by simp[A3m]) (λl a ih n=>?_) l;rw[A8P,B4c];by_cases h:a.number∈(A3m l).map (·.number)
 .rw[Z0c h,ih,Z1f,Z0N];have:=(ih a.number).1 h;constructor
  .exactλh=>.inl h
  .rintro(h2|h2)
   .exact h2
   .simp only[Z0x,Z1N,Z0p,Z1H,Z2R]at h2;rw[h2];exact this
 .rw[Z0d h,Z1f,Z1f,Z0N,Z0N,ih]
def B0n(l:List A0Y):((A3m l).map (·.number)).Nodup:=by
 refine B7F (P:=λl=>((A3m l).map (·.number)).Nodup) (by simp[A3m]) (λl a ih=>?_) l;rw[A8P,B4c];by_cases h:a.number∈(A3m l).map (·.number)
 .rw[Z0c h];exact ih
 .rw[Z0d h,Z1f,Z2D];refine⟨ih,Q1,λx hx y hy e=>?_⟩;simp only[Z0x,Z1N,Z0p,Z1H,Z2R]at hy;subst hy;subst e;exact h hx
def B0a(l:List A0Y):(A3m l).length<=l.length:=by
 refine B7F (P:=λl=>(A3m l).length<=l.length) (by simp[A3m]) (λl a ih=>?_) l;rw[A8P,B4c];split
 .simp;omega
 .simp;omega
def C3q(a b:A0Y):Int:=orL [A6o a.day b.day,A6o a.number b.number]
def B2l(a b:A0Y):C3q a b<0<->a.day<b.day\/(a.day=b.day/\a.number<b.number):=by
 have hc:∀x y:Int,(A6o x y<0<->x<y)/\(A6o x y=0<->x=y):=λx y=>by unfold A6o;split<;>(try split)<;>omega
 have h1:=hc a.day b.day;have h2:=hc a.number b.number;simp only[C3q,orL];by_cases e:A6o a.day b.day=0
 .rw[Z0c e];by_cases e2:A6o a.number b.number=0
  .rw[Z0c e2];omega
  .rw[Z0d e2];omega
 .rw[Z0d e];omega
def D2W:A5V C3q:=⟨λx y=>by rw[B2l,B2l];omega,λx y z=>by rw[B2l,B2l,B2l];omega⟩
def B4d(a b:A0Y):leA a b=true<->a.day<b.day\/(a.day=b.day/\a.number<=b.number):=by simp[leA]
def D7F(a b:A0Y):leA a b=true<->¬C3q b a<0:=by rw[B4d,B2l];omega
def B5e(x:A0Y):∀l,(C6N x l).Perm (x::l)
 |[]=>.refl _
 |y::l=>by
  rw[C6N];split
  .exact .refl _
  .exact((B5e x l).cons y).trans (.swap ..)
def A5d:∀l,(B4e l).Perm l
 |[]=>.refl _
 |x::l=>by rw[B4e];exact(B5e x _).trans ((A5d l).cons x)
def B6B(x:A0Y):∀l,l.Pairwise (λa b=>leA a b=true)->(C6N x l).Pairwise (λa b=>leA a b=true)
 |[],_=>by simp[C6N]
 |y::l,h=>by
  rw[Z1c]at h;rw[C6N];split
  .rename_i e;refine Z1c.2 ⟨λz hz=>?_,Z1c.2 h⟩;rcases Z0p.1 hz with rfl|hz
   .exact e
   .have:=h.1 z hz;rw[B4d]at this e|-;omega
  .rename_i e;refine Z1c.2 ⟨λz hz=>?_,B6B x l h.2⟩;rcases Z0p.1 ((B5e x l).mem_iff.1 hz)with rfl|hz
   .rw[B4d]at e|-;omega
   .exact h.1 z hz
def B0w:∀l,(B4e l).Pairwise (λa b=>leA a b=true)
 |[]=>by simp[B4e]
 |x::l=>by rw[B4e];exact B6B x _ (B0w l)
def D7D{l:List A0Y}(h:(l.map (·.number)).Nodup){a b:A0Y}(ha:a∈l)(hb:b∈l)(e:a.number=b.number):a=b:=by
 induction l with
 |nil=>simp at ha
 |cons x l ih=>
  rw[Z0x,Z1B]at h;rcases Z0p.1 ha with e1|h1<;>rcases Z0p.1 hb with e2|h2
  .rw[e1,e2]
  .exact(h.1 (Z0C.2 ⟨b,h2,by rw[<-e,e1]⟩)).elim
  .exact(h.1 (Z0C.2 ⟨a,h1,by rw[e,e2]⟩)).elim
  .exact ih h.2 h1 h2
def D5l{E L:List A0Y}(hp:E.Perm L)(hs:E.Pairwise (λa b=>leA a b=true))(hn:(L.map (·.number)).Nodup):E=B4e L:=by refine List.Perm.eq_of_pairwise (le:=λa b=>leA a b=true) (λa b ha hb h1 h2=>?_) hs (B0w L) (hp.trans (A5d L).symm);rw[B4d]at h1 h2;exact D7D hn (hp.mem_iff.1 ha) ((A5d L).mem_iff.1 hb) Q0
set_option maxRecDepth 100000
open Go.Proofs TryTypes Tryz
@[simp] def D8A{p:List A0L}{i:Nat}(h:i<(A1R p).length):(A1R p)[i]=[I (p[i]'ZAJ).1,I (p[i]'ZAJ).2]:=by simp[A1R,A1G]
def A6S{i:Nat}(h:i<=1000000000):IntKind.i64.wrap ((i:Int)+1)=((i+1:Nat):Int):=ZAW
def D9t{n:Int}(h0:0<=n)(h:n<=1000000000):IntKind.i64.wrap ((IntKind.u64.wrap n).fdiv 2)=n/2:=by rw[IntWalk.u64_in n ⟨h0,Q0⟩,Z4k _ Q0,A0R Q0 Q0]
def C8H{x y:Int}:A6o x y<0<->x<y:=by
 simp only[A6o];by_cases h:x<y
 .simp[h]
 .by_cases h2:y<x<;>simp[h,h2]
def D6U{x y:Int}:A6o x y=0<->x=y:=by
 simp only[A6o];by_cases h:x<y
 .simp[h];omega
 .by_cases h2:y<x
  .simp[h,h2];omega
  .simp[h,h2];omega
def D2u{x y:Int}:(A6o x y==0)=decide (x=y):=by rw[Z2k,Z0n,Z3t];exact D6U
def B8I{l:List A0L}{i:Nat}(h:i<l.length):(A1R l)[i]?=some [I l[i].1,I l[i].2]:=by simp[A1R,A1G,h]
section
variable (gl:Nat->AV)
def D7u(x:A0L)(d:Int)(M:Mem):A0c (WC gl) 86 [.agg (A1G x),I d] M (λv M'=>v=I (A6o x.1 d)/\M'=M):=by refine A0r hB func86 ?_;simp -dsimp[A1G];refine A0g func78 (B4Q gl M x.1 d) ?_;simp -dsimp
def C5F(l:List A0L)(o:Own)(d:Int)(M:Mem)(hl:l.length<=1000000):A0c (WC gl) 85 [.list 2 (A1R l) o,I d,.func (.func 86) [] []] M (λv M'=>v=.tuple [I (bsD l d l.length 0 l.length:Nat),B (decide (bsD l d l.length 0 l.length<l.length)&&decide ((l.getD (bsD l d l.length 0 l.length) (0,0)).1=d))]/\M'=M):=by
 have hc:=λ(x:A0L) M=>A0l func86 rfl rfl (D7u gl x d M)
 simp only[A1G]at hc
 refine A0r hB func85 ?_
 simp -dsimp
 refine A0M hB (λT M1=>∃i j f:Nat,i<=j/\j<=l.length/\j-i<=f/\M1=M/\T 0=.list 2 (A1R l) o/\T 1=I d/\T 2=.func (.func 86) [] []/\T 8=I l.length/\T 9=I i/\T 10=I j/\bsD l d l.length 0 l.length=bsD l d f i j) (λT M1=>match T 9,T 10 with|.val (.int _ i),.val (.int _ j)=>j.toNat-i.toNat|_,_=>0) Q2 ?_ ?_
 .exact⟨0,l.length,l.length,Q0,Q0,Q0,rfl,Q1,Q1,Q1,Q1,Q1,Q1,rfl⟩
 rintro T M1 ⟨i,j,f,h1,h2,h3,rfl,t0,t1,t2,t8,t9,b,hb⟩
 by_cases hij:i<j
 case neg=>
  have a:¬(i:Int)<j:=Q0;have e:bsD l d l.length 0 l.length=i:=by
   rw[hb];cases f with
   |zero=>rfl
   |succ f=>rw[bsD,Z0d hij]
  rw[e];by_cases hi:i<l.length;case neg=>simp -dsimp[t0,t1,t2,t8,t9,b,a,hi]
  simp -dsimp[t0,t1,t2,t8,t9,b,a,hi,B8I hi];refine A0s (hc l[i] M1) ?_;rintro _ _ ⟨rfl,rfl⟩;simp -dsimp[D2u,hi]
 have a:(i:Int)<j:=Q0
 obtain⟨f,rfl⟩:∃g,f=g+1:=⟨f-1,Q0⟩
 rw[bsD,Z0c hij]at hb
 obtain⟨h,hh⟩:=ex ((i+j)/2)
 have c:h<l.length:=Q0
 rw[<-hh,Z1l,Z0g c,Z1m]at hb
 have w1:IntKind.i64.wrap ((i:Int)+j)=(i+j:Nat):=ZAW
 have w2:IntKind.i64.wrap ((IntKind.u64.wrap ((i:Int)+j)).fdiv (2^min 1 IntKind.u64.bits))=(h:Int):=by rw[show(2:Int)^min 1 IntKind.u64.bits=2 from rfl,D9t Q0 Q0];omega
 have w3:=A1O (i:=h) Q0
 simp -dsimp[t0,t1,t2,t8,t9,b,a,w1,A5X,w2,c,B8I c]
 refine A0s (hc l[h] M1) ?_
 rintro _ _ ⟨rfl,rfl⟩
 by_cases hlt:l[h].1<d
 .rw[Z0c hlt]at hb;simp -dsimp[t0,t1,t2,t8,t9,b,C8H,hlt,w3];exact⟨⟨h+1,j,ZAM,h2,f,ZAM,ZAM,rfl,hb⟩,ZAM⟩
 .rw[Z0d hlt]at hb;simp -dsimp[t0,t1,t2,t8,t9,b,C8H,hlt,w3];exact⟨⟨i,h,ZAM,ZAM,f,ZAM,rfl,rfl,hb⟩,ZAM⟩
def C7f(l:List A0L)(o:Own)(d:Int)(M:Mem)(hl:l.length<=1000000):A0c (WC gl) 53 [.list 2 (A1R l) o,I d] M (λv M'=>v=B (A8I l d)/\M'=M):=by
 obtain⟨a,ha⟩:=ex (bsD l d l.length 0 l.length);have hs:=C5F gl l o d M hl;have hD:A8I l d=((decide (a<l.length)&&decide ((l.getD a (0,0)).1=d))||(decide (0<a)&&decide (d<(l.getD (a-1) (0,0)).2))):=by rw[A8I,<-ha]
 rw[<-ha]at hs;rw[hD];have e:a<=l.length:=by
  rw[ha];have key:∀(f i j:Nat),i<=j->j<=l.length->bsD l d f i j<=l.length:=by
   intro f;induction f with
   |zero=>intro i j h1 h2;simp only[bsD];omega
   |succ f ih=>
    intro i j h1 h2;rw[bsD];split
    .split
     .exact ih _ _ Q0 h2
     .exact ih _ _ Q0 Q0
    .omega
  exact key _ _ _ (Z3H _) (Z0j _)
 refine A0r hB func53 ?_;simp -dsimp;refine A0g func85 hs ?_;cases h1:(decide (a<l.length)&&decide ((l.getD a (0,0)).1=d))with
 |true=>simp -dsimp
 |false=>
  by_cases h2:0<a
  .have hlt:a-1<l.length:=Q0;(have w1:IntKind.i64.wrap ((a:Int)-1)=(a-1:Nat):=by rw[A0R Q0 Q0];omega);have c:(a:Int)>0:=Q0;have b:(0:Int)<a:=Q0;simp -dsimp[h2,c,b,w1,hlt,B8I hlt]
  .have c:¬(0:Int)<a:=Q0;have b:¬(a:Int)>0:=Q0;simp -dsimp[h2,c,b]
end
def A0d.chain{o o':Option Nat}{A B C:Mem}(h1:A0d o A B)(h2:A0d o' B C)(h:o'=o\/∀g,o'=some g->A.length<=g):A0d o A C:=
 ⟨Z0J h1.1 h2.1,λi hi ho=>(h2.2 i (Z0S hi h1.1) (λe=>by
  rcases h with h|h
  .exact ho (h▸e)
  .have:=h i e;omega)).trans (h1.2 i hi ho)⟩
def D8Z(X:List A0L):(X.flatMap A1G).length=X.length*2:=A2d (enc:=A1G) (sz:=2) (λ_=>rfl) X
def C5y:∀(X:List A0L) (k:Nat) (b:Int) (h:k<X.length),A0e (X.flatMap A1G) (k*2+1) [I b]=(X.set k (X[k].1,b)).flatMap A1G
 |a::X,0,b,_=>by simp[A0e,A1G]
 |a::X,k+1,b,h=>by have ih:=C5y X k b ZAJ;have e:(k+1)*2+1=(k*2+1)+2:=Q0;simp only[Z0y,Z4g,Z1P,<-ih,e];simp[A0e,A1G]
section
variable {M:Mem} {f g:Nat} {hist:List (Nat×Nat)} {X:List A0L}
def C9Z(hm:M[f]?=some (.vec 152 2 (X.flatMap A1G) g hist))(hl:hist.lookup g=some X.length){k:Nat}(hk:k<X.length)(b:Int):A0k (some 1) M (.vptr f g (k*2+1)) (I b)=some (M.set f (.vec 152 2 ((X.set k (X[k].1,b)).flatMap A1G) g (A0Q 2 g (k*2+1) hist))):=by
 have e:=C5y X k b hk
 have h1:AV.storable (I b)=true:=rfl
 have h2:AV.cells (I b)=[I b]:=rfl
 simp only[A0k,hm,hl,h1,h2,Z0r,Z1p,Z0A (show k*2+1+(0+1)<=X.length*2 by omega),Z3I,Z2H,Z1e,e]
def C0X(hm:M[f]?=some (.vec 152 2 (X.flatMap A1G) g hist))(hl:hist.lookup g=some X.length){k:Nat}(hk:k<X.length)(x:A0L):A0k (some 2) M (.vptr f g (k*2)) (.agg [I x.1,I x.2])=some (M.set f (.vec 152 2 ((X.set k x).flatMap A1G) g (A0Q 2 g (k*2) hist))):=by
 have e:A0e (X.flatMap A1G) (k*2) [I x.1,I x.2]=(X.set k x).flatMap A1G:=B0X (enc:=A1G) (sz:=2) (λ_=>rfl) X k x hk
 have h1:AV.storable (.agg [I x.1,I x.2])=true:=rfl
 have h2:AV.cells (.agg [I x.1,I x.2])=[I x.1,I x.2]:=rfl
 simp only[A0k,hm,hl,h1,h2,Z0r,Z1p,Z0A (show k*2+(0+1+1)<=X.length*2 by omega),Z3I,Z2H,Z1e,e]
def D5u(hm:M[f]?=some (.vec 152 2 (X.flatMap A1G) g hist))(hl:hist.lookup g=some X.length)(o:Nat):A2g M (.vptr f g o)=some ((X.flatMap A1G).drop o):=by simp only[A2g,hm,hl];rw[Z0e (by rw[D8Z];omega)]
def D6h(hm:M[f]?=some (.vec 152 2 (X.flatMap A1G) g hist))(hl:hist.lookup g=some X.length){k:Nat}(hk:k<X.length):A0E prog 152 M (.vptr f g (k*2))=some (.agg [I X[k].1,I X[k].2]):=by have h1:(X.flatMap A1G).drop (k*2)=(X.drop k).flatMap A1G:=A3q (enc:=A1G) (sz:=2) (λ_=>rfl) k X;have h2:X.drop k=X[k]::X.drop (k+1):=Z0m hk;simp only[A0E,D5u hm hl,h1,h2,Z0y,Z2g,A0h];simp[A1G,A7o]
def D3G(hm:M[f]?=some (.vec 152 2 (X.flatMap A1G) g hist))(hl:hist.lookup g=some X.length){k:Nat}(hk:k<X.length):A0E prog 3 M (.vptr f g (k*2+1))=some (I X[k].2):=by
 have h1:(X.flatMap A1G).drop (k*2)=(X.drop k).flatMap A1G:=A3q (enc:=A1G) (sz:=2) (λ_=>rfl) k X;have h2:X.drop k=X[k]::X.drop (k+1):=Z0m hk;have h3:(X.flatMap A1G).drop (k*2+1)=I X[k].2::(X.drop (k+1)).flatMap A1G:=by rw[<-Z2b,h1,h2];rfl
 simp only[A0E,D5u hm hl,h3,Z2g,A0h];simp[A7o]
end
def C6o{l:List A0L}{i:Nat}(h:i<l.length):A7t (l.take (i+1))=A7t (l.take i)++(if(A7e l[i]).1<(A7e l[i]).2 then[A7e l[i]]else[]):=by rw[Z0z,Z0g h];simp only[A7t,Z0T,Z1f,Z2a,Z0x,Z1N];congr 1;by_cases c:(A7e l[i]).1<(A7e l[i]).2<;>simp[c]
def C0S(l:List A0L):(A7t l).length<=l.length:=by have:=Z1q (λx:A0L=>decide (x.1<x.2)) (l.map A7e);simpa[A7t]using this
def B6d(A:List A0L)(y x:A0L):A7G (A++[y]) x=if x.1<=y.2 then A++[(y.1,max y.2 x.2)]else A++[y]++[x]:=by simp[A7G]
def D1X{K:List A0L}{i:Nat}(h:i<K.length):(K.take (i+1)).foldl A7G []=A7G ((K.take i).foldl A7G []) K[i]:=by rw[Z0z,Z0g h,Z0T,Z1X];rfl
def B7O{X:List A0L}{k i:Nat}(hk:k<=i)(hi:i<X.length)(x:A0L):(X.set k x).take (k+1)=X.take k++[x]/\(X.set k x).drop (i+1)=X.drop (i+1):=by
 constructor
 .rw[Z0z,Z3Y (Z0j _)];simp[show k<X.length by omega]
 .rw[List.drop_set_of_lt Q0]
section
variable (gl:Nat->AV)
def SpV(v:AV)(l:List A0L):Prop:=(∃o,v=.list 2 (A1R l) o)\/(v=.val (.slice none 0 0)/\l=[])
def SpV.of{l:List A0L}(o:Own):SpV (.list 2 (A1R l) o) l:=.inl ⟨o,rfl⟩
def SpV.nil:SpV (.val (.slice none 0 0)) []:=.inr ⟨rfl,rfl⟩
def SpV.len{v:AV}{l:List A0L}(h:SpV v l):A3k prog 80 v=some l.length:=by
 rcases h with⟨o,rfl⟩|⟨rfl,rfl⟩
 .simp[A3k]
 .kernel_rfl
set_option maxHeartbeats 1000000 in
def B1U{va:AV}{l:List A0L}(ay:SpV va l)(M:Mem)(ha:Asc l)(hl:l.length<=10000000):A0c (WC gl) 54 [va] M (λv M'=>v=.list 2 (A1R (A3J l)) .no/\M'=M):=by
 refine A0c.dataX ?_;have an:=ay.len;refine A0r (hQ [31]) func54 ?_;simp -dsimp[an];refine A1y (hQ [31]) l.length 11 (λT Mi=>∃i:Nat,i<=l.length/\T 9=va/\T 10=I l.length/\T 11=I i/\A1r 152 2 A1G Mi (T 3) (A7t (l.take i))/\Grow M Mi/\A1L M.length (T 3)) ?_ ?_
 .exact⟨0,Q0,Q1,Q1,Q1,by simp[A1r,A7t],A0d.refl _ _,by simp[A1L]⟩
 rintro T Mi ⟨i,i1,t9,a7,a6,hv,hg,a5⟩;obtain⟨v,ao⟩:=ex (T 3);rw[<-ao]at hv a5;have t3:=ao.symm;by_cases hi:i<l.length;case pos=>
  have u:(i:Int)<l.length:=Q0;obtain⟨o,rfl⟩:∃o,va=.list 2 (A1R l) o:=by
   rcases ay with h|⟨_,rfl⟩
   .exact h
   .simp at hi
  have w1:=A6S (i:=i) Q0;obtain⟨b,hb⟩:=ex (Mi.length);obtain⟨y,hy⟩:=ex (A7e l[i]);have d:=C6o hi;rw[<-hy]at d;have aw:(if l[i].1<0 then 0 else l[i].1)=y.1:=by rw[hy];simp only[A7e];split<;>omega
  have b2:(if 1048577<l[i].2 then 1048577 else l[i].2)=y.2:=by rw[hy];simp only[A7e,A2T];split<;>omega
  obtain⟨M4,t⟩:=ex (Mi++[A0m.cells 152 [I l[i].1,I l[i].2]]);have m:M4[b]?=some (A0m.cells 152 [I l[i].1,I l[i].2]):=by rw[t,hb];simp
  have ak:b<M4.length:=(Z0a.1 m).1;obtain⟨M5,au⟩:=ex (M4.set b (A0m.cells 152 [I y.1,I l[i].2]));have bb:M5[b]?=some (A0m.cells 152 [I y.1,I l[i].2]):=by rw[au];simp[ak]
  have s5:A0k (some 1) M4 (.ptr b 0) (I y.1)=some M5:=by rw[A0f m,au];rfl
  obtain⟨M6,av⟩:=ex (M4.set b (A0m.cells 152 [I y.1,I y.2]));have s6:A0k (some 1) M5 (.ptr b 1) (I y.2)=some M6:=by rw[A0f bb,av,au,Z2q];rfl
  have ax:M6[b]?=some (A0m.cells 152 [I y.1,I y.2]):=by rw[av];simp[ak]
  have af:Grow Mi M6:=by rw[av,t,hb];exact A0w (A0d.app none _ _) (Z0j _)
  have b0:=hv.keep af Q1;simp -dsimp[t3,t9,a7,a6,hi,u,B8I hi,A0j,A0k,A0e,A0o,A0n];rw[<-t,<-hb];by_cases hlt:y.1<y.2;case neg=>rw[Z0d hlt,Z1b]at d;simp -dsimp[A0b m,aw,b2,s5,s6,A0b ax,hlt,w1,t3,t9,a7,a6];exact⟨⟨i+1,Q3,rfl,by rw[d];exact b0,hg.trans af,a5⟩,Q3⟩
  rw[Z0c hlt]at d;simp -dsimp[A0b m,aw,b2,s5,s6,A0b ax,hlt,w1,t3,t9,a7,a6,A0x,A1g,A0o,A0n];refine A3B (C:=WC gl) (enc:=A1G) (e:=152) (sz:=2) (news:=[y]) C2G C9k C3l (λ_=>rfl) b0 (by simp[A0D,A1G]) (by have:=C0S (l.take i);simp at this|-;omega) rfl ?_;intro v1 M7 a1 a2 a3 _;simp -dsimp[w1,t3,t9,a7,a6];refine⟨⟨i+1,Q3,rfl,by rw[d];exact a1,A0d.chain (hg.trans af) a2 (.inr λq hq=>a5 q hq),?_⟩,Q3⟩;intro q hq;rcases a3 with e|e
  .exact a5 q (by rw[<-e];exact hq)
  .have:=e q hq;have:=hg.1;have:=af.1;omega
 have u:¬(i:Int)<l.length:=Q0;rw[Z0e Q0]at hv;obtain⟨K,hK⟩:=ex (A7t l);have bd:=C0S l;unfold Asc at ha;rw[<-hK]at hv ha bd;have bc:A3J l=K.foldl A7G []:=by rw[A3J,hK]
 rw[bc];simp -dsimp[t9,a7,a6,u,t3];refine A3R func87 (C9P gl K v Mi hv ha Q0) ?_;rintro r M2 ⟨b5,b1⟩;have aq:Grow M M2:=A0d.chain hg b1 (.inr λq hq=>a5 q hq);clear hv b1 hg t9 a7 a6 ao;rcases b5 with⟨rfl,b7⟩|⟨f,g,hist,rfl,hm,j⟩
 .subst b7;simp -dsimp[t3];refine A0M (hQ [31]) (λT Mi=>Mi=M2/\T 3=A0C/\T 6=I 0/\T 36=I 0/\T 37=I 0) (λ_ _=>0) Q2 ?_ ?_
  .exact⟨rfl,by simp[t3],Q1,Q1,Q1⟩
  rintro T Mi ⟨rfl,t3,t6,s,t37⟩;have ba:A1Q prog 80 A0C none (some (I 0)) none=some A0C:=Q2;simp -dsimp[t3,t6,s,t37,ba];exact⟨aq,.nilS .nil⟩
 have ag:=a5 f rfl;obtain⟨n,hn⟩:=ex (K.length);rw[<-hn]at j;simp -dsimp[t3];rw[<-hn];refine A1y (hQ [31]) n 37 (λT Mi=>∃(i:Nat) (a X:List A0L) (h:List (Nat×Nat)),i<=n/\T 3=.vref f g 2 0 n/\T 6=I a.length/\T 35=.vref f g 2 0 n/\T 36=I n/\T 37=I i/\a.length<=i/\X.length=n/\X.take a.length=a/\X.drop i=K.drop i/\a=(K.take i).foldl A7G []/\Mi[f]?=some (.vec 152 2 (X.flatMap A1G) g h)/\h.lookup g=some n/\Grow M Mi) ?_ ?_
 .exact⟨0,[],K,hist,Q0,by simp[t3,hn],Q1,by simp[t3,hn],by simp[hn],Q1,Q1,hn.symm,Q1,Q1,Q1,hm,j,aq⟩
 clear t3 hm j aq;rintro T Mi ⟨i,a,X,h,i1,t3,t6,a4,s,t37,hk,hX,ae,am,ad,hm,j,hg⟩;have p:h.lookup g=some X.length:=by rw[hX];exact j
 by_cases hi:i<n;case neg=>
  have u:¬(i:Int)<n:=Q0;rw[Z0e Q0]at ad;have b8:a.length<=n:=Q0;have b3:(a.length:Int)<=n:=Q0;have hs:A1Q prog 80 (.vref f g 2 0 n) none (some (I a.length)) none=some (.vref f g 2 0 a.length):=by simp[A1Q,A4d,A7K,A1s,A8L,b3]
  simp -dsimp[t3,t6,a4,s,t37,u,hs,<-ad];refine⟨hg,.vec ag hm j b8 Q1 (λr hr=>by obtain⟨q,_,rfl⟩:=Z0C.1 hr;rfl) ?_ .nil⟩;have e1:(X.flatMap A1G).take (a.length*2)=a.flatMap A1G:=by rw[A7b (enc:=A1G) (sz:=2) (λ_=>rfl),ae]
  have e2:(A1R a).flatten=a.flatMap A1G:=by simp[A1R,List.flatMap]
  rw[e1,e2];exact Still.refl λc hc=>by obtain⟨q,_,hq⟩:=Z1M.1 hc;simp only[A1G,Z0p,Z1H,Z2R]at hq;rcases hq with rfl|rfl<;>trivial
 have u:(i:Int)<n:=Q0;have aa:X.drop (i+1)=K.drop (i+1):=by rw[<-Z2b,am,Z2b]
 have b4:X[i]'Q0=K[i]'Q0:=by have h1:=Z0m (show i<X.length by omega);have h2:=Z0m (show i<K.length by omega);rw[h1,h2]at am;exact(List.cons.inj am).1
 obtain⟨x,hx⟩:=ex (K[i]'Q0);have az:=D6h hm p (show i<X.length by omega);rw[b4,<-hx]at az;have ah:=D1X (K:=K) (show i<K.length by omega);rw[<-ad,<-hx]at ah;have w1:=A6S (i:=i) Q0;have w2:=A6S (i:=a.length) Q0;obtain⟨b,hb⟩:=ex (Mi.length);obtain⟨M4,t⟩:=ex (Mi++[A0m.cells 152 [I x.1,I x.2]]);have m:M4[b]?=some (A0m.cells 152 [I x.1,I x.2]):=by rw[t,hb];simp
 have aj:Grow Mi M4:=ZCL
 have a9:=aj.get hm Q1;have z:f<M4.length:=(Z0a.1 a9).1;simp -dsimp[t3,t6,a4,s,t37,hi,u,az,A0j,A0k,A0e,A0o,A0n];rw[<-t,<-hb];refine A0X (hQ [31]) (A0B gl) (λk=>if k=4\/k=10 then 1 else 0) (λk=>if k=4 then b else f) (by rfl) Q2 ?_;by_cases h0:0<a.length;case neg=>have ai:¬(0:Int)<a.length:=Q0;have ar:a=[]:=Z0w Q0;have a8:=C0X a9 p (k:=a.length) Q0 x;obtain⟨s1,s2⟩:=B7O (X:=X) hk Q0 x;have d:a.length<n:=Q0;simp -dsimp[t3,t6,a4,s,t37,h0,ai,A0b m,a8,d,w1,w2];exact⟨⟨i+1,ZAD,a++[x],Q1,rfl,by simp;clear w1 w2;omega,X.set a.length x,by simp[hX],by rw[Z0k];exact s1.trans (by rw[ae]),s2.trans aa,by rw[ah,ar];rfl,A0Q 2 g (a.length*2) h,by simp[z],by unfold A0Q;exact A2C _ j,A0w (hg.trans aj) ag⟩,ZAD⟩
 have ai:(0:Int)<a.length:=Q0;have al:(a.length:Int)>0:=Q0;have w3:IntKind.i64.wrap ((a.length:Int)-1)=(a.length-1:Nat):=ZAW
 obtain⟨k1,b9⟩:=ex (a.length-1);rw[<-b9]at w3;have ab:k1<n:=Q0;have ac:k1<X.length:=Q0;obtain⟨y,hy⟩:=ex (X[k1]);have a0:=D3G a9 p ac;rw[<-hy]at a0;have w:a=X.take k1++[y]:=by rw[<-ae,show a.length=k1+1 by omega,Z0z,Z0g ac,<-hy];rfl
 by_cases hle:x.1<=y.2
 .have a8:=C9Z a9 p ac (max y.2 x.2);rw[<-hy]at a8;have b6:(if y.2<x.2 then x.2 else y.2)=max y.2 x.2:=by split<;>omega
  simp -dsimp[t3,t6,a4,s,t37,h0,ai,al,A0b m,w3,ab,a0,hle];refine A0X (hQ [31]) (A0B gl) (λk=>if k=8\/k=10 then 1 else if k=14 then 2 else 0) (λk=>if k=8 then f else b) (by rfl) Q2 ?_;simp -dsimp[t3,t6,a4,s,t37,A0b m,w3,ab,a0,b6,a8,w1];obtain⟨s1,s2⟩:=B7O (X:=X) (show k1<=i by clear w1 w2 w3;omega) ZAM (y.1,max y.2 x.2);have ap:(X.take k1++[(y.1,max y.2 x.2)]).length=a.length:=by rw[w];simp
  exact⟨⟨i+1,ZAM,X.take k1++[(y.1,max y.2 x.2)],by rw[ap],rfl,by rw[ap];clear w1 w2 w3;omega,X.set k1 (y.1,max y.2 x.2),by simp[hX],by rw[ap,show a.length=k1+1 by clear w1 w2 w3;omega];exact s1,s2.trans aa,by rw[ah,w,B6d,Z0c hle],A0Q 2 g (k1*2+1) h,by simp[z],by unfold A0Q;exact A2C _ j,A0w (hg.trans aj) ag⟩,ZAM⟩
 .have a8:=C0X a9 p (k:=a.length) Q0 x;have d:a.length<n:=Q0;simp -dsimp[t3,t6,a4,s,t37,h0,ai,al,A0b m,w3,ab,a0,hle,a8,d,w1,w2];obtain⟨s1,s2⟩:=B7O (X:=X) hk ZAM x;exact⟨⟨i+1,ZAM,a++[x],Q1,rfl,by simp;clear w1 w2 w3;omega,X.set a.length x,by simp[hX],by rw[Z0k];exact s1.trans (by rw[ae]),s2.trans aa,by rw[ah,w,B6d,Z0d hle],A0Q 2 g (a.length*2) h,by simp[z],by unfold A0Q;exact A2C _ j,A0w (hg.trans aj) ag⟩,ZAM⟩
def D7E(l:List A0L)(o:Own)(M:Mem)(ha:Asc l)(hl:l.length<=10000000):A0c (WC gl) 54 [.list 2 (A1R l) o] M (λv M'=>v=.list 2 (A1R (A3J l)) .no/\M'=M):=B1U gl (.of o) M ha hl
end
def B7j(p x:Int):∀a:List Int,A2X (a++[p,x])=A2X (a++[p])++(if p=x then[]else[x])
 |[]=>by by_cases h:p=x<;>simp[A2X,h]
 |[b]=>by by_cases h:p=x<;>by_cases h2:b=p<;>simp[A2X,h,h2]
 |b::c::a=>by have ih:=B7j p x (c::a);simp only[Z0Q]at ih|-;rw[A2X,A2X,ih];split<;>rfl
def B7R(l:List Int):Lib.compact l=A2X l:=by
 have key:∀m,m<=l.length->Lib.compactUpTo l.toArray m=A2X (l.take m):=by
  intro m;induction m with
  |zero=>intro _;simp[Lib.compactUpTo,A2X]
  |succ m ih=>
   intro hm;rw[Lib.compactUpTo_succ,ih Q0,Z0z,Z0g (show m<l.length by omega),Z0T];(have e0:l.toArray[m]! =l[m]:=by simp[show m<l.length by omega]);rcases m with _|m
   .simp[Lib.keeps,A2X,e0]
   ·(have e1:l.toArray[m]! =l[m]:=by simp[show m<l.length by omega]);have e2:l.take (m+1)=l.take m++[l[m]]:=by rw[Z0z,Z0g (show m<l.length by omega),Z0T]
    have hs:=B7j l[m] l[m+1] (l.take m);rw[e2,Z0F];show _=A2X (l.take m++[l[m],l[m+1]]);rw[hs];congr 1;simp only[Lib.keeps,Nat.add_sub_cancel,e0,e1];by_cases h:l[m]=l[m+1]
    .simp[h]
    .have h':¬l[m+1]=l[m]:=λe=>h e.symm;simp[h,h']
 have:=key l.length (Z0j _);rw[Z3h]at this;exact this
def B5x(l:List Int):(A2X l).length<=l.length:=by rw[<-B7R];have:=Z1q (Lib.keeps l.toArray) (List.range l.length);simpa[Lib.compact,Lib.compactUpTo]using this
def Pre(e:TypeId)(sz:Nat){α:Type}(enc:α->List AV)(M:Mem)(v:AV)(l:List α):Prop:=(v=.val (.slice none 0 0)/\l=[])\/∃f g hist cs n,v=.vref f g sz 0 l.length/\M[f]?=some (.vec e sz cs g hist)/\cs.take (l.length*sz)=l.flatMap enc/\hist.lookup g=some n/\l.length<=n
def Pre.keep{e sz:Nat}{α:Type}{enc:α->List AV}{M M':Mem}{v:AV}{l:List α}(h:Pre e sz enc M v l)(hg:∀f,obj v=some f->M'[f]?=M[f]?):Pre e sz enc M' v l:=by
 rcases h with h|⟨f,g,a,cs,n,rfl,hm,hc,hl,hn⟩
 .exact .inl h
 .exact .inr ⟨f,g,a,cs,n,rfl,by rw[hg f rfl,hm],hc,hl,hn⟩
section
variable (gl:Nat->AV)
def C3x(l:List Int)(v:AV)(M:Mem)(hv:A1r 3 1 A4e M v l)(hl:l.length<=100000000):A0c (WC gl) 63 [v] M (λr M'=>Pre 3 1 A4e M' r (A2X l)/\A0d (obj v) M M'/\(∀f,obj r=some f->obj v=some f)):=by
 by_cases hne:l=[]
 .subst hne;rcases hv with⟨rfl,-⟩|⟨f,g,c,rfl,hm,i⟩
  .intro G w vs hi hr;simp only[A0v]at hr;obtain⟨x,_,rfl,hx,rfl⟩:=hr;simp only[Rep]at hx;subst hx;refine Z1E (slices_Compact_int_empty none 0 w) ?_;rintro e w' ⟨rfl,rfl⟩;exact⟨_,M,G,_,rfl,⟨.inl ⟨rfl,rfl⟩,.refl _ _,λf h=>by simp at h⟩,.refl _,hi,ZAE,⟨rfl,rfl,rfl,Z0j _⟩⟩
  .intro G w vs hi hr;simp only[A0v]at hr;obtain⟨x,_,rfl,hx,rfl⟩:=hr;obtain⟨p,cap,rfl⟩:=C1F (C:=WC gl) (M:=M) (w:=w) hx;refine Z1E (slices_Compact_int_empty p cap w) ?_;rintro e w' ⟨rfl,rfl⟩;exact⟨.vref f g 1 0 0,M,G,_,rfl,⟨.inr ⟨f,g,c,_,0,rfl,hm,by simp[A2X],i,Z0j _⟩,.refl _ _,λq h=>h⟩,.refl _,hi,hx,⟨rfl,rfl,rfl,Z0j _⟩⟩
 rcases hv with⟨-,h⟩|⟨f,g,c,rfl,hm,i⟩
 .exact absurd h hne
 have s:0<l.length:=Z1K.2 hne
 have d:∀l:List Int,(l.flatMap A4e).length=l.length:=λl=>by
  induction l with
  |nil=>rfl
  |cons a l ih=>simp only[Z0y,Z0k,ih,Z0r];show 1+_=_;omega
 have u:=B5x l
 refine(B8V (P:=λm news=>m=(A2X l).length/\news=(A2X l++List.replicate (l.length-(A2X l).length) 0).flatMap A4e) hm i s ?_).mono ?_
 .intro G w vs b off cap y hi hr hb a1 o a0 t;simp only[A0v]at hr;subst hr;rw[Z0e (by rw[d];omega)]at o;have n:=C1S l _ o;have hH:Go.Sort.Holds (Value.int .i64) w b off l.toArray:=by
   intro j hj;(have hj:j<l.length:=by simpa using hj);constructor
   .simp only[World.cell?,hb];(have h1:((y.toList.drop off).take (l.length*1))[j]?=(l.map (Value.int .i64))[j]?:=by rw[n]);rw[Z0B,Z0c Q0,Z0H,Z1i,Z0g hj]at h1;rw[Z2v]at h1;rw[h1];simp[hj]
   .simp[World.frozen?,hb]
  refine Z1E (slices_Compact_int b off cap l w hH Q0 t) ?_;rintro e w' ⟨rfl,k,rfl⟩;rw[B7R];refine⟨_,u,rfl,(A2X l++List.replicate (l.length-(A2X l).length) 0).map (Value.int .i64),_,k,#[],B7k _,?_,?_,⟨rfl,rfl⟩,?_⟩
  .rw[d];simp;omega
  .intro v hv;obtain⟨z,_,rfl⟩:=Z0C.1 hv;rfl
  .rw[B7n];simp only[Go.Sort.grow,Array.append_empty]
 .rintro r M' ⟨m,news,h0,rfl,h1,⟨rfl,rfl⟩,rfl⟩;have hlt:f<M.length:=(Z0a.1 hm).1;have e:A0e (l.flatMap A4e) 0 ((A2X l++List.replicate (l.length-(A2X l).length) 0).flatMap A4e)=(A2X l++List.replicate (l.length-(A2X l).length) 0).flatMap A4e:=by simp only[A0e,Z2c,Z1y,Z0P];rw[Z1u (by simp only[d,Z0k,List.length_replicate];omega),Z1b]
  rw[e];refine⟨.inr ⟨f,g,A0Q 1 g 0 c,(A2X l++List.replicate (l.length-(A2X l).length) 0).flatMap A4e,l.length,rfl,Z2M hlt,?_,by unfold A0Q;exact A2C _ i,u⟩,.set _ _ _,λq h=>h⟩;rw[Z1n,Z3G,Z1D (by rw[d];omega),Z0e (by rw[d];omega)]
end
def D5h(n:Nat)(l:List A0L)(o:Own)(h:o=.no):bdd n (.list 2 (A1R l) o):=by
 subst h;simp only[bdd,Z1A];induction l with
 |nil=>simp[A1R,A4n]
 |cons a l ih=>simp only[A1R,Z0x,A4n]at ih|-;exact⟨by simp[A1G,A1i,bdd],ih⟩
def D4v{M:Mem}{f g n:Nat}{b:List (Nat×Nat)}{cs:List AV}{l:List Int}(hm:M[f]?=some (.vec 3 1 cs g b))(hc:cs.take (l.length*1)=l.flatMap A4e)(hl:b.lookup g=some n)(hn:l.length<=n){i:Nat}(hi:i<l.length):A0E prog 3 M (.vptr f g i)=some (I l[i]):=by
 have h1:(cs.take (n*1)).drop i=I l[i]::(cs.take (n*1)).drop (i+1):=by
  have hg:(cs.take (n*1))[i]?=some (I l[i]):=by
   have h2:(cs.take (l.length*1))[i]?=some (I l[i]):=by
    rw[hc];have e:∀(l:List Int) (i:Nat) (hi:i<l.length),(l.flatMap A4e)[i]?=some (I l[i]):=by
     intro l;induction l with
     |nil=>intro i hi;simp at hi
     |cons a l ih=>
      intro i hi;cases i with
      |zero=>rfl
      |succ i=>simpa[A4e]using ih i ZAS
    exact e l i hi
   rw[Z0B,Z0c Q0]at h2|-;exact h2
  obtain⟨hlt,he⟩:=Z0a.1 hg;rw[Z0m hlt,he]
 simp only[A0E,A2g,hm,hl,h1,Z2g,A0h]
 simp[A7o]
def Pre.at_{M:Mem}{v:AV}{l:List Int}(h:Pre 3 1 A4e M v l){i:Nat}(hi:i<l.length):∃p,A6j (some (some 1)) v (I i)=some p/\A0E prog 3 M p=some (I l[i]):=by
 rcases h with⟨rfl,rfl⟩|⟨f,g,a,cs,n,rfl,hm,hc,hl,hn⟩
 .simp at hi
 .exact⟨.vptr f g i,by simp[hi],D4v hm hc hl hn hi⟩
def Pre.len{M:Mem}{v:AV}{l:List Int}(h:Pre 3 1 A4e M v l):A3k prog 100 v=some l.length:=by rcases h with⟨rfl,rfl⟩|⟨f,g,a,cs,n,rfl,hm,hc,hl,hn⟩<;>simp
def Pre.lt{M:Mem}{v:AV}{l:List Int}(h:Pre 3 1 A4e M v l){f:Nat}(hf:obj v=some f):f<M.length:=by
 rcases h with⟨rfl,rfl⟩|⟨f,g,a,cs,n,rfl,hm,hc,hl,hn⟩
 .simp at hf
 .simp at hf;subst hf;exact(Z0a.1 hm).1
def C1s(c:Bool->Bool->Bool)(a b:List A0L)(x y:Int):∀l:List Int,A3X c a b (l++[x,y])=A3X c a b (l++[x])++(if c (A8I a x) (A8I b x)=true then[(x,y)]else[])
 |[]=>by simp only[Z1y,A3X]
 |[z]=>by simp only[Z0Q,Z1y,A3X];split<;>split<;>rfl
 |z::w::l=>by have ih:=C1s c a b x y (w::l);simp only[Z0Q]at ih|-;rw[A3X,A3X,ih];split<;>rfl
section
variable (gl:Nat->AV)
def C7j(l:List A0L)(M:Mem)(hn:l.length<=10000000):A0c (WC gl) 271 [.list 2 (A1R l) .no] M (λv M'=>A1r 152 2 A1G M' v l/\Grow M M'/\A1L M.length v):=by
 refine A0r (hQ [5,7]) func271 ?_;have hz:A1C prog 80 0 [] M=some (.vref M.length 0 2 0 0,M++[.vec 152 2 [] 0 [(0,0)]]):=by simp[A1C,A1g]
 have a:A1r 152 2 A1G (M++[.vec 152 2 [] 0 [(0,0)]]) (.vref M.length 0 2 0 0) []:=.inr ⟨M.length,0,[(0,0)],rfl,Q1,Q1⟩;have key:∀(K:AV->Mem->Prop),(∀v' M',A1r 152 2 A1G M' v' l->Grow M M'->A1L M.length v'->K v' M')->A3s (WC gl) false true 80 80 (.vref M.length 0 2 0 0) (.list 2 (A1R l) .no) (M++[.vec 152 2 [] 0 [(0,0)]]) K ⟨⟩:=by
  intro K hK;refine A3B (C:=WC gl) (enc:=A1G) (e:=152) (sz:=2) (news:=l) C2G C9k C3l (λ_=>rfl) a (by simp[A0D,A1R,Z4x]) ZAB rfl ?_;intro v' M' h1 h2 h3 _;refine hK v' M' h1 ⟨by have:=h2.1;simp at this;omega,λi hi _=>by rw[h2.2 i ZAB ZAB,Z0o hi]⟩ λq hq=>?_;rcases h3 with e|e
  .rw[e]at hq;simp at hq;omega
  .have:=e q hq;simp at this;omega
 cases l with
 |nil=>
  simp only[A1R,Z1N]at key|-;simp -dsimp;rw[A5B (.inl rfl) underlying80];intro b;cases b
  .simp -dsimp[hz];refine key _ ?_;intro v' M' h1 h2 h3;simp -dsimp[h1,h2,h3]
  .simp -dsimp[A1r.nil,A0d.refl,A1L]
 |cons k ks=>simp only[A1R,Z0x]at key|-;simp -dsimp[hz];refine key _ ?_;intro v' M' h1 h2 h3;simp -dsimp[h1,h2,h3]
def D3p{a b:List A0L}(ha:A5S a)(hb:A5S b):((a++b).flatMap λx=>[x.1,x.2]).length<=4194312:=by
 have e:∀l:List A0L,(l.flatMap λx=>[x.1,x.2]).length=l.length*2:=λl=>by
  induction l with
  |nil=>rfl
  |cons a l ih=>simp only[Z0y,Z0k,ih,Z0r];show 2+_=_;omega
 rw[e,Z0k];have:=A4U ha;have:=A4U hb;omega
set_option maxHeartbeats 1000000 in
def C9n(c:Bool->Bool->Bool)(g:FuncId)(hc:∀x y M,A2Z (WC gl) g [B x,B y] M (λv M'=>v=B (c x y)/\M'=M))(a b:List A0L)(va vb:AV)(b4:SpV va a)(b7:SpV vb b)(M:Mem)(ha:Asc a)(hb:Asc b)(b5:a.length<=10000000)(ba:b.length<=10000000):
 A0c (WC gl) 220 [va,vb,.func (.func g) [] []] M (λv M'=>v=.list 2 (A1R (C1m c a b)) .no/\M'=M):=by
 refine A1N (λn=>D5h n _ _ rfl) ?_
 have w:=A7N ha
 have a1:=A7N hb
 have ag:=λM=>B1U gl b4 M ha b5
 have aw:=λM=>B1U gl b7 M hb ba
 obtain⟨A,hA⟩:=ex (A3J a)
 obtain⟨D,hD⟩:=ex (A3J b)
 rw[<-hA]at w ag
 rw[<-hD]at a1 aw
 have b1:C1m c a b=A3J (A3X c A D (C4d A D)):=by rw[C1m,hA,hD]
 rw[b1]
 have bf:=A4U w
 have be:=A4U a1
 obtain⟨L,hL⟩:=ex (A++D)
 have bh:L.length<=1048578:=by rw[hL,Z0k];omega
 obtain⟨cs,a4⟩:=ex (L.flatMap λx=>[x.1,x.2])
 have bl:cs.length<=4194312:=by rw[a4,hL];exact D3p w a1
 obtain⟨C,hC⟩:=ex (A2X (A7A cs))
 have b3:C4d A D=C:=by rw[hC,a4,hL];rfl
 rw[b3]
 have bk:C.length<=4194312:=by rw[hC];have:=B5x (A7A cs);have:=(A3g cs).length_eq;omega
 have a7:=B8u (A7T cs)
 rw[<-hC]at a7
 have au:=B3p c A D C a7.1
 have bj:=B9C c A D C
 have b8:∀z∈C,0<=z:=λz hz=>by
  have h1:=(A3g cs).mem_iff.1 (a7.2 z hz);rw[a4,hL]at h1;obtain⟨x,hx,hz⟩:=Z1M.1 h1;have bc:0<=x.1/\x.1<x.2:=by
   rcases Z0N.1 hx with h|h
   .exact⟨(w.1 x h).1,(w.1 x h).2.1⟩
   .exact⟨(a1.1 x h).1,(a1.1 x h).2.1⟩
  simp only[Z0p,Z1H,Z2R]at hz;rcases hz with rfl|rfl<;>omega
 have am:Asc (A3X c A D C):=C8t (λx hx=>b8 _ (au.2 x hx)) au.1
 refine A0r (hQ [20,32,65]) func220 ?_
 simp -dsimp
 refine A0g func54 (ag M) ?_
 simp -dsimp
 refine A0g func54 (aw M) ?_
 simp -dsimp
 refine A3R func271 (C7j gl A M Q0) ?_
 rintro v1 M1 ⟨ad,a0,a6⟩
 simp -dsimp
 refine A3B (C:=WC gl) (enc:=A1G) (e:=152) (sz:=2) (news:=D) C2G C9k C3l (λ_=>rfl) ad (by simp[A0D,A1R,Z4x]) Q0 rfl ?_
 intro v2 M2 m an ah _
 have ab:Arr 152 2 A1G M.length M1 v1 A:=⟨ad,a6⟩
 have aq:=ab.grow a0 an
 have bb:=ab.later a0.1 ah
 rw[<-hL]at m
 have af:A3k prog 80 v2=some L.length:=m.len (e':=152) Q1
 clear ab ad a6 a0 an ah
 simp -dsimp[af]
 refine A1y (hQ [20,32,65]) L.length 22 (λT Mi=>∃i:Nat,i<=L.length/\T 0=.list 2 (A1R A) .no/\T 1=.list 2 (A1R D) .no/\T 2=.func (.func g) [] []/\T 20=v2/\T 21=I L.length/\T 22=I i/\Arr 3 1 A4e M.length Mi (T 7) ((L.take i).flatMap λx=>[x.1,x.2])/\A1r 152 2 A1G Mi v2 L/\Grow M Mi/\∀f,obj v2=some f->obj (T 7)≠some f) ?_ ?_
 .exact⟨0,Q0,Q1,Q1,Q1,Q1,Q1,Q1,ZBX,m,aq,λf _=>by simp⟩
 clear m aq
 rintro T Mi ⟨i,i1,t0,t1,t2,t20,t21,t22,h7,m,hg,s⟩
 generalize ae:T 7=v7 at*
 by_cases hi:i<L.length
 case pos=>
  have o:(i:Int)<L.length:=Q0;obtain⟨x,hx⟩:=ex (L[i]);obtain⟨p,p1,_,p3,_⟩:=m.at_ (P:=prog) (t:=152) (λ_=>rfl) Q1 Q1 hi;rw[<-hx]at p3;simp only[A1G]at p3;obtain⟨b0,ar⟩:=ex (Mi.length);obtain⟨M4,aa⟩:=ex (Mi++[A0m.cells 152 [I x.1,I x.2]]);have b9:M4[b0]?=some (A0m.cells 152 [I x.1,I x.2]):=by rw[aa,ar];simp
  have a3:Grow Mi M4:=ZCK
  have a8:=h7.keep a3;have a5:=m.keep a3 Q1;have bm:((L.take i).flatMap λx=>[x.1,x.2]).length<=4194312:=by
   have e:∀l:List A0L,(l.flatMap λx=>[x.1,x.2]).length=l.length*2:=λl=>by
    induction l with
    |nil=>rfl
    |cons a l ih=>simp only[Z0y,Z0k,ih,Z0r];show 2+_=_;omega
   rw[e,Z0t];omega
  have b6:(L.take (i+1)).flatMap (λx=>[x.1,x.2])=((L.take i).flatMap λx=>[x.1,x.2])++[x.1,x.2]:=by rw[Z0z,Z0g hi,<-hx];simp
  have w1:=A6S (i:=i) Q0;simp -dsimp[t0,t1,t2,t20,t21,t22,o,p1,p3,A0j,A0k,A0e,A0o,A0n];rw[<-aa,<-ar];simp -dsimp[t0,t1,t2,t20,t21,t22,ae,A0b b9,A0x,A1g];refine A3B (C:=WC gl) (enc:=A4e) (e:=3) (sz:=1) (news:=[x.1,x.2]) B0M B4F D0y (λ_=>rfl) a8.own (by simp[A0D,A4e]) ZCH rfl ?_;intro v' M5 q1 q2 q3 _;simp -dsimp[t0,t1,t2,t20,t21,t22,w1];refine⟨⟨i+1,Q3,rfl,by rw[b6];exact⟨q1,a8.later (hg.trans a3).1 q3⟩,a5.keep q2 (λf hf=>λe=>s f hf e),a8.grow (hg.trans a3) q2,λf hf e=>?_⟩,Q3⟩;rcases q3 with q3|q3
  .exact s f hf (q3▸e)
  .have:=q3 f e;have:=a5.lt hf;omega
 have o:¬(i:Int)<L.length:=Q0
 rw[Z0e Q0,<-a4]at h7
 clear s m
 simp -dsimp[t0,t1,t2,t20,t21,t22,o,ae]
 refine A3R func62 (C5l gl cs v7 Mi h7.own Q0) ?_
 rintro r3 M3 ⟨a9,al⟩
 have ao:=h7.grow hg al
 have av:Arr 3 1 A4e M.length M3 v7 (A7A cs):=⟨a9,h7.lat⟩
 simp -dsimp[t0,t1,t2,ae]
 refine A3R func63 (C3x gl (A7A cs) v7 M3 a9 (by rw[(A3g cs).length_eq];omega)) ?_
 rintro r M5 ⟨hr,ai,bi⟩
 rw[<-hC]at hr
 have ay:=av.grow ao ai
 clear av a9 al ai h7 hg ao t20 t21 t22
 simp -dsimp[t0,t1,t2]
 refine B2Y (.exit 2) (λT Mi=>Arr 152 2 A1G M.length Mi (T 10) (A3X c A D C)/\Grow M Mi) ?_ ?_
 .refine A0M (hQ [20,32,65]) (λT Mi=>∃i:Nat,1<=i/\i<=max C.length 1/\T 0=.list 2 (A1R A) .no/\T 1=.list 2 (A1R D) .no/\T 2=.func (.func g) [] []/\T 7=r/\T 11=I i/\
   Arr 152 2 A1G M.length Mi (T 10) (A3X c A D (C.take i))/\Pre 3 1 A4e Mi r C/\Grow M Mi/\∀f,obj r=some f->obj (T 10)≠some f)
   (λT M1=>match T 11 with|.val (.int _ i)=>C.length+1-i.toNat|_=>0) Q2 ?_ ?_
  ·(have e1:A3X c A D (C.take 1)=[]:=by cases C<;>simp[A3X]);exact⟨1,Q0,Q0,by simp[t0],ZDR,by simp[t2],Q1,Q1,by rw[e1];simpa using Arr.nil,hr,ay,λf _=>by simp⟩
  clear hr ay t0 t1 t2;rintro T Mi ⟨i,i0,i1,t0,t1,t2,t7,d,k,hr,hg,s⟩;generalize u:T 10=bd at*;have ac:=hr.len;by_cases hi:i<C.length;case neg=>have o:¬(i:Int)<C.length:=Q0;rw[Z0e Q0]at k;simp -dsimp[t0,t1,t2,t7,d,ac,o,u];exact⟨k,hg⟩
  have o:(i:Int)<C.length:=Q0;obtain⟨j,hj⟩:=ex (i-1);have aj:j<C.length:=Q0;obtain⟨x,hx⟩:=ex (C[j]);obtain⟨y,hy⟩:=ex (C[i]);obtain⟨p,p1,p2⟩:=hr.at_ aj;obtain⟨q,q1,q2⟩:=hr.at_ hi;rw[<-hx]at p2;rw[<-hy]at q2;have ap:C.take i=C.take j++[x]:=by rw[show i=j+1 by omega,Z0z,Z0g aj,<-hx];rfl
  have ak:C.take (i+1)=C.take j++[x,y]:=by rw[Z0z,Z0g hi,<-hy,ap];simp
  have a2:A3X c A D (C.take (i+1))=A3X c A D (C.take i)++(if c (A8I A x) (A8I D x)=true then[(x,y)]else[]):=by rw[ak,ap];exact C1s c A D x y _
  have ax:=B9C c A D (C.take i);have w0:IntKind.i64.wrap ((i:Int)-1)=(j:Nat):=ZAW
  have w1:=A6S (i:=i) Q0;simp -dsimp[t0,t1,t2,t7,d,ac,o,w0,p1,p2];refine A0g func53 (C7f gl A .no x Mi Q0) ?_;simp -dsimp[t0,t1,t2,t7,d];refine A0g func53 (C7f gl D .no x Mi Q0) ?_;simp -dsimp[t0,t1,t2,t7,d];refine A0s (hc _ _ Mi) ?_;rintro _ Mi ⟨rfl,rfl⟩;simp -dsimp[t0,t1,t2,t7,d];clear hc;have az:1<=i:=i0;cases h:c (A8I A x) (A8I D x);case false=>rw[Z0d (by rw[h];simp),Z1b]at a2;simp -dsimp[h,t0,t1,t2,t7,d,u,w1];exact⟨⟨i+1,ZCX,ZCX,rfl,by rw[a2];exact k,hr,hg,s⟩,ZCX⟩
  rw[Z0c h]at a2;have b2:A0A prog 152 [(0,I x),(1,I y)]=some (.agg [I x,I y]):=Q2;simp -dsimp[h,t0,t1,t2,t7,d,u,w0,ac,p1,p2,q1,q2];rw[b2];simp -dsimp[t0,t1,t2,t7,d,u,A0x,A1g];have bg:(A3X c A D (C.take i)).length<=i:=by have:=ax;rw[Z0t]at this;omega
  refine A3B (C:=WC gl) (enc:=A1G) (e:=152) (sz:=2) (news:=[(x,y)]) C2G C9k C3l (λ_=>rfl) k.own (by simp[A0D,A1G]) ZCH rfl ?_;intro v' M5 u1 u2 u3 _;rw[<-a2]at u1;simp -dsimp[t0,t1,t2,t7,d,w1];refine⟨⟨i+1,ZCX,ZCX,rfl,⟨u1,k.later hg.1 u3⟩,hr.keep (λf hf=>u2.2 f (hr.lt hf) (λe=>s f hf e)),k.grow hg u2,λf hf e=>?_⟩,ZCX⟩;rcases u3 with u3|u3
  .exact s f hf (u3▸e)
  .have:=u3 f e;have:=hr.lt hf;omega
 rintro T Mi ⟨k,hg⟩
 refine⟨M.length,T.put (some 10) (.list 2 (A1R (A3X c A D C)) .no),A6W (A7k T) (Still.rows (λ_=>rfl) (λ_ _ _=>trivial) k.own k.lat .nil),?_⟩
 have a0:=A5c hg
 generalize A3y Mi M.length=M2 at*
 simp -dsimp[Env.put_some]
 refine A0g func54 (D7E gl (A3X c A D C) .no M2 am Q0) ?_
 simp -dsimp[a0]
end
def C3Z{A D:List A0L}(a:A5S A)(c:A5S D):(∀z∈C4d A D,0<=z)/\(C4d A D).Pairwise (·<·):=by
 have b:=B8u (A7T ((A++D).flatMap λx=>[x.1,x.2]));refine⟨λz hz=>?_,b.1⟩;have h1:=(A3g _).mem_iff.1 (b.2 z hz);obtain⟨x,hx,hz⟩:=Z1M.1 h1;have d:0<=x.1/\x.1<x.2:=by
  rcases Z0N.1 hx with h|h
  .exact⟨(a.1 x h).1,(a.1 x h).2.1⟩
  .exact⟨(c.1 x h).1,(c.1 x h).2.1⟩
 simp only[Z0p,Z1H,Z2R]at hz;rcases hz with rfl|rfl<;>omega
def C0A(c:Bool->Bool->Bool){a b:List A0L}(ha:Asc a)(hb:Asc b):A5S (C1m c a b):=by have hz:=C3Z (A7N ha) (A7N hb);have d:=B3p c (A3J a) (A3J b) _ hz.2;exact A7N (C8t (λx hx=>hz.1 _ (d.2 x hx)) d.1)
def C2x:Asc []:=by simp[Asc,A7t]
def B2U{l:List A0L}(h:Asc l)(d:Int):A5S (B4P l d):=C0A _ h (B6Y _)
def B9d{l:List A0L}(h:Asc l)(d:Int):A5S (C4v l d):=C0A _ (B2U h d).asc' (B6Y _)
section
variable (gl:Nat->AV)
def D8N(x y:Bool)(M:Mem):A2Z (WC gl) 221 [B x,B y] M (λv M'=>v=B (x||y)/\M'=M):=by refine A0l func221 rfl rfl ?_;refine A0r (hQ []) func221 ?_;cases x<;>cases y<;>simp -dsimp
def D7H(x y:Bool)(M:Mem):A2Z (WC gl) 222 [B x,B y] M (λv M'=>v=B (x&&y)/\M'=M):=by refine A0l func222 rfl rfl ?_;refine A0r (hQ []) func222 ?_;cases x<;>cases y<;>simp -dsimp
def D3F(a b:List A0L)(va vb:AV)(e:SpV va a)(d:SpV vb b)(M:Mem)(ha:Asc a)(hb:Asc b)(c:a.length<=10000000)(f:b.length<=10000000):A0c (WC gl) 143 [va,vb] M (λv M'=>v=.list 2 (A1R (C6i a b)) .no/\M'=M):=by
 refine A0r (hQ [20,32,65]) func143 ?_
 simp -dsimp
 refine A0g func220 (C9n gl _ 221 (D8N gl) a b va vb e d M ha hb c f) ?_
 simp -dsimp[C6i]
def D4R(a b:List A0L)(va vb:AV)(e:SpV va a)(d:SpV vb b)(M:Mem)(ha:Asc a)(hb:Asc b)(c:a.length<=10000000)(f:b.length<=10000000):A0c (WC gl) 146 [va,vb] M (λv M'=>v=.list 2 (A1R (C7U a b)) .no/\M'=M):=by
 refine A0r (hQ [20,32,65]) func146 ?_
 simp -dsimp
 refine A0g func220 (C9n gl _ 222 (D7H gl) a b va vb e d M ha hb c f) ?_
 simp -dsimp[C7U]
def C5A(a:List A0L)(va:AV)(e:SpV va a)(d:Int)(M:Mem)(ha:Asc a)(b:a.length<=10000000):A0c (WC gl) 107 [va,I d] M (λv M'=>v=.list 2 (A1R (B4P a d)) .no/\M'=M):=by
 have c:A0A prog 152 [(0,I 0),(1,I d)]=some (.agg [I 0,I d]):=Q2
 have h1:=D4R gl a [(0,d)] va _ e (SpV.of .full) M ha (B6Y _) b Q1
 refine A0r (hQ [20,32,65]) func107 ?_
 simp -dsimp
 try rw[c]
 simp -dsimp[A0x,A1g]
 refine A0g func146 h1 ?_
 simp -dsimp[B4P]
def D2K(a:List A0L)(va:AV)(e:SpV va a)(d:Int)(M:Mem)(ha:Asc a)(b:a.length<=10000000):A0c (WC gl) 105 [va,I d] M (λv M'=>v=.list 2 (A1R (C4v a d)) .no/\M'=M):=by
 have c:A0A prog 152 [(0,I d),(1,I A2T)]=some (.agg [I d,I A2T]):=Q2
 have hn:=B2U ha d
 have h1:=D3F gl (B4P a d) [(d,A2T)] _ _ (SpV.of .no) (SpV.of .full) M hn.asc' (B6Y _) (by have:=A4U hn;omega) Q1
 refine A0r (hQ [20,32,65]) func105 ?_
 simp -dsimp
 refine A0g func107 (C5A gl a va e d M ha b) ?_
 simp -dsimp
 try rw[c]
 simp -dsimp[A0x,A1g]
 refine A0g func143 h1 ?_
 simp -dsimp[C4v]
def D6g(n:Nat)(l:List Int):bdd n (.list 1 (A4X l) .no):=by
 simp only[bdd,Z1A];induction l with
 |nil=>simp[A4X,A4n]
 |cons a l ih=>simp only[A4X,Z0x,A4n]at ih|-;exact⟨by simp[A1i,bdd],ih⟩
def B0Y(x:A0L):List Int:=if x.2<A2T then[x.1,x.2]else[x.1]
def C8S(l:List A0L):(l.flatMap B0Y).length<=l.length*2:=by
 induction l with
 |nil=>simp
 |cons a l ih=>simp only[Z0y,Z0k,Z0r];(have:(B0Y a).length<=2:=by(simp only[B0Y];split<;>simp));omega
set_option maxHeartbeats 1000000 in
def D1K(l:List A0L)(va:AV)(y:SpV va l)(M:Mem)(ha:Asc l)(hl:l.length<=10000000):A0c (WC gl) 61 [va] M (λv M'=>v=.list 1 (A4X (A5Q l)) .no/\M'=M):=by
 refine A1N (λn=>D6g n _) ?_;have hn:=A7N ha;have h1:=B1U gl y M ha hl;have u:A5Q l=(A3J l).flatMap B0Y:=rfl;rw[u];generalize A3J l=L at*;have hL:=A4U hn;refine A0r (hQ [17,25]) func61 ?_;simp -dsimp;refine A0g func54 h1 ?_;simp -dsimp;refine B2Y (.exit 0) (λT Mi=>Arr 3 1 A4e M.length Mi (T 3) (L.flatMap B0Y)/\Grow M Mi) ?_ ?_
 .refine A1y (hQ [17,25]) L.length 9 (λT Mi=>∃i:Nat,i<=L.length/\T 7=.list 2 (A1R L) .no/\T 8=I L.length/\T 9=I i/\Arr 3 1 A4e M.length Mi (T 3) ((L.take i).flatMap B0Y)/\Grow M Mi) ?_ ?_
  .exact⟨0,Q0,Q1,Q1,Q1,ZBX,A0d.refl _ _⟩
  rintro T Mi ⟨i,i1,t7,t8,t9,h3,hg⟩;generalize o:T 3=v3 at*;by_cases hi:i<L.length;case neg=>have g:¬(i:Int)<L.length:=Q0;rw[Z0e Q0]at h3;simp -dsimp[t7,t8,t9,g,o];exact⟨h3,hg⟩
  have g:(i:Int)<L.length:=Q0;have w1:=A6S (i:=i) Q0;obtain⟨x,hx⟩:=ex (L[i]);have s:=B8I hi;rw[<-hx]at s;have a:(L.take (i+1)).flatMap B0Y=((L.take i).flatMap B0Y)++B0Y x:=by rw[Z0z,Z0g hi,<-hx];simp
  have t:=C8S (L.take i);rw[Z0t]at t;obtain⟨b0,j⟩:=ex (Mi.length);obtain⟨M4,b⟩:=ex (Mi++[A0m.cells 152 [I x.1,I x.2]]);have r:M4[b0]?=some (A0m.cells 152 [I x.1,I x.2]):=by rw[b,j];simp
  have f:Grow Mi M4:=ZCN
  have k:=h3.keep f;simp -dsimp[t7,t8,t9,hi,g,s,A0j,A0k,A0e,A0o,A0n];rw[<-hx,<-b,<-j];simp -dsimp[t7,t8,t9,o,A0b r,A0x,A1g];refine A3B (C:=WC gl) (enc:=A4e) (e:=3) (sz:=1) (news:=[x.1]) B0M B4F D0y (λ_=>rfl) k.own (by simp[A0D,A4e]) ZCH rfl ?_;intro v' M5 u1 u2 u3 _;have c:Arr 3 1 A4e M.length M5 v' ((L.take i).flatMap B0Y++[x.1]):=⟨u1,k.later (hg.trans f).1 u3⟩;have m:=k.grow (hg.trans f) u2;have a1:obj v3≠some b0:=λe=>by have:=h3.own.lt e;omega
  have q:M5[b0]?=some (A0m.cells 152 [I x.1,I x.2]):=by rw[u2.2 b0 (by rw[b,j];simp) a1];exact r
  by_cases hf:x.2<1048577;case neg=>
   (have d:B0Y x=[x.1]:=by simp only[B0Y,A2T];rw[Z0d hf]);rw[d]at a
   simp -dsimp[t7,t8,t9,A0b q,hf,w1];exact⟨⟨i+1,Q3,rfl,by rw[a];exact c,m⟩,Q3⟩
  have d:B0Y x=[x.1,x.2]:=by simp only[B0Y,A2T];rw[Z0c hf]
  rw[d]at a;simp -dsimp[t7,t8,t9,A0b q,hf,A0x,A1g];refine A3B (C:=WC gl) (enc:=A4e) (e:=3) (sz:=1) (news:=[x.2]) B0M B4F D0y (λ_=>rfl) c.own (by simp[A0D,A4e]) (by simp only[Z0k,Z0r,Z1p];omega) rfl ?_;intro a0 M6 y1 y2 y3 _;have z:Arr 3 1 A4e M.length M6 a0 (((L.take i).flatMap B0Y++[x.1])++[x.2]):=⟨y1,c.later m.1 y3⟩;simp -dsimp[t7,t8,t9,w1];exact⟨⟨i+1,Q3,rfl,by rw[a];simpa using z,c.grow m y2⟩,Q3⟩
 rintro T Mi ⟨p,hg⟩;refine⟨M.length,T.put (some 3) (.list 1 (A4X (L.flatMap B0Y)) .no),A6W (A7k T) (Still.rows (λ_=>rfl) (λ_ _ _=>trivial) p.own p.lat .nil),?_⟩;have w:=A5c hg;generalize A3y Mi M.length=M2 at*;simp -dsimp[Env.put_some,w]
end
def A0H.row_all(x:A0H):x.row=[I x.h.kind,.list 2 (A0O x.h.at_) .no,.list 2 (A0O x.h.to) .no,I x.h.where_,I x.h.nth,I x.h.unit.id.act,I x.h.unit.id.item,I x.h.unit.id.n,I x.h.unit.kind,S x.h.unit.label,.list 4 (A0i x.h.unit.head) .no,.list 4 (A0i x.h.unit.words) .no,.list 8 (A0t x.h.unit.kids) .no,.list 1 (A0K x.h.old) .no,.list 1 (A0K x.h.new) .no,S x.h.lab,S x.h.for_,I x.h.start.k,I x.h.start.day,S x.h.start.ev,I x.h.act,I x.h.item,I x.h.day,S x.h.ev,.list 25 (A1w x.by_) .no]:=by rw[A0H.row_eq];rfl
def EnD.row_all(d:EnD):d.row=[I d.act,I d.item,I d.day,I d.it.h.kind,.list 2 (A0O d.it.h.at_) .no,.list 2 (A0O d.it.h.to) .no,I d.it.h.where_,I d.it.h.nth,I d.it.h.unit.id.act,I d.it.h.unit.id.item,I d.it.h.unit.id.n,I d.it.h.unit.kind,S d.it.h.unit.label,.list 4 (A0i d.it.h.unit.head) .no,.list 4 (A0i d.it.h.unit.words) .no,.list 8 (A0t d.it.h.unit.kids) .no,.list 1 (A0K d.it.h.old) .no,.list 1 (A0K d.it.h.new) .no,S d.it.h.lab,S d.it.h.for_,I d.it.h.start.k,I d.it.h.start.day,S d.it.h.start.ev,I d.it.h.act,I d.it.h.item,I d.it.h.day,S d.it.h.ev,.list 25 (A1w d.it.by_) .no]:=by rw[EnD.row,A0H.row_all]
def A6N{l:List EnD}{i:Nat}(hi:i<l.length):(A2L l)[i]?=some l[i].row:=by simp[A2L,hi]
@[simp] def E0s{p:List EnD}{i:Nat}(h:i<(A2L p).length):(A2L p)[i]=(p[i]'ZAJ).row:=by simp[A2L]
@[simp] def EnD.row_take(d:EnD):List.take 28 d.row=d.row:=Z0e Q1
def C2H(p:EnD->Bool):List EnD->Nat->Int
 |[],_=>-1
 |d::l,i=>if p d=true then i else C2H p l (i+1)
def C0w(p:EnD->Bool):∀(l:List EnD) (i:Nat),(l.find? p=none/\C2H p l i=-1)\/∃j,∃h:j<l.length,l.find? p=some l[j]/\C2H p l i=((i+j:Nat):Int)
 |[],_=>.inl ⟨rfl,rfl⟩
 |d::l,i=>by
  rw[C2H];by_cases h:p d=true
  .exact .inr ⟨0,Q1,by simp[h],by simp[h]⟩
  .rw[Z0d h];rcases C0w p l (i+1)with⟨h1,h2⟩|⟨j,hj,h1,h2⟩
   .exact .inl ⟨by simp[h,h1],h2⟩
   .exact .inr ⟨j+1,ZAB,by simp[h,h1],by rw[h2];congr 1;omega⟩
section
variable (gl:Nat->AV)
def D7z(p:EnD->Bool)(g:FuncId)(cap:List AV)(l:List EnD)(o:Own)(M:Mem)(hl:l.length<=10000000)(hp:∀u∈l,A2Z (WC gl) g (.agg u.row::cap) M (λv M'=>v=B (p u)/\M'=M)):
 A0c (WC gl) 144 [.list 28 (A2L l) o,.func (.func g) [] cap] M (λv M'=>v=I (C2H p l 0)/\M'=M):=by
 refine A0r hB func144 ?_
 simp -dsimp
 refine A1y hB l.length 8 (λT M1=>∃i:Nat,i<=l.length/\M1=M/\T 0=.list 28 (A2L l) o/\T 1=.func (.func g) [] cap/\T 7=I l.length/\T 8=I i/\C2H p l 0=C2H p (l.drop i) i) ?_ ?_
 .exact⟨0,Q0,rfl,Q1,Q1,Q1,Q1,Q1⟩
 .rintro T M1 ⟨i,i1,rfl,t0,t1,t7,t8,ho⟩;by_cases hi:i<l.length
  .have a:(i:Int)<l.length:=Q0;have w1:=A6S (i:=i) Q0;have hd:l.drop i=l[i]::l.drop (i+1):=Z0m hi;rw[hd,C2H]at ho;simp -dsimp[t0,t1,t7,t8,hi,a,A6N hi];refine A0s (hp l[i] (Z0s hi)) ?_;rintro _ _ ⟨rfl,rfl⟩;cases hq:p l[i]
   .rw[hq,Z0d Q1]at ho;simp -dsimp[t0,t1,t7,t8,w1];exact⟨⟨i+1,Q3,rfl,ho⟩,Q3⟩
   .rw[hq,Z0c rfl]at ho;simp -dsimp[t0,t1,t7,t8,ho]
  .have a:¬(i:Int)<l.length:=Q0;rw[Z1u Q0,C2H]at ho;simp -dsimp[t0,t1,t7,t8,a,ho]
def D0s(nm:ByteArray)(d:EnD):Bool:=decide (d.kind=10)&&decide (d.it.h.ev=nm)
def D5X(nm:ByteArray)(d:EnD)(M:Mem):A2Z (WC gl) 145 [.agg d.row,.cptr [S nm]] M (λv M'=>v=B (D0s nm d)/\M'=M):=by
 refine A0l func145 rfl rfl ?_;refine A0r hB func145 ?_;rw[EnD.row_all];by_cases h:d.it.h.kind=10
 .simp -dsimp[D0s,h]
 .simp -dsimp[D0s,h]
def D1u(nm:ByteArray)(l:List EnD):B2P nm l=(l.find? (D0s nm)).map λd=>d.it.h.day:=rfl
def D3x(nm:ByteArray)(l:List EnD)(o:Own)(M:Mem)(hl:l.length<=10000000):A0c (WC gl) 106 [S nm,.list 28 (A2L l) o] M (λv M'=>v=.tuple [I ((B2P nm l).getD 0),B (B2P nm l).isSome]/\M'=M):=by
 have hc:=D7z gl (D0s nm) 145 [.cptr [S nm]] l o M hl (λu _=>D5X gl nm u M);rw[D1u];refine A0r hB func106 ?_;simp -dsimp;refine A0g func144 hc ?_;rcases C0w (D0s nm) l 0 with⟨h1,h2⟩|⟨j,hj,h1,h2⟩
 .rw[h1,h2];simp -dsimp
 .rw[h1,h2];simp -dsimp[hj,A6N hj,EnD.row_all]
@[simp] def A1J.row_len(s:A1J):s.row.length=3:=(rfl)
@[simp] def A1J.row_take(s:A1J):List.take 3 s.row=s.row:=(rfl)
def SpN(v:AV)(l:List A0L):Prop:=v=.list 2 (A1R l) .no\/(v=.val (.slice none 0 0)/\l=[])
def SpN.toV{v:AV}{l:List A0L}(h:SpN v l):SpV v l:=by
 rcases h with rfl|⟨rfl,rfl⟩
 .exact .of _
 .exact .nil
def SpN.bdd{v:AV}{l:List A0L}(h:SpN v l)(n:Nat):bdd n v:=by
 rcases h with rfl|⟨rfl,rfl⟩
 .exact D5h n _ _ rfl
 .trivial
def D5r(a s:A1J)(M:Mem):A0c (WC gl) 82 [.agg a.row,.agg s.row] M (λv M'=>v=.agg (B1I a s).row/\M'=M):=by
 refine A0c.dataX ?_;refine A0r hB func82 ?_;by_cases h:s.k=0
 .simp -dsimp[A1J.row,B1I,h,A0j,A0k,A0e,A0o,A0n];simp -dsimp[A2g,A0p];refine⟨A0d.app none _ _,?_⟩;rw[show B1I a s=a by simp[B1I,h],A1J.row];exact Still.refl λc hc=>by simp only[Z0L]at hc;subst hc;simp[bdd,A1i]
 .simp -dsimp[A1J.row,B1I,h,A0j,A0k,A0e,A0o,A0n];simp -dsimp[A2g,A0p];refine⟨A0d.app none _ _,?_⟩;rw[show B1I a s=s by simp[B1I,h],A1J.row];exact Still.refl λc hc=>by simp only[Z0L]at hc;subst hc;simp[bdd,A1i]
def B0Q(s:A1J)(l:List EnD):Bool:=!decide (s.k=1)&&!(decide (s.k=3)&&(B2P s.ev l).isSome)
def D0E{s:A1J}{l:List EnD}(h:B0Q s l=true):B0Z s l=[]:=by
 simp only[B0Q,Z0h,Z2C,decide_eq_false_iff_not]at h;obtain⟨h1,h2⟩:=h;rw[B0Z,Z0d h1];split
 .rename_i h3;cases he:B2P s.ev l with
  |none=>rfl
  |some d=>simp[h3,he]at h2
 .rfl
def D7C(s:A1J)(l:List EnD)(o:Own)(M:Mem)(hl:l.length<=10000000):A0c (WC gl) 81 [.agg s.row,.list 28 (A2L l) o] M (λv M'=>v=(if B0Q s l=true then .val (.slice none 0 0)else .list 2 (A1R (B0Z s l)) .no)/\M'=M):=by
 have hx:=λd M=>D2K gl [] _ .nil d M C2x Q1;refine A0r hB func81 ?_;rw[A1J.row];by_cases h1:s.k=1
 .have e:B0Z s l=C4v [] s.day:=by rw[B0Z,Z0c h1]
  have e2:B0Q s l=false:=by simp[B0Q,h1]
  rw[e,e2];simp -dsimp[h1];refine A0g func105 (hx _ _) ?_;simp -dsimp
 by_cases h3:s.k=3
 .simp -dsimp[h1,h3];refine A0g func106 (D3x gl s.ev l o M hl) ?_;cases h:B2P s.ev l with
  |none=>
   (have e2:B0Q s l=true:=by simp[B0Q,h1,h]);rw[e2]
   simp -dsimp
  |some d=>
   (have e:B0Z s l=C4v [] d:=by rw[B0Z,Z0d h1,Z0c h3,h]);have e2:B0Q s l=false:=by simp[B0Q,h3,h]
   rw[e,e2];simp -dsimp;refine A0g func105 (hx _ _) ?_;simp -dsimp
 .have e2:B0Q s l=true:=by simp[B0Q,h1,h3]
  rw[e2];simp -dsimp[h1,h3]
end
def B9y(t e:TypeId)(c:A8r prog t=some (3,e)):B2z prog t 3 e I:=by
 refine⟨c,Q2,λk=>?_,λa b=>?_,λa=>⟨.int .i64 a,by simp[A7Z],?_⟩⟩
 .simp[A4P]
 .simp[B0m];by_cases h1:a=b
  .subst h1;simp
  .simp[h1]
 .simp[Instr.sameBits]
def D8D:B2z prog 146 3 144 I:=B9y 146 144 Q2
def tuL:List (Int×FuncId):=[(7,105),(9,105),(8,107)]
def tuE:List (AV×AV×Nat):=[(I 7,fnV 105,0),(I 9,fnV 105,1),(I 8,fnV 107,2)]
def C6l{k:Int}{v:AV}{es:List (AV×AV×Nat)}{c:Nat}{M:Mem}(h4:A2Q prog 3 (I k) es=some none):A2b prog 146 (M++[.map es c]) (.mapr M.length) (I k) v=some (M++[.map (es++[(I k,v,c)]) (c+1)]):=C2L (kt:=3) (et:=144) Q2 Q2 rfl h4
def C0V(k:Int):AV:=if k=8 then fnV 107 else if B3B k=true then fnV 105 else .val .nilFunc
def C8W{M:Mem}{b:Nat}(h:M[b]?=some (.map tuE 3))(k:Int):A1Y prog 146 M (.mapr b) (I k) true=some (.tuple [C0V k,B (B3B k)]):=by
 have hm:A3n I fnV M b tuL:=⟨tuE,3,h,rfl⟩;have hg:=hm.get D8D k (z:=.val .nilFunc) Q2 true;rw[hg];by_cases h7:k=7
 .subst h7;rfl
 by_cases h9:k=9
 .subst h9;rfl
 by_cases h8:k=8
 .subst h8;rfl
 simp[A5i,tuL,h7,h8,h9,C0V,B3B]
section
variable (gl:Nat->AV)
def C4F(M:Mem):A0c (WC gl) 83 [] M (λv M'=>v=.mapr M.length/\M'=M++[.map tuE 3]):=by refine A0r hB func83 ?_;simp -dsimp;rw[C6l Q2];simp -dsimp;rw[C6l Q2];simp -dsimp;rw[C6l Q2];simp -dsimp;rfl
def C9O(x:A0H)(a i:Int)(M:Mem):A0c (WC gl) 84 [.agg x.row,I a,I i] M (λv M'=>v=B (A7q x a i)/\M'=M):=by
 refine A1N (λ_=>trivial) ?_;obtain⟨M1,b⟩:=ex (M++[A0m.map tuE 3]);have d:M1[M.length]?=some (.map tuE 3):=by rw[b];simp
 have c:Grow M M1:=ZCN
 have ht:=C4F gl M;rw[<-b]at ht;refine A0r hB func84 ?_;rw[A0H.row_all];by_cases h1:x.h.act=a;case neg=>simp -dsimp[h1,A7q,A0d.refl]
 by_cases h2:x.h.kind=11
 .simp -dsimp[h1,h2,A7q];exact⟨rfl,A0d.refl _ _⟩
 .simp -dsimp[h1,h2,A7q];refine A0X hB (A0B gl) (λk=>if k=0 then 2 else if k=3 then 1 else 0) (λ_=>M.length) (by rfl) Q2 ?_;simp -dsimp;refine A5R (A0l func83 rfl rfl ht) ?_;simp -dsimp[C8W d,A1e];cases h3:B3B x.h.kind
  .simp -dsimp[c];simp[A7q,h1,h2,h3]
  .by_cases h4:x.h.item=i
   .simp -dsimp[h4,c];simp[A7q,h1,h2,h3,h4]
   .simp -dsimp[h4,c];rw[Bool.beq_eq_decide_eq];simp[A7q,h1,h2,h3,h4]
def A5L(s:A1J)(d:EnD)(l:List EnD)(i:Nat):List A0L:=(l.take i).foldl (A8G d.act d.item) (B0Z (B1I s d.it.h.start) l)
def B5f:A5S []:=⟨Q1,.nil⟩
def D1L(s:A1J)(l:List EnD):A5S (B0Z s l):=by
 unfold B0Z;split
 .exact B9d C2x _
 split
 .split
  .exact B9d C2x _
  .exact B5f
 .exact B5f
def C9T{L:List A0L}(h:A5S L)(k day:Int):A5S (B8Q k L day):=by
 unfold B8Q;split
 .exact B2U h.asc' _
 .exact B9d h.asc' _
def C6w{L:List A0L}(h:A5S L)(a i:Int)(o:EnD):A5S (A8G a i L o):=by
 unfold A8G;split
 .exact C9T h _ _
 .exact h
def B5r(s:A1J)(d:EnD)(l:List EnD):∀i,i<=l.length->A5S (A5L s d l i)
 |0,_=>by simpa[A5L]using D1L _ _
 |i+1,h=>by have:=B5r s d l i Q0;rw[A5L,Z0z,Z0g Q0,Z0T,Z1X];exact C6w this _ _ _
def D6Y(b n:Nat):∀i,(λk=>if k=0 then 2 else if k=3\/k=4 then 1 else 0) i=1->(λk=>k==4) i=false->(λk=>if k=3 then b else n) i∈[b]:=by
 intro i h1 h2;simp only[Z1R,ne_eq]at h1 h2;by_cases h3:i=3
 .simp[h3]
 .by_cases h0:i=0<;>simp[h0,h3,h2]at h1
def B0f(d o:EnD):Bool:=B3B o.kind&&A7q o.it d.act d.item
def A9v(s:A1J)(d:EnD)(l:List EnD)(i:Nat):AV:=if(B0Q (B1I s d.it.h.start) l&&!((l.take i).any (B0f d)))=true then .val (.slice none 0 0)else .list 2 (A1R (A5L s d l i)) .no
def B6A(d:EnD):∀(l:List EnD) (L:List A0L),l.any (B0f d)=false->l.foldl (A8G d.act d.item) L=L
 |[],_,_=>rfl
 |o::l,L,h=>by rw[Z2Z,Z3V]at h;rw[Z1U,A8G,Z0d (by simpa[B0f]using h.1)];exact B6A d l L h.2
def C0E(s:A1J)(d:EnD)(l:List EnD)(i:Nat):SpN (A9v s d l i) (A5L s d l i):=by
 unfold A9v;split
 .rename_i h;simp only[Z0h,Z2C]at h;refine .inr ⟨rfl,?_⟩;rw[A5L,B6A d _ _ h.2,D0E h.1]
 .exact .inl rfl
def C7B(s:A1J)(d:EnD)(l:List EnD){i:Nat}(hi:i<l.length):A9v s d l (i+1)=if B0f d l[i]=true then .list 2 (A1R (A5L s d l (i+1))) .no else A9v s d l i:=by
 have a:A5L s d l (i+1)=A8G d.act d.item (A5L s d l i) l[i]:=by rw[A5L,Z0z,Z0g hi,Z0T,Z1X];rfl
 unfold A9v;rw[Z0z,Z0g hi,Z0T,List.any_append];by_cases h:B0f d l[i]=true
 .simp[h]
 .have e:A8G d.act d.item (A5L s d l i) l[i]=A5L s d l i:=by rw[A8G,Z0d (by simpa[B0f]using h)]
  rw[Z0d h,a,e];simp only[Bool.not_eq_true]at h;simp only[Z2Z,List.any_nil,h,Z3k]
def B7T(s:A1J)(d:EnD)(l:List EnD):AV:=if A1a d.kind=true then A9v s d l l.length else .val (.slice none 0 0)
def C0x(s:A1J)(d:EnD)(l:List EnD):SpN (B7T s d l) (B1G s d l):=by
 unfold B7T B1G;split
 .have:=C0E s d l l.length;rwa[A5L,Z3h]at this
 .exact .inr ⟨rfl,rfl⟩
set_option maxHeartbeats 1000000 in
def C8g(s:A1J)(d:EnD)(l:List EnD)(o:Own)(M:Mem)(hl:l.length<=10000000):A0c (WC gl) 52 [.agg s.row,.agg d.row,.list 28 (A2L l) o] M (λv M'=>v=B7T s d l/\M'=M):=by
 refine A1N (λn=>(C0x s d l).bdd n) ?_;refine A0r hB func52 ?_;by_cases h0:A1a d.kind=true;case neg=>
  have e:B7T s d l=.val (.slice none 0 0):=by rw[B7T,Z0d h0]
  rw[e];have ad:d.it.h.kind<0\/(0<=d.it.h.kind/\6<d.it.h.kind):=by simp only[A1a,EnD.kind,Z0h,Z0n]at h0;omega
  rw[EnD.row_all];rcases ad with h|⟨h,h'⟩
  .simp -dsimp[h];exact A0d.refl _ _
  .have hn:¬d.it.h.kind<0:=Q0;simp -dsimp[hn,h'];exact A0d.refl _ _
 have e:B7T s d l=A9v s d l l.length:=by rw[B7T,Z0c h0]
 rw[e];simp only[A1a,EnD.kind,Z0h,Z0n]at h0;have hn:¬d.it.h.kind<0:=Q0;have aa:¬6<d.it.h.kind:=Q0;rw[EnD.row_all];simp -dsimp[hn,aa];have r:=λM=>D7C gl (B1I s d.it.h.start) l o M hl;have w:=λM=>D5r gl s d.it.h.start M;rw[A1J.row]at w;refine A0g func82 (D5r gl s d.it.h.start M) ?_;simp -dsimp;refine A0g func81 (r M) ?_;simp -dsimp;refine A1y hB l.length 31 (λT Mi=>∃i:Nat,i<=l.length/\T 4=.cptr d.row/\T 29=.list 28 (A2L l) o/\T 30=I l.length/\T 31=I i/\T 7=A9v s d l i/\Grow M Mi) ?_ ?_
 .exact⟨0,Q0,by simp[EnD.row_all],Q1,Q1,Q1,by simp[A9v,A5L],A0d.refl _ _⟩
 rintro T Mi ⟨i,i1,t4,b,a,t31,hv,hg⟩;have u:=C0E s d l i;have g:=λh=>C7B s d l (i:=i) h;obtain⟨v7,y⟩:∃v,v=A9v s d l i:=⟨_,rfl⟩;rw[<-y]at hv u g;by_cases hi:i<l.length;case neg=>have q:¬(i:Int)<l.length:=Q0;obtain rfl:i=l.length:=Q0;simp -dsimp[t4,b,a,t31,q,hv];exact⟨y,hg⟩
 have q:(i:Int)<l.length:=Q0;have w1:=A6S (i:=i) Q0;obtain⟨x,hx⟩:=ex (l[i]);have a5:=A6N hi;rw[<-hx]at a5;have a9:A5L s d l (i+1)=A8G d.act d.item (A5L s d l i) x:=by rw[A5L,Z0z,Z0g hi,<-hx,Z0T,Z1X];rfl
 have a2:=B5r s d l i i1;obtain⟨b0,a1⟩:=ex (Mi.length);obtain⟨M4,p⟩:=ex (Mi++[A0m.cells 55 x.row]);have a4:M4[b0]?=some (A0m.cells 55 x.row):=by rw[p,a1];simp
 have a8:Grow Mi M4:=by rw[p];exact A0d.app none _ _
 obtain⟨M5,t⟩:=ex (M4++[A0m.map tuE 3]);have ab:M5[M4.length]?=some (.map tuE 3):=by rw[t];simp
 have a7:Grow M4 M5:=ZCL
 have f:=a7.get a4 Q1;have c:=(hg.trans a8).trans a7;have ht:=C4F gl M4;rw[<-t]at ht;simp -dsimp[t4,b,a,t31,hi,q,a5,A0j,A0k,A0e,A0o,A0n];rw[<-hx,<-p,<-a1];refine A9V hB (A0B gl) (λk=>if k=0 then 2 else if k=3\/k=4 then 1 else 0) (λk=>if k=3 then b0 else M4.length) (λk=>k==4) [b0] (D6Y b0 M4.length) (by rfl) Q2 ?_;simp -dsimp;refine A5R (A0l func83 rfl rfl ht) ?_;have ac:M5[b0]?=M4[b0]?:=by rw[f,a4]
 have a6:A0E prog 3 M5 (.ptr b0 3)=some (I x.it.h.kind):=by rw[A0b f,EnD.row_all];simp
 simp -dsimp[a6,C8W ab,A1e,ac];have m:A0E prog 53 M5 (.ptr b0 3)=some (.agg x.it.row):=by rw[A0b f,EnD.row];simp[A0p]
 have a0:A0E prog 3 M5 (.ptr b0 25)=some (I x.it.h.day):=by rw[A0b f,EnD.row_all];simp
 by_cases hk:B3B x.it.h.kind=true;case neg=>
  have z:B3B x.it.h.kind=false:=by simpa using hk
  have ho:A9v s d l (i+1)=v7:=by rw[g hi,<-hx,Z0d (by simp[B0f,EnD.kind,z])]
  simp -dsimp[z,b,a,t31,w1];exact⟨⟨i+1,Q3,t4,rfl,by rw[ho,hv],c⟩,Q3⟩
 simp -dsimp[hk,m,t4,EnD.row_all];refine A0g func84 (C9O gl x.it d.act d.item M5) ?_;cases hr:A7q x.it d.act d.item
 .have ho:A9v s d l (i+1)=v7:=by rw[g hi,<-hx,Z0d (by simp[B0f,hr])]
  simp -dsimp[hr,b,a,t31,w1];exact⟨⟨i+1,Q3,t4,rfl,by rw[ho,hv],c⟩,Q3⟩
 have ho:A5L s d l (i+1)=B8Q x.it.h.kind (A5L s d l i) x.it.h.day:=by rw[a9,A8G,Z0c (by simp[hk,hr])]
 have a3:A9v s d l (i+1)=.list 2 (A1R (B8Q x.it.h.kind (A5L s d l i) x.it.h.day)) .no:=by rw[g hi,<-hx,Z0c (by simp[B0f,EnD.kind,hk,hr]),ho]
 simp -dsimp[hr,b,a,t31,w1,hv,a0];have j:=a2.asc';have ae:=A4U a2;by_cases h8:x.it.h.kind=8
 .have e1:C0V x.it.h.kind=fnV 107:=by simp[C0V,h8]
  rw[e1];simp -dsimp;refine A0g func107 (C5A gl _ v7 u.toV x.it.h.day M5 j Q0) ?_;simp -dsimp[b,a,t31,w1];exact⟨⟨i+1,Q3,t4,rfl,by rw[a3,B8Q,Z0c h8],c⟩,Q3⟩
 .have e1:C0V x.it.h.kind=fnV 105:=by simp[C0V,h8,hk]
  rw[e1];simp -dsimp;refine A0g func105 (D2K gl _ v7 u.toV x.it.h.day M5 j Q0) ?_;simp -dsimp[b,a,t31,w1];exact⟨⟨i+1,Q3,t4,rfl,by rw[a3,B8Q,Z0d h8],c⟩,Q3⟩
end
section
@[simp] def A0Y.row_len(a:A0Y):a.row.length=7:=(rfl)
@[simp] def A0Y.row_take(a:A0Y):List.take 7 a.row=a.row:=(rfl)
def C1C{l:List A0H}{i:Nat}(hi:i<l.length):(A1w l)[i]?=some l[i].row:=by simp[A7d,hi]
def B4m{l:List A0Y}{i:Nat}(hi:i<l.length):(A5o l)[i]?=some l[i].row:=by simp[A5o,hi]
def D7x(a i d:Int)(x:A0H):A0A prog 55 [(0,I a),(1,I i),(2,I d),(3,.agg x.row)]=some (.agg (EnD.row ⟨a,i,d,x⟩)):=by rw[EnD.row_all,A0H.row_all];kernel_rfl
def C6C(a:A0Y)(i:Nat)(hi:i<a.items.length):(A1I a).take (i+1)=(A1I a).take i++[⟨a.number,(i:Int),a.day,a.items[i]⟩]:=by
 have h:i<(A1I a).length:=by simpa[A1I]using hi
 rw[Z0z,Z0g h];simp[A1I]
def A8d(a:A0Y):(A1I a).length=a.items.length:=by simp[A1I]
def B2h(n:Nat)(l:List A1o):A4n n (A0O l):=by
 induction l with
 |nil=>simp[A0O,A4n]
 |cons w l ih=>simp only[A0O,Z0x,A4n]at ih|-;exact⟨C5I n w,ih⟩
def C1w(n:Nat)(l:List ByteArray):A4n n (A0K l):=by
 induction l with
 |nil=>simp[A0K,A4n]
 |cons w l ih=>simp only[A0K,Z0x,A4n]at ih|-;exact⟨by simp[A1i,bdd],ih⟩
mutual
def C5R(n:Nat):∀x:A0H,A1i n x.row
 |.mk h b=>by rw[A0H.row];simp only[A1W.row,A1i,bdd,Z1A,Z2J];exact⟨B2h n _,B2h n _,A2G n _,A2G n _,A9s n _,C1w n _,C1w n _,B5a n b⟩
def B5a(n:Nat):∀l:List A0H,A4n n (A1w l)
 |[]=>by rw[A1w];simp[A4n]
 |x::l=>by rw[A1w];exact⟨C5R n x,B5a n l⟩
end
def C7c(n:Nat)(d:EnD):A1i n d.row:=by simp only[EnD.row,A1i,bdd,Z2J];exact C5R n _
def C9s(n:Nat)(l:List EnD):bdd n (.list 28 (A2L l) .no):=by
 simp only[bdd,Z1A];induction l with
 |nil=>simp[A2L,A4n]
 |cons w l ih=>simp only[A2L,Z0x,A4n]at ih|-;exact⟨C7c n w,ih⟩
section
variable (gl:Nat->AV)
set_option maxHeartbeats 1000000 in
def D2y(a:A0Y)(M:Mem)(hl:a.items.length<=1000000):A0c (WC gl) 80 [.agg a.row] M (λv M'=>v=.list 28 (A2L (A1I a)) .no/\M'=M):=by
 refine A1N (λn=>C9s n _) ?_;have q:=A8d a;refine A0r (hQ [23]) func80 ?_;obtain⟨it,b⟩:=ex (a.items);rw[A0Y.row,<-b];rw[<-b]at hl q;simp -dsimp;refine B2Y (.exit 0) (λT Mi=>Arr 55 28 EnD.row M.length Mi (T 3) (A1I a)/\Grow M Mi) ?_ ?_
 .refine A1y (hQ [23]) it.length 9 (λT Mi=>∃i:Nat,i<=it.length/\T 1=.cptr [I a.number,S a.title,I a.day,I a.start.k,I a.start.day,S a.start.ev,.list 25 (A1w it) .no]/\T 7=.list 25 (A1w it) .no/\T 8=I it.length/\T 9=I i/\Arr 55 28 EnD.row M.length Mi (T 3) ((A1I a).take i)/\Grow M Mi) ?_ ?_
  .exact⟨0,Q0,Q1,Q1,Q1,Q1,ZBX,A0d.refl _ _⟩
  rintro T Mi ⟨i,i1,t1,t7,t8,t9,h3,hg⟩;generalize c:T 3=v3 at*;by_cases hi:i<it.length;case neg=>have g:¬(i:Int)<it.length:=Q0;rw[Z0e Q0]at h3;simp -dsimp[t1,t7,t8,t9,g,c];exact⟨h3,hg⟩
  have g:(i:Int)<it.length:=Q0;have w1:=A6S (i:=i) Q0;obtain⟨x,hx⟩:=ex (it[i]);have o:=C1C hi;rw[<-hx]at o;have l:=C6C a i (by rw[<-b];exact hi);have p:a.items[i]'(by rw[<-b];exact hi)=x:=by rw[hx];simp only[b]
  rw[p]at l;obtain⟨b0,m⟩:=ex (Mi.length);obtain⟨M4,d⟩:=ex (Mi++[A0m.cells 53 x.row]);have t:M4[b0]?=some (A0m.cells 53 x.row):=by rw[d,m];simp
  have f:Grow Mi M4:=ZCP
  have s:A0E prog 53 M4 (.ptr b0 0)=some (.agg x.row):=by rw[A0b t];simp[A0p]
  have j:=h3.keep f;simp -dsimp[t1,t7,t8,t9,hi,g,o,A0j,A0k,A0e,A0o,A0n];rw[<-hx,<-d,<-m];simp -dsimp[t1,t7,t8,t9,c,s];rw[D7x];simp -dsimp[t1,t7,t8,t9,c,A0x,A1g];refine A3B (C:=WC gl) (enc:=EnD.row) (e:=55) (sz:=28) (news:=[⟨a.number,(i:Int),a.day,x⟩]) C7M D2r C8O EnD.row_len j.own ZDC (by simp only[Z0r,Z1p,Z0t];omega) rfl ?_;intro v' M5 u1 u2 u3 _;simp -dsimp[t1,t7,t8,t9,w1];exact⟨⟨i+1,Q3,rfl,by rw[l];exact⟨u1,j.later (hg.trans f).1 u3⟩,j.grow (hg.trans f) u2⟩,Q3⟩
 rintro T Mi ⟨h3,hg⟩;refine⟨M.length,T.put (some 3) (.list 28 (A2L (A1I a)) .no),A6W (A7k T) (Still.rows EnD.row_len (λ_ _ _=>trivial) h3.own h3.lat .nil),?_⟩;have r:=A5c hg;generalize A3y Mi M.length=M2 at*;simp -dsimp[Env.put_some,r]
end
end
abbrev D6W(p:Int×Int):AV:=.agg [I p.1,I p.2]
abbrev D8a(x:A0H):AV:=.agg x.row
def D2D:prog.stoodInHeld 141=false:=Q2
def E1E:B2z prog 136 141 53 D6W:=by
 refine⟨Q2,Q2,λk=>?_,λa b=>?_,λa=>⟨.agg #[.int .i64 a.1,.int .i64 a.2],by simp[A7Z],?_⟩⟩
 .simp[A4P,A0h]
 .obtain⟨x,y⟩:=a;obtain⟨x',y'⟩:=b;simp[B0m,A2P,A0h,D2D];by_cases h1:x=x'
  .subst h1;by_cases h2:y=y'
   .subst h2;simp
   .simp[h2,D1W h2]
  .simp[h1,D1W h1]
 .simp[Instr.sameBits]
def A9U(x:A0H):Option A0H:=if x.h.kind=11 then(match x.by_ with|y::_=>if A1a y.h.kind=true then some y else none|[]=>none)else none
def C1D(a i:Int)(x:A0H):B0N a i x=if(a,i)=(x.h.act,x.h.item)then A9U x else none:=by
 unfold B0N A9U;simp only[Z0i];by_cases h1:x.h.kind=11
 .by_cases h2:a=x.h.act/\i=x.h.item
  .rw[Z0c ⟨h1,h2.1.symm,h2.2.symm⟩,Z0c h2,Z0c h1];cases x.by_<;>rfl
  .rw[Z0d (λh=>h2 ⟨h.2.1.symm,h.2.2.symm⟩),Z0d h2]
 .rw[Z0d (λh=>h1 h.1),Z0d h1];simp
def fixF(l:List A0H)(a i:Int):Option A0H:=l.foldl (λr x=>match B0N a i x with|some y=>some y|none=>r) none
def C1d(l:List A0H)(x:A0H)(a i:Int):fixF (l++[x]) a i=match B0N a i x with|some y=>some y|none=>fixF l a i:=by simp[fixF,Z1X]
def D1Q{l:List A0H}{x:A0H}(h:A9U x=none)(a i:Int):fixF (l++[x]) a i=fixF l a i:=by rw[C1d,C1D,h];simp
def D0J{l:List A0H}{x y:A0H}(h:A9U x=some y)(a i:Int):fixF (l++[x]) a i=if(a,i)=(x.h.act,x.h.item)then some y else fixF l a i:=by
 rw[C1d,C1D,h];by_cases e:(a,i)=(x.h.act,x.h.item)
 .rw[Z0c e,Z0c e]
 .rw[Z0d e,Z0d e]
def C4A(n:Nat)(M Mi:Mem)(l:List A0H):Prop:=∃mm,A3n D6W D8a Mi n mm/\(∀a i,A5i mm (a,i)=fixF l a i)/\Grow M Mi
def C4A.keep{n:Nat}{M Mi M2:Mem}{l:List A0H}(h:C4A n M Mi l)(hg:Grow Mi M2):C4A n M M2 l:=by obtain⟨mm,h1,h2,h3⟩:=h;exact⟨mm,h1.keep hg Q1,h2,h3.trans hg⟩
section
variable (gl:Nat->AV)
def A9A(k:Int)(M:Mem):A0c (WC gl) 51 [I k] M (λv M'=>v=B (A1a k)/\M'=M):=by
 refine A0r hB func51 ?_;by_cases h:0<=k
 .by_cases h6:k<=6<;>simp -dsimp[A1a,h,h6]
 .simp -dsimp[A1a,h]
set_option maxHeartbeats 2000000 in
def D7K(b:List A0Y)(o:Own)(M:Mem)(hl:b.length<=1000000)(hi:∀a∈b,a.items.length<=1000000):A0c (WC gl) 79 [.list 7 (A5o b) o] M (λv M'=>v=.mapr M.length/\C4A M.length M M' (b.flatMap A0Y.items)):=by
 refine A0r hB func79 ?_
 simp -dsimp
 refine A1y hB b.length 11 (λT Mi=>∃i:Nat,i<=b.length/\T 3=.mapr M.length/\T 9=.list 7 (A5o b) o/\T 10=I b.length/\T 11=I i/\C4A M.length M Mi ((b.take i).flatMap A0Y.items)) ?_ ?_
 .exact⟨0,Q0,Q1,Q1,Q1,Q1,[],A3n.new M,by simp[A5i,fixF],A0d.app none _ _⟩
 rintro T Mi ⟨i,i1,t3,t9,d,c,hC⟩
 by_cases hi1:i<b.length
 case neg=>have t:¬(i:Int)<b.length:=Q0;rw[Z0e Q0]at hC;simp -dsimp[t3,t9,d,c,t,hC]
 have t:(i:Int)<b.length:=Q0
 have w1:=A6S (i:=i) Q0
 obtain⟨a,ha⟩:=ex (b[i])
 have a0:=B4m hi1
 rw[<-ha]at a0
 have ai:a.items.length<=1000000:=by rw[ha];exact hi _ (Z0s hi1)
 have af:(b.take (i+1)).flatMap A0Y.items=(b.take i).flatMap A0Y.items++a.items:=by rw[Z0z,Z0g hi1,Z0T,Z1n,<-ha];simp
 generalize(b.take i).flatMap A0Y.items=row at*
 obtain⟨M2,w⟩:=ex (Mi++[A0m.cells 93 a.row])
 have ad:Grow Mi M2:=by rw[w];exact A0d.app none _ _
 have ag:M2[Mi.length]?=some (.cells 93 a.row):=by rw[w];simp
 have ah:A0E prog 51 M2 (.ptr Mi.length 6)=some (.list 25 (A1w a.items) .no):=by rw[A0b ag,A0Y.row];simp
 have z:=hC.keep ad
 simp -dsimp[t3,t9,d,c,hi1,t,a0,A0j,A0k,A0e,A0o,A0n]
 rw[<-ha,<-w]
 simp -dsimp[ah]
 refine A6V (.exit 2) (λT Mj=>T 3=.mapr M.length/\T 9=.list 7 (A5o b) o/\T 10=I b.length/\T 11=I i/\C4A M.length M Mj (row++a.items)) ?_ ?_
 .refine A1y hB a.items.length 18 (λT Mj=>∃j:Nat,j<=a.items.length/\T 3=.mapr M.length/\T 9=.list 7 (A5o b) o/\T 10=I b.length/\T 11=I i/\T 16=.list 25 (A1w a.items) .no/\T 17=I a.items.length/\T 18=I j/\C4A M.length M Mj (row++a.items.take j)) ?_ ?_
  .exact⟨0,Q0,by simp[t3],by simp[t9],by simp[d],by simp[c],Q1,Q1,Q1,by simpa using z⟩
  clear hC z t3 t9 d c;rintro T Mj ⟨j,j1,t3,t9,d,c,f,g,l,hC⟩;by_cases hj:j<a.items.length;case neg=>have u:¬(j:Int)<a.items.length:=Q0;rw[Z0e Q0]at hC;simp -dsimp[t3,t9,d,c,f,g,l,u,hC]
  have u:(j:Int)<a.items.length:=Q0;have w2:=A6S (i:=j) Q0;obtain⟨x,hx⟩:=ex (a.items[j]);have a5:=C1C hj;rw[<-hx]at a5;have n:row++a.items.take (j+1)=(row++a.items.take j)++[x]:=by rw[Z0z,Z0g hj,Z0T,<-hx,Z0F]
  generalize row++a.items.take j=a1 at*;obtain⟨q,hq⟩:=ex (Mj.length);obtain⟨M3,s⟩:=ex (Mj++[A0m.cells 53 x.row]);have ab:Grow Mj M3:=by rw[s];exact A0d.app none _ _
  have p:M3[q]?=some (.cells 53 x.row):=by rw[s,hq];simp
  have a2:=hC.keep ab;have r:A0E prog 3 M3 (.ptr q 0)=some (I x.h.kind):=ZCV
  have a4:A0E prog 3 M3 (.ptr q 20)=some (I x.h.act):=ZCV
  have a6:A0E prog 3 M3 (.ptr q 21)=some (I x.h.item):=ZCV
  have e:A0E prog 51 M3 (.ptr q 24)=some (.list 25 (A1w x.by_) .no):=ZCV
  simp -dsimp[t3,t9,d,c,f,g,l,hj,u,a5,A0j,A0k,A0e,A0o,A0n];rw[<-hx,<-s,<-hq];have m:A9U x=none->C4A M.length M M3 (a1++[x]):=λh=>by obtain⟨mm,h1,h2,h3⟩:=a2;exact⟨mm,h1,λa i=>by rw[h2,D1Q h],h3⟩
  by_cases hk:x.h.kind=11;case neg=>
   (have hc:A9U x=none:=by rw[A9U,Z0d hk]);simp -dsimp[r,e,hk,t3,t9,d,c,f,g,l,w2]
   exact⟨⟨j+1,ZAD,rfl,by rw[n];exact m hc⟩,ZAD⟩
  cases hby:x.by_ with
  |nil=>
   (have hc:A9U x=none:=by rw[A9U,Z0c hk,hby]);rw[hby]at e
   simp -dsimp[r,e,hk,t3,t9,d,c,f,g,l,w2];exact⟨⟨j+1,ZAD,rfl,by rw[n];exact m hc⟩,ZAD⟩
  |cons y ys=>
   rw[hby]at e;simp -dsimp[r,e,hk,A1w,A0H.row_all];refine A0g func51 (A9A gl y.h.kind M3) ?_;cases hm:A1a y.h.kind
   ·(have hc:A9U x=none:=by rw[A9U,Z0c hk,hby];simp[hm]);simp -dsimp[t3,t9,d,c,f,g,l,w2]
    exact⟨⟨j+1,ZAD,rfl,by rw[n];exact m hc⟩,ZAD⟩
   (have hc:A9U x=some y:=by rw[A9U,Z0c hk,hby];simp[hm]);simp -dsimp
   refine A0X hB (A0B gl) (λk=>if k=2\/k=4\/k=7 then 1 else if k=10 then 2 else 0) (λ_=>q) (by rfl) Q2 ?_;have aa:A0A prog 141 [(0,I x.h.act),(1,I x.h.item)]=some (.agg [I x.h.act,I x.h.item]):=Q2;obtain⟨mm,h1,h2,h3⟩:=a2;obtain⟨M4,hp,ae,a3⟩:=h1.put E1E (x.h.act,x.h.item) y;have ac:A2b prog 136 M3 (.mapr M.length) (.agg [I x.h.act,I x.h.item]) (.agg y.row)=some M4:=hp;simp -dsimp[A1e,a4,a6,e,t3,A1w];rw[aa];simp -dsimp[A1e,a4,a6,e,t3,A1w];rw[ac];simp -dsimp[t3,t9,d,c,f,g,l,w2];have a9:Grow M M4:=⟨Z0J h3.1 a3.1,λi hi _=>(a3.2 i (Z0S hi h3.1) ZAB).trans (h3.2 i hi Q1)⟩;exact⟨⟨j+1,ZAD,rfl,by rw[n];exact⟨_,ae,λa i=>by rw[B5k,h2,D0J hc],a9⟩⟩,ZAD⟩
 rintro T Mj ⟨u3,u9,a8,a7,hC⟩
 simp -dsimp[u3,u9,a8,a7,c,w1]
 exact⟨⟨i+1,Q3,rfl,by rw[af];exact hC⟩,Q3⟩
end
end Go.Abs
section
set_option maxRecDepth 100000
namespace Go.Abs.StA
open Go.Proofs TryTypes Tryz
def CmpOK(C:Ctx){α:Type}(enc:α->List AV)(c:α->α->Int)(fid:FuncId)(first cap:List AV):Prop:=∀x y M,A2Z C fid (first++.agg (enc x)::.agg (enc y)::cap) M (λv M'=>v=I (c x y)/\M'=M)
section
variable (gl:Nat->AV) {α:Type} {enc:α->List AV} {c:α->α->Int} {fid:FuncId} {first cap:List AV} {f g n:Nat} {M0:Mem}
theorem C4g(he:∀x,(enc x).length=7)(hc:CmpOK (WC gl) enc c fid first cap)(hf:f<M0.length)(hn:n<=1000)(a b:Nat)(w:a<=b)(hb:b<=n)(D:Nat->α)(M:Mem)(hM:AtA 93 7 f g n enc M0 D M):A0c (WC gl) 141 [.vref f g 7 0 n,I a,I b,.func (.func fid) first cap] M (λ_ M'=>∃E,AtA 93 7 f g n enc M0 E M'/\Mix n a b D E/\(A5V c->Srt c a b E)):=by
 refine A1f hW func141 rfl rfl rfl rfl rfl rfl ?_
 have u:IntKind.i64.wrap ((a:Int)+1)=(a+1:Nat):=by rw[A0R Q0 Q0];omega
 simp -dsimp[u]
 refine A0M hW (λT M1=>∃i:Nat,a+1<=i/\i<=max b (a+1)/\T 0=.vref f g 7 0 n/\T 1=I a/\T 2=I b/\T 3=.func (.func fid) first cap/\T 8=I i/\∃E,AtA 93 7 f g n enc M0 E M1/\Mix n a b D E/\(A5V c->Srt c a i E)) (λT _=>match T 8 with|.val (.int _ i)=>b-i.toNat|_=>0) Q2 ?_ ?_
 .exact⟨a+1,Q0,Q0,Q1,Q1,Q1,Q1,Q1,D,hM,.refl ..,λ_=>.short Q0⟩
 .rintro T M1 ⟨i,h1,h2,t0,t1,t2,t3,t8,E,hA,hX,hS⟩;by_cases hi:i<b
  .have m:(i:Int)<b:=Q0;(have hw:IntKind.i64.wrap ((i:Int)+1)=(i+1:Nat):=by rw[A0R Q0 Q0];omega);simp -dsimp[t0,t1,t2,t3,t8,hi,m];refine A0M hW (λT M1=>∃j:Nat,a<=j/\j<=i/\T 0=.vref f g 7 0 n/\T 1=I a/\T 2=I b/\T 3=.func (.func fid) first cap/\T 8=I i/\T 9=I j/\∃E,AtA 93 7 f g n enc M0 E M1/\Mix n a b D E/\(A5V c->B1B c a i j E)) (λT _=>match T 9 with|.val (.int _ i)=>i.toNat|_=>0) Q2 ?_ ?_
   .exact⟨i,Q0,Q0,by simp[t0],by simp[t1],by simp[t2],by simp[t3],by simp[t8],Q1,E,hA,hX,λo=>.start (hS o)⟩
   .rintro T2 M1 ⟨j,k1,k2,u0,u1,u2,u3,u8,u9,E,hA,hX,hS⟩;by_cases hj:a<j
    .have d:(a:Int)<j:=Q0;have l:(j:Int)>a:=d;(have e:IntKind.i64.wrap ((j:Int)-1)=(j-1:Nat):=by rw[A0R Q0 Q0];omega);have g1:j<n:=Q0;have g2:j-1<n:=Q0;have p:(j:Int)<n:=Q0;have q:((j-1:Nat):Int)<n:=Q0;have l1:=hA.load (P:=prog) (t:=93) hf he Q1 Q1 g1;have l2:=hA.load (P:=prog) (t:=93) hf he Q1 Q1 g2;simp -dsimp;refine A0X hW (A0B gl) (λk=>if k=8\/k=13 then 1 else 0) (λ_=>f) (by rfl) Q2 ?_;simp -dsimp[u0,u1,u2,u3,u8,u9,d,l,e,g1,g2,p,q,l1,l2];refine A1k (r:=I (c (E j) (E (j-1)))) (λM=>hc _ _ M) ?_;by_cases hlt:c (E j) (E (j-1))<0
     .simp -dsimp[u0,u1,u2,u3,u8,u9,hlt];refine A0X hW (A0B gl) (λk=>if k=9\/k=13 then 1 else if k=15\/k=17 then 2 else 0) (λ_=>f) (by rfl) Q2 ?_;obtain⟨M2,s1,v⟩:=hA.store hf he g1 (E (j-1));obtain⟨M3,s2,s⟩:=v.store hf he g2 (E j);simp -dsimp[u0,u1,u2,u3,u8,u9,d,l,e,g1,g2,p,q,l1,l2,s1,s2];exact⟨⟨j-1,by clear e;omega,by clear e;omega,rfl,swp E j (j-1),s,hX.trans (.swap E hb Q0 Q0 Q0 Q0),λo=>(hS o).step o hj k2 hlt⟩,by clear e;omega⟩
     .simp -dsimp[u0,u1,u2,u3,u8,u9,hlt,hw,t8];exact⟨⟨i+1,by clear hw;omega,by clear hw;omega,rfl,E,hA,hX,λo=>(hS o).stop o k2 (.inr hlt)⟩,by clear hw;omega⟩
    .have d:¬(a:Int)<j:=Q0;have l:¬(j:Int)>a:=d;simp -dsimp;refine A0X hW (A0B gl) (λk=>if k=8\/k=13 then 1 else 0) (λ_=>f) (by rfl) Q2 ?_;simp -dsimp[u0,u1,u2,u3,u8,u9,d,l,hw,t8];exact⟨⟨i+1,by clear hw;omega,by clear hw;omega,rfl,E,hA,hX,λo=>(hS o).stop o k2 (.inl Q0)⟩,by clear hw;omega⟩
  .have m:¬(i:Int)<b:=Q0;simp -dsimp[t0,t1,t2,t3,t8,m];exact⟨E,hA,hX,λo=>(hS o).part (Z0j _) Q0⟩
end
end Go.Abs.StA
end
section
set_option maxRecDepth 100000
namespace Go.Abs.StA
open Go.Proofs TryTypes Tryz
def D6G{i j:Nat}(h:i+j<=1000000):IntKind.i64.wrap ((i:Int)+(j:Int))=((i+j:Nat):Int):=by rw[A0R Q0 Q0];omega
def B3T{i j:Nat}(h:i<=1000000)(hj:j<=i):IntKind.i64.wrap ((i:Int)-(j:Int))=((i-j:Nat):Int):=by rw[A0R Q0 Q0];omega
def A1O{i:Nat}(h:i<=1000000):IntKind.i64.wrap ((i:Int)+1)=((i+1:Nat):Int):=by rw[A0R Q0 Q0];omega
def D4W{i:Nat}(h:i<=1000000)(hj:1<=i):IntKind.i64.wrap ((i:Int)-1)=((i-1:Nat):Int):=by rw[A0R Q0 Q0];omega
section
variable (gl:Nat->AV) {α:Type} {enc:α->List AV} {c:α->α->Int} {fid:FuncId} {first cap:List AV} {f g n:Nat} {M0:Mem}
def B9z(he:∀x,(enc x).length=7)(hf:f<M0.length)(hn:n<=1000)(i j l:Nat)(o:i+l<=j)(hj:j+l<=n)(D:Nat->α)(M:Mem)(hM:AtA 93 7 f g n enc M0 D M)(cf:AV):A0c (WC gl) 270 [.vref f g 7 0 n,I i,I j,I l,cf] M (λ_ M'=>AtA 93 7 f g n enc M0 (xch D i j l) M'):=by
 refine A1f hW func270 rfl rfl rfl rfl rfl rfl ?_
 simp -dsimp -implicitDefEqProofs
 refine A0M hW (λT M1=>∃k:Nat,k<=l/\T 0=.vref f g 7 0 n/\T 1=I i/\T 2=I j/\T 3=I l/\T 10=I k/\AtA 93 7 f g n enc M0 (xch D i j k) M1) (λT _=>match T 10 with|.val (.int _ i)=>l-i.toNat|_=>0) Q2 ?_ ?_
 .exact⟨0,Q0,Q1,Q1,Q1,Q1,Q1,by rw[C4Z];exact hM⟩
 .rintro T M1 ⟨k,h1,t0,t1,t2,t3,a,hA⟩;by_cases hk:k<l
  .have b:(k:Int)<l:=Q0;have w1:=D6G (i:=i) (j:=k) Q0;have w2:=D6G (i:=j) (j:=k) Q0;have w3:=A1O (i:=k) Q0;have g1:i+k<n:=Q0;have g2:j+k<n:=Q0;have c:((i+k:Nat):Int)<n:=Q0;have e:((j+k:Nat):Int)<n:=Q0;have p1:0<=((i+k:Nat):Int):=Q0;have p2:0<=((j+k:Nat):Int):=Q0;have q1:((i+k:Nat):Int).toNat=i+k:=Q0;have q2:((j+k:Nat):Int).toNat=j+k:=Q0;have l1:=hA.load (P:=prog) (t:=93) hf he Q1 Q1 g1;have l2:=hA.load (P:=prog) (t:=93) hf he Q1 Q1 g2;obtain⟨M2,s1,m⟩:=hA.store hf he g1 (xch D i j k (j+k));obtain⟨M3,s2,d⟩:=m.store hf he g2 (xch D i j k (i+k));(have hx:AtA 93 7 f g n enc M0 (xch D i j (k+1)) M3:=by rw[<-C4j D (show i+k<j by omega)];exact d);generalize((i+k:Nat):Int)=ik at*;generalize((j+k:Nat):Int)=jk at*;simp -dsimp -implicitDefEqProofs[t0,t1,t2,t3,a,b];refine A0X hW (A0B gl) (λk=>if k=13\/k=19 then 1 else if k=21\/k=23 then 2 else 0) (λ_=>f) (by rfl) Q2 ?_;simp -dsimp -implicitDefEqProofs[t0,t1,t2,t3,a,w1,w2,w3,g1,g2,c,e,p1,p2,q1,q2,l1,l2,s1,s2];exact⟨⟨k+1,by clear w3;omega,rfl,hx⟩,by clear w3;omega⟩
  .have b:¬(k:Int)<l:=Q0;obtain rfl:k=l:=Q0;simp -dsimp -implicitDefEqProofs[t0,t1,t2,t3,a,hA]
def D1p(he:∀x,(enc x).length=7)(hf:f<M0.length)(hn:n<=1000)(s m e:Nat)(h1:s<m)(h2:m<e)(h3:e<=n)(D:Nat->α)(M:Mem)(hM:AtA 93 7 f g n enc M0 D M)(cf:AV):A0c (WC gl) 219 [.vref f g 7 0 n,I s,I m,I e,cf] M (λ_ M'=>AtA 93 7 f g n enc M0 (rot D s m e) M'/\Mix n s e D (rot D s m e)):=by
 refine A1f hW func219 rfl rfl rfl rfl rfl rfl ?_
 have w1:=B3T (i:=m) (j:=s) Q0 Q0
 have w2:=B3T (i:=e) (j:=m) Q0 Q0
 simp -dsimp -implicitDefEqProofs[w1,w2]
 refine A0M hW (λT M1=>∃i:Nat,0<i/\s+i<=m/\T 0=.vref f g 7 0 n/\T 2=I m/\T 4=cf/\T 10=I i/\∃j:Nat,T 11=I j/\0<j/\m+j<=e/\
  ∃E,AtA 93 7 f g n enc M0 E M1/\Mix n s e D E/\rot E (m-i) m (m+j)=rot D s m e)
  (λT _=>match T 10,T 11 with|.val (.int _ i),.val (.int _ j)=>i.toNat+j.toNat|_,_=>0) Q2 ?_ ?_
 .refine⟨m-s,Q0,Q0,Q1,Q1,Q1,Q1,e-m,Q1,Q0,Q0,D,hM,.refl ..,by congr 1<;>omega⟩
 .rintro T M1 ⟨i,i0,i1,t0,t2,t4,c,j,k,j0,j1,E,hA,hX,hr⟩;have w3:=B3T (i:=m) (j:=i) Q0 Q0;by_cases hij:i=j
  .subst hij;simp -dsimp -implicitDefEqProofs[t0,t2,t4,c,k,w3];refine A0s (A0l func270 rfl rfl (B9z gl he hf hn (m-i) m i Q0 Q0 E _ hA cf)) ?_;intro r M2 b;have hx:=B7a E (n:=n) (lo:=s) (hi:=e) (i:=m-i) (j:=m) Q0 h3 i Q0 Q0;rw[D2h E Q0,hr]at b hx;simp -dsimp -implicitDefEqProofs;exact⟨b,hX.trans hx⟩
  .have l:¬(i:Int)=j:=Q0;by_cases hgt:j<i
   .have a:(j:Int)<i:=Q0;have d:(i:Int)>j:=a;have w4:=B3T (i:=i) (j:=j) Q0 Q0;simp -dsimp -implicitDefEqProofs[t0,t2,t4,c,k,w3,l,a,d];refine A0s (A0l func270 rfl rfl (B9z gl he hf hn (m-i) m j Q0 Q0 E _ hA cf)) ?_;intro r M2 b;have hx:=B7a E (n:=n) (lo:=s) (hi:=e) (i:=m-i) (j:=m) Q0 h3 j Q0 Q0;simp -dsimp -implicitDefEqProofs[t0,t2,t4,c,k,w4];refine⟨⟨i-j,by clear w4;omega,by clear w4;omega,rfl,j,rfl,by clear w4;omega,by clear w4;omega,_,b,hX.trans hx,?_⟩,by clear w4;omega⟩;rw[D4d E Q0 hgt j0,hr]
   .have a:¬(j:Int)<i:=Q0;have d:¬(i:Int)>j:=a;have w4:=B3T (i:=j) (j:=i) Q0 Q0;have w5:=D6G (i:=m) (j:=j) Q0;(have w6:IntKind.i64.wrap ((m:Int)+(j:Int)-(i:Int))=((m+j-i:Nat):Int):=by rw[A0R Q0 Q0];omega);simp -dsimp -implicitDefEqProofs[t0,t2,t4,c,k,w3,l,a,d,w5,w6];refine A0s (A0l func270 rfl rfl (B9z gl he hf hn (m-i) (m+j-i) i Q0 Q0 E _ hA cf)) ?_;intro r M2 b;have hx:=B7a E (n:=n) (lo:=s) (hi:=e) (i:=m-i) (j:=m+j-i) Q0 h3 i Q0 Q0;simp -dsimp -implicitDefEqProofs[t0,t2,t4,c,k,w4];refine⟨⟨i,by clear w4;omega,by clear w4;omega,rfl,j-i,rfl,by clear w4;omega,by clear w4;omega,_,b,hX.trans hx,?_⟩,by clear w4;omega⟩;rw[D2o E Q0 Q0 i0,hr]
end
end Go.Abs.StA
end
section
set_option maxRecDepth 100000
namespace Go.Abs.StA
open Go.Proofs TryTypes Tryz
def C8I{i j h:Nat}(hh:h=(i+j)/2)(hl:i+j<=1000000):IntKind.i64.wrap ((i:Int)+(j:Int))=(i:Int)+j/\IntKind.u64.wrap ((i:Int)+(j:Int))=(i:Int)+j/\IntKind.i64.wrap (((i:Int)+(j:Int)).fdiv (2^min 1 IntKind.u64.bits))=(h:Int):=by
 refine⟨A0R Q0 Q0,IntWalk.u64_in _ ⟨Q0,Q0⟩,?_⟩;have e:((i:Int)+(j:Int)).fdiv (2^min 1 IntKind.u64.bits)=(h:Int):=by
  have:(2:Int)^min 1 IntKind.u64.bits=2:=by decide
  rw[this,Z4k _ Q0];omega
 rw[e];exact A0R Q0 Q0
section
variable (gl:Nat->AV) {α:Type} {enc:α->List AV} {c:α->α->Int} {fid:FuncId} {first cap:List AV} {f g n:Nat} {M0:Mem}
def D3B(he:∀x,(enc x).length=7)(hc:CmpOK (WC gl) enc c fid first cap)(hf:f<M0.length)(hn:n<=1000)(a m b:Nat)(h1:a<m)(h2:m<b)(h3:b<=n)(D:Nat->α)(M:Mem)(hM:AtA 93 7 f g n enc M0 D M)(c1:m-a=1):A0c (WC gl) 142 [.vref f g 7 0 n,I a,I m,I b,.func (.func fid) first cap] M (λ_ M'=>∃E,AtA 93 7 f g n enc M0 E M'/\Mix n a b D E/\(A5V c->Srt c a m D->Srt c m b D->Srt c a b E)):=by
 refine A1f hW func142 rfl rfl rfl rfl rfl rfl ?_
 have w1:=B3T (i:=m) (j:=a) Q0 Q0
 have wb:=B3T (i:=b) (j:=m) Q0 Q0
 have L:∀{E:Nat->α} {M:Mem} {i:Nat},AtA 93 7 f g n enc M0 E M->i<n->A0E prog 93 M (.vptr f g (i*7))=some (.agg (enc (E i))):=λh hi=>h.load (P:=prog) (t:=93) hf he Q1 Q1 hi
 obtain rfl:m=a+1:=Q0
 have a2:IntKind.i64.wrap ((a:Int)+1-(a:Int))=1:=by rw[A0R Q0 Q0];omega
 simp -dsimp[a2]
 refine A0M hW (λT M1=>∃i:Nat,a+1<=i/\i<=b/\T 0=.vref f g 7 0 n/\T 1=I a/\T 4=.func (.func fid) first cap/\T 10=I i/\(a+1<i->c (D (i-1)) (D a)<0)/\
  M1=M/\∃j:Nat,T 11=I j/\i<=j/\j<=b/\(j<b->¬c (D j) (D a)<0))
  (λT _=>match T 10,T 11 with|.val (.int _ i),.val (.int _ j)=>j.toNat-i.toNat|_,_=>0) Q2 ?_ ?_
 .exact⟨a+1,Q0,Q0,Q1,Q1,Q1,Q1,λh=>by omega,rfl,b,Q1,Q0,Q0,λh=>by omega⟩
 .rintro T M1 ⟨i,i1,i2,t0,t1,t4,d,hl,rfl,j,e,ij,jb,hr⟩;by_cases hij:i<j
  .have u:(i:Int)<j:=Q0;obtain⟨h,hh⟩:=ex ((i+j)/2);have w2:=C8I hh Q0;have k1:h<n:=Q0;have z:(h:Int)<n:=Q0;have k2:a<n:=Q0;have v:(a:Int)<n:=Q0;have w3:=A1O (i:=h) Q0;simp -dsimp[t0,t1,t4,d,e,u,w2.1,w2.2.1,w2.2.2,A5X];refine A0X hW (A0B gl) (λk=>if k=4\/k=8 then 1 else 0) (λ_=>f) (by rfl) Q2 ?_;simp -dsimp[t0,t1,t4,d,e,w2.2.2,k1,z,k2,v,L hM k1,L hM k2];refine A1k (r:=I (c (D h) (D a))) (λM=>hc _ _ M) ?_;by_cases hlt:c (D h) (D a)<0
   .simp -dsimp[t0,t1,t4,d,e,w2.2.2,hlt,w3];exact⟨⟨h+1,by clear w3;omega,by clear w3;omega,Q1,λ_=>hlt,j,rfl,by clear w3;omega,by clear w3;omega,λq=>Z3x.1 (hr q)⟩,by clear w3 w2;omega⟩
   .simp -dsimp[t0,t1,t4,d,e,w2.2.2,hlt];exact⟨⟨i,by clear w2;omega,by clear w2;omega,rfl,hl,h,rfl,by clear w2;omega,by clear w2;omega,λ_=>Z3x.1 hlt⟩,by clear w2;omega⟩
  .obtain rfl:i=j:=Q0;(have hS:∀{E:Nat->α},E=B5p D a (i-1)->Mix n a b D E/\(A5V c->Srt c a (a+1) D->Srt c (a+1) b D->Srt c a b E):=by rintro E rfl;refine⟨?_,λo _ s2=>D2j o s2 Q0 i2 hl hr⟩;have:=C5n D (n:=n) (lo:=a) (hi:=b) (a:=a) Q0 h3 (i-1-a) Q0;rwa[show a+(i-1-a)=i-1 by omega]at this);simp -dsimp[t0,t1,t4,d,e];refine A0M hW (λT M1=>∃k:Nat,a<=k/\k<=i-1/\T 0=.vref f g 7 0 n/\T 10=I i/\T 13=I k/\AtA 93 7 f g n enc M0 (B5p D a k) M1) (λT _=>match T 13 with|.val (.int _ k)=>i-k.toNat|_=>0) Q2 ?_ ?_
   .exact⟨a,Q0,Q0,by simp[t0],by simp[d],Q1,by rw[C0z];exact hM⟩
   .rintro T2 M2 ⟨k,k1,k2,u0,l,s,hA⟩;have w4:=D4W (i:=i) Q0 Q0;by_cases hk:k<i-1
    .have p:(k:Int)<((i-1:Nat):Int):=Q0;have w5:=A1O (i:=k) Q0;have g1:k<n:=Q0;have g2:k+1<n:=Q0;have w:(k:Int)<n:=Q0;have a0:((k+1:Nat):Int)<n:=Q0;have p2:0<=((k+1:Nat):Int):=Q0;have q2:((k+1:Nat):Int).toNat=k+1:=Q0;obtain⟨M2,s1,a1⟩:=hA.store hf he g1 (B5p D a k (k+1));obtain⟨M3,s2,y⟩:=a1.store hf he g2 (B5p D a k k);(have hx:AtA 93 7 f g n enc M0 (B5p D a (k+1)) M3:=by rw[<-C0T D k1];exact y);have l1:=L hA g1;have l2:=L hA g2;generalize((k+1:Nat):Int)=kk at*;simp -dsimp[u0,l,s,w4,p];refine A0X hW (A0B gl) (λk=>if k=9\/k=13 then 1 else if k=15\/k=17 then 2 else 0) (λ_=>f) (by rfl) Q2 ?_;simp -dsimp[u0,l,s,w5,g1,g2,w,a0,p2,q2,l1,l2,s1,s2];exact⟨⟨k+1,by clear w5;omega,by clear w5;omega,by clear w5;omega,hx⟩,by clear w5;omega⟩
    .obtain rfl:k=i-1:=Q0;have p:¬((i-1:Nat):Int)<((i-1:Nat):Int):=Q0;simp -dsimp[u0,l,s,w4,p];exact⟨_,hA,hS rfl⟩
def D3A(he:∀x,(enc x).length=7)(hc:CmpOK (WC gl) enc c fid first cap)(hf:f<M0.length)(hn:n<=1000)(a m b:Nat)(h1:a<m)(h2:m<b)(h3:b<=n)(D:Nat->α)(M:Mem)(hM:AtA 93 7 f g n enc M0 D M)(c1:¬m-a=1)(c2:b-m=1):A0c (WC gl) 142 [.vref f g 7 0 n,I a,I m,I b,.func (.func fid) first cap] M (λ_ M'=>∃E,AtA 93 7 f g n enc M0 E M'/\Mix n a b D E/\(A5V c->Srt c a m D->Srt c m b D->Srt c a b E)):=by
 refine A1f hW func142 rfl rfl rfl rfl rfl rfl ?_
 have w1:=B3T (i:=m) (j:=a) Q0 Q0
 have wb:=B3T (i:=b) (j:=m) Q0 Q0
 have L:∀{E:Nat->α} {M:Mem} {i:Nat},AtA 93 7 f g n enc M0 E M->i<n->A0E prog 93 M (.vptr f g (i*7))=some (.agg (enc (E i))):=λh hi=>h.load (P:=prog) (t:=93) hf he Q1 Q1 hi
 have y:¬((m-a:Nat):Int)=1:=Q0
 obtain rfl:b=m+1:=Q0
 have a3:IntKind.i64.wrap ((m:Int)+1-(m:Int))=1:=by rw[A0R Q0 Q0];omega
 simp -dsimp[w1,y,a3]
 refine A0M hW (λT M1=>∃i:Nat,a<=i/\T 0=.vref f g 7 0 n/\T 2=I m/\T 4=.func (.func fid) first cap/\T 14=I i/\(a<i->¬c (D m) (D (i-1))<0)/\
  M1=M/\∃j:Nat,T 15=I j/\i<=j/\j<=m/\(j<m->c (D m) (D j)<0))
  (λT _=>match T 14,T 15 with|.val (.int _ i),.val (.int _ j)=>j.toNat-i.toNat|_,_=>0) Q2 ?_ ?_
 .exact⟨a,Q0,Q1,Q1,Q1,Q1,λh=>by omega,rfl,m,Q1,Q0,Q0,λh=>by omega⟩
 .rintro T M1 ⟨i,i1,t0,t2,t4,d,hl,rfl,j,e,ij,jb,hr⟩;by_cases hij:i<j
  .have u:(i:Int)<j:=Q0;obtain⟨h,hh⟩:=ex ((i+j)/2);have w2:=C8I hh Q0;have k1:h<n:=Q0;have a1:(h:Int)<n:=Q0;have k2:m<n:=Q0;have w:(m:Int)<n:=Q0;have w3:=A1O (i:=h) Q0;simp -dsimp[t0,t2,t4,d,e,u,w2.1,w2.2.1,w2.2.2,A5X];refine A0X hW (A0B gl) (λk=>if k=4\/k=8 then 1 else 0) (λ_=>f) (by rfl) Q2 ?_;simp -dsimp[t0,t2,t4,d,e,w2.2.2,k1,a1,k2,w,L hM k1,L hM k2];refine A1k (r:=I (c (D m) (D h))) (λM=>hc _ _ M) ?_;by_cases hlt:c (D m) (D h)<0
   .simp -dsimp[t0,t2,t4,d,e,w2.2.2,hlt];exact⟨⟨i,by clear w2;omega,rfl,λq=>Z3x.1 (hl q),h,rfl,by clear w2;omega,by clear w2;omega,λ_=>hlt⟩,by clear w2;omega⟩
   .simp -dsimp[t0,t2,t4,d,e,w2.2.2,hlt,w3];exact⟨⟨h+1,by clear w3;omega,Q1,λ_=>Z3x.1 hlt,j,rfl,by clear w3;omega,by clear w3;omega,hr⟩,by clear w3 w2;omega⟩
  .obtain rfl:i=j:=Q0;(have hS:∀{E:Nat->α},E=A7g D i m->Mix n a (m+1) D E/\(A5V c->Srt c a m D->Srt c m (m+1) D->Srt c a (m+1) E):=by rintro E rfl;refine⟨?_,λo s1 _=>C6W o s1 Q0 jb hl hr⟩;have:=B8U D (n:=n) (lo:=a) (hi:=m+1) (m:=m) Q0 h3 (m-i) Q0 Q0;rwa[show m-(m-i)=i by omega]at this);simp -dsimp[t0,t2,t4,d,e];refine A0M hW (λT M1=>∃k:Nat,i<=k/\k<=m/\T 0=.vref f g 7 0 n/\T 14=I i/\T 17=I k/\AtA 93 7 f g n enc M0 (A7g D k m) M1) (λT _=>match T 17 with|.val (.int _ k)=>k.toNat|_=>0) Q2 ?_ ?_
   .exact⟨m,Q0,Q0,by simp[t0],by simp[d],Q1,by rw[B5G];exact hM⟩
   .rintro T2 M2 ⟨k,k1,k2,u0,p,l,hA⟩;by_cases hk:i<k
    .have s:(i:Int)<k:=Q0;have v:(k:Int)>i:=s;have w5:=D4W (i:=k) Q0 Q0;have g1:k<n:=Q0;have g2:k-1<n:=Q0;have z:(k:Int)<n:=Q0;have a2:((k-1:Nat):Int)<n:=Q0;obtain⟨M2,s1,a4⟩:=hA.store hf he g1 (A7g D k m (k-1));obtain⟨M3,s2,a0⟩:=a4.store hf he g2 (A7g D k m k);(have hx:AtA 93 7 f g n enc M0 (A7g D (k-1) m) M3:=by rw[<-B6y D k2 Q0];exact a0);have l1:=L hA g1;have l2:=L hA g2;simp -dsimp[u0,p,l,s,v];refine A0X hW (A0B gl) (λk=>if k=9\/k=13 then 1 else if k=15\/k=17 then 2 else 0) (λ_=>f) (by rfl) Q2 ?_;simp -dsimp[u0,p,l,w5,g1,g2,z,a2,l1,l2,s1,s2];exact⟨⟨k-1,by clear w5;omega,by clear w5;omega,rfl,hx⟩,by clear w5;omega⟩
    .obtain rfl:k=i:=Q0;simp -dsimp[u0,p,l];exact⟨_,hA,hS rfl⟩
end
end Go.Abs.StA
end
section
set_option maxRecDepth 100000
namespace Go.Abs.StA
open Go.Proofs TryTypes Tryz
section
variable (gl:Nat->AV) {α:Type} {enc:α->List AV} {c:α->α->Int} {fid:FuncId} {first cap:List AV} {f g n:Nat} {M0:Mem}
set_option maxHeartbeats 4000000 in
def D4r(he:∀x,(enc x).length=7)(hc:CmpOK (WC gl) enc c fid first cap)(hf:f<M0.length)(hn:n<=1000)(a m b:Nat)(h1:a<m)(h2:m<b)(h3:b<=n)(D:Nat->α)(M:Mem)(hM:AtA 93 7 f g n enc M0 D M)(c1:¬m-a=1)(c2:¬b-m=1)
 (ih:∀(a' m' b':Nat),b'-a'<b-a->a'<m'->m'<b'->b'<=n->∀(D:Nat->α) (M:Mem),AtA 93 7 f g n enc M0 D M->A0c (WC gl) 142 [.vref f g 7 0 n,I a',I m',I b',.func (.func fid) first cap] M (λ_ M'=>∃E,AtA 93 7 f g n enc M0 E M'/\Mix n a' b' D E/\(A5V c->Srt c a' m' D->Srt c m' b' D->Srt c a' b' E))):
 A0c (WC gl) 142 [.vref f g 7 0 n,I a,I m,I b,.func (.func fid) first cap] M (λ_ M'=>∃E,AtA 93 7 f g n enc M0 E M'/\Mix n a b D E/\(A5V c->Srt c a m D->Srt c m b D->Srt c a b E)):=by
 refine A1f hW func142 rfl rfl rfl rfl rfl rfl ?_
 have w1:=B3T (i:=m) (j:=a) Q0 Q0
 have wb:=B3T (i:=b) (j:=m) Q0 Q0
 have L:∀{E:Nat->α} {M:Mem} {i:Nat},AtA 93 7 f g n enc M0 E M->i<n->A0E prog 93 M (.vptr f g (i*7))=some (.agg (enc (E i))):=λh hi=>h.load (P:=prog) (t:=93) hf he Q1 Q1 hi
 have aa:¬((m-a:Nat):Int)=1:=Q0
 have ac:¬((b-m:Nat):Int)=1:=Q0
 obtain⟨mid,a9⟩:=ex ((a+b)/2)
 have wm:=C8I a9 Q0
 have wn:IntKind.i64.wrap ((mid:Int)+(m:Int))=((mid+m:Nat):Int):=D6G Q0
 have wp:IntKind.i64.wrap (((mid+m:Nat):Int)-1)=((mid+m-1:Nat):Int):=D4W Q0 Q0
 obtain⟨nn,am⟩:=ex (mid+m)
 rw[<-am]at wn wp
 obtain⟨s0,r0,ab⟩:∃s0 r0,(mid<m/\s0=nn-b/\r0=mid)\/(¬mid<m/\s0=a/\r0=m):=by
  by_cases q:mid<m
  .exact⟨_,_,.inl ⟨q,rfl,rfl⟩⟩
  .exact⟨_,_,.inr ⟨q,rfl,rfl⟩⟩
 have an:=ab
 rcases ab with⟨q1,q2,q3⟩|⟨q1,q2,q3⟩
 case' inl=>
  have a1:(mid:Int)<m:=Q0;have a4:(m:Int)>mid:=a1;have q4:IntKind.i64.wrap ((nn:Int)-(b:Int))=(s0:Int):=by rw[q2];exact B3T Q0 Q0
  simp -dsimp[w1,wb,aa,ac,wm.1,wm.2.1,wm.2.2,A5X,wn,wp,a1,a4,q4]
 case' inr=>have a1:¬(mid:Int)<m:=Q0;have a4:¬(m:Int)>mid:=a1;simp -dsimp[w1,wb,aa,ac,wm.1,wm.2.1,wm.2.2,A5X,wn,wp,a1,a4]
 all_goals
  have ao:s0<=r0/\a<=s0/\r0<=m/\r0<=mid+m/\m<=nn-r0/\nn-s0<=b/\a<mid/\mid<b:=Q0
  refine A6V (.exit 8) (λT M1=>∃s:Nat,s0<=s/\s<=r0/\T 0=.vref f g 7 0 n/\T 1=I a/\T 2=I m/\T 3=I b/\T 4=.func (.func fid) first cap/\T 18=I mid/\T 19=I nn/\T 20=I s/\M1=M/\(s0<s->¬c (D (nn-s)) (D (s-1))<0)/\(s<r0->c (D (nn-1-s)) (D s)<0)) ?_ ?_
 case' inl.refine_1=>
  refine A0M hW (λT M1=>∃s:Nat,s0<=s/\T 0=.vref f g 7 0 n/\T 1=I a/\T 2=I m/\T 3=I b/\T 4=.func (.func fid) first cap/\T 18=I mid/\T 19=I nn/\T 22=I (nn-1:Nat)/\T 20=I s/\
   (s0<s->¬c (D (nn-s)) (D (s-1))<0)/\M1=M/\∃r:Nat,T 21=I r/\s<=r/\r<=r0/\(r<r0->c (D (nn-1-r)) (D r)<0))
   (λT _=>match T 20,T 21 with|.val (.int _ i),.val (.int _ j)=>j.toNat-i.toNat|_,_=>0) Q2 ?_ ?_
  .exact⟨s0,Q0,Q1,Q1,Q1,Q1,Q1,Q1,Q1,Q1,Q1,λq=>by omega,rfl,r0,by simp[q3],Q0,Q0,λq=>by omega⟩
 case' inr.refine_1=>
  refine A0M hW (λT M1=>∃s:Nat,s0<=s/\T 0=.vref f g 7 0 n/\T 1=I a/\T 2=I m/\T 3=I b/\T 4=.func (.func fid) first cap/\T 18=I mid/\T 19=I nn/\T 22=I (nn-1:Nat)/\T 20=I s/\
   (s0<s->¬c (D (nn-s)) (D (s-1))<0)/\M1=M/\∃r:Nat,T 21=I r/\s<=r/\r<=r0/\(r<r0->c (D (nn-1-r)) (D r)<0))
   (λT _=>match T 20,T 21 with|.val (.int _ i),.val (.int _ j)=>j.toNat-i.toNat|_,_=>0) Q2 ?_ ?_
  .exact⟨s0,Q0,Q1,Q1,Q1,Q1,Q1,Q1,Q1,Q1,by simp[q2],λq=>by omega,rfl,r0,by simp[q3],Q0,Q0,λq=>by omega⟩
 case inl.refine_1|inr.refine_1=>
  rintro T M1 ⟨x,x1,t0,t1,t2,t3,t4,d,v,t22,t20,hl,rfl,y,t21,xy,yr,hr⟩;by_cases hxy:x<y;case pos=>
   have ad:(x:Int)<y:=Q0;obtain⟨h,hh⟩:=ex ((x+y)/2);have w2:=C8I hh Q0;have w3:=A1O (i:=h) Q0;have w4:=B3T (i:=nn-1) (j:=h) Q0 Q0;have k1:h<n:=Q0;have ak:(h:Int)<n:=Q0;have k2:nn-1-h<n:=Q0;have aj:((nn-1-h:Nat):Int)<n:=Q0;simp -dsimp[t0,t1,t2,t3,t4,d,v,t22,t20,t21,ad,w2.1,w2.2.1,w2.2.2,A5X];refine A0X hW (A0B gl) (λk=>if k=6\/k=10 then 1 else 0) (λ_=>f) (by rfl) Q2 ?_;simp -dsimp[t0,t1,t2,t3,t4,d,v,t22,t20,t21,w2.2.2,w4,k1,ak,k2,aj,L hM k1,L hM k2];refine A1k (r:=I (c (D (nn-1-h)) (D h))) (λM=>hc _ _ M) ?_;by_cases hlt:c (D (nn-1-h)) (D h)<0
   .simp -dsimp[t0,t1,t2,t3,t4,d,v,t22,t20,t21,w2.2.2,hlt];exact⟨⟨x,by clear w2;omega,rfl,λq=>Z3x.1 (hl q),h,rfl,by clear w2;omega,by clear w2;omega,λ_=>hlt⟩,by clear w2;omega⟩
   .have e1:nn-(h+1)=nn-1-h:=Q0;simp -dsimp[t0,t1,t2,t3,t4,d,v,t22,t20,t21,w2.2.2,hlt,w3];exact⟨⟨h+1,by clear w3;omega,Q1,λ_=>by rw[e1];exact Z3x.1 hlt,y,rfl,by clear w3;omega,by clear w3;omega,hr⟩,by clear w3 w2;omega⟩
  case neg=>obtain rfl:x=y:=Q0;simp -dsimp[t0,t1,t2,t3,t4,d,v,t22,t20,t21];exact⟨x,Q0,Q0,rfl,λq=>Z3x.1 (hl q),hr⟩
 all_goals
  rintro T M1 ⟨x,x1,x2,t0,t1,t2,t3,t4,d,v,t20,rfl,hl,hr⟩
  have we:=B3T (i:=nn) (j:=x) Q0 Q0
  obtain⟨e,a8⟩:∃e,e=nn-x:=⟨_,rfl⟩
  rw[<-a8]at we
  simp -dsimp[-A8g]
  rw[A8g]
  simp -dsimp[-A8g,t0,t1,t2,t3,t4,d,v,t20,we]
  rw[A8g]
  have l:x<=m/\m<=e/\e<=b/\a<=x/\e+x=mid+m/\(a<x/\e<b->s0<x)/\(x<m/\m<e->x<r0):=Q0
  have a0:=λ(o:A5V c) (s1:Srt c a m D) (s2:Srt c m b D)=>D1o (mid:=mid) (s:=x) (e:=e) s1 s2 l.2.2.2.1 l.1 l.2.1 l.2.2.1 l.2.2.2.2.1
  have ae:=λ(o:A5V c) (s1:Srt c a m D) (s2:Srt c m b D)=>C5o (mid:=mid) (s:=x) (e:=e) o s1 s2 l.2.2.2.1 l.1 l.2.1 l.2.2.1 l.2.2.2.2.1 (λq=>by rw[a8];exact hl (l.2.2.2.2.2.1 q)) (λq=>by have:=hr (l.2.2.2.2.2.2 q);rwa[show nn-1-x=e-1 by omega]at this)
  refine B2O (λT M1=>T 0=.vref f g 7 0 n/\T 1=I a/\T 3=I b/\T 4=.func (.func fid) first cap/\T 18=I mid/\T 20=I x/\T 24=I e/\AtA 93 7 f g n enc M0 (rot D x m e) M1/\Mix n a b D (rot D x m e)) ?_ ?_
  .by_cases r1:x<m
   .have u:(x:Int)<m:=Q0;by_cases r2:m<e
    .have w:(m:Int)<e:=Q0;simp -dsimp[t0,t1,t2,t3,t4,d,v,t20,u,w];refine A0s (A0l func219 rfl rfl (D1p gl he hf hn x m e r1 r2 Q0 D _ hM _)) ?_;rintro r M2 ⟨hA,hX⟩;simp -dsimp[t0,t1,t2,t3,t4,d,v,t20];exact⟨hA,hX.wide Q0 Q0⟩
    .have w:¬(m:Int)<e:=Q0;simp -dsimp[t0,t1,t2,t3,t4,d,v,t20,u,w];rw[C4W D l.1 l.2.1 Q0];exact⟨hM,.refl ..⟩
   .have u:¬(x:Int)<m:=Q0;simp -dsimp[t0,t1,t2,t3,t4,d,v,t20,u];rw[C4W D l.1 l.2.1 Q0];exact⟨hM,.refl ..⟩
  clear t0 t1 t2 t3 t4 d v t20
  generalize rot D x m e=R at*
  rintro T M1 ⟨t0,t1,t3,t4,d,t20,z,hA,hX⟩
  simp -dsimp[-A8g]
  rw[A8g]
  refine B2O (λT M1=>T 0=.vref f g 7 0 n/\T 3=I b/\T 4=.func (.func fid) first cap/\T 18=I mid/\T 24=I e/\∃E,AtA 93 7 f g n enc M0 E M1/\Mix n a mid R E/\(A5V c->Srt c a m D->Srt c m b D->Srt c a mid E)) ?_ ?_
  .by_cases r1:a<x
   .have u:(a:Int)<x:=Q0;by_cases r2:x<mid
    .have w:(x:Int)<mid:=Q0;simp -dsimp[t0,t1,t3,t4,d,t20,z,u,w];refine A0s (A0l func142 rfl rfl (ih a x mid Q0 r1 r2 Q0 R _ hA)) ?_;rintro r M2 ⟨E,ah,a2,a5⟩;simp -dsimp[t0,t1,t3,t4,d,t20,z];exact⟨E,ah,a2,λo s1 s2=>a5 o (a0 o s1 s2).1 (a0 o s1 s2).2.1⟩
    .have w:¬(x:Int)<mid:=Q0;simp -dsimp[t0,t1,t3,t4,d,t20,z,u,w];exact⟨R,hA,.refl ..,λo s1 s2=>(a0 o s1 s2).1.part (Z0j _) Q0⟩
   .have u:¬(a:Int)<x:=Q0;simp -dsimp[t0,t1,t3,t4,d,t20,z,u];exact⟨R,hA,.refl ..,λo s1 s2=>(a0 o s1 s2).2.1.part Q0 (Z0j _)⟩
  clear t0 t1 t3 t4 d t20 z
  rintro T M1 ⟨t0,t3,t4,d,z,E,hA,a2,a5⟩
  have a6:∀{F:Nat->α} {M:Mem},AtA 93 7 f g n enc M0 F M->Mix n mid b E F->(A5V c->Srt c a m D->Srt c m b D->Srt c mid b F)->∃E,AtA 93 7 f g n enc M0 E M/\Mix n a b D E/\(A5V c->Srt c a m D->Srt c m b D->Srt c a b E):=by intro F M hF a7 af;refine⟨F,hF,(hX.trans (a2.wide (Z0j _) Q0)).trans (a7.wide Q0 (Z0j _)),λo s1 s2=>?_⟩;exact C8n Q0 Q0 (ae o s1 s2) a2 a7 (a5 o s1 s2) (af o s1 s2)
  have a3:∀{p q:Nat},mid<=p->Srt c p q R->Srt c p q E:=λhp hs=>hs.congr λk k1 _=>a2.out k (.inr Q0)
  by_cases r1:mid<e
  .have u:(mid:Int)<e:=Q0;by_cases r2:e<b
   .have w:(e:Int)<b:=Q0;simp -dsimp[t0,t3,t4,d,z,u,w];refine A0s (A0l func142 rfl rfl (ih mid e b Q0 r1 r2 Q0 E _ hA)) ?_;rintro r M2 ⟨F,ag,al,ai⟩;simp -dsimp[t0,t3,t4,d,z];exact a6 ag al λo s1 s2=>ai o (a3 (Z0j _) (a0 o s1 s2).2.2.1) (a3 Q0 (a0 o s1 s2).2.2.2)
   .have w:¬(e:Int)<b:=Q0;simp -dsimp[t0,t3,t4,d,z,u,w];exact a6 hA (.refl ..) λo s1 s2=>(a3 (Z0j _) (a0 o s1 s2).2.2.1).part (Z0j _) Q0
  .have u:¬(mid:Int)<e:=Q0;simp -dsimp[t0,t3,t4,d,z,u];exact a6 hA (.refl ..) λo s1 s2=>(a3 Q0 (a0 o s1 s2).2.2.2).part Q0 (Z0j _)
def C2f(he:∀x,(enc x).length=7)(hc:CmpOK (WC gl) enc c fid first cap)(hf:f<M0.length)(hn:n<=1000):∀(N a m b:Nat),b-a<N->a<m->m<b->b<=n->∀(D:Nat->α) (M:Mem),AtA 93 7 f g n enc M0 D M->
 A0c (WC gl) 142 [.vref f g 7 0 n,I a,I m,I b,.func (.func fid) first cap] M (λ_ M'=>∃E,AtA 93 7 f g n enc M0 E M'/\Mix n a b D E/\(A5V c->Srt c a m D->Srt c m b D->Srt c a b E))
 |0,a,m,b,hN,_,_,_,D,M,hM=>by omega
 |N+1,a,m,b,hN,h1,h2,h3,D,M,hM=>by
  by_cases c1:m-a=1
  .exact D3B gl he hc hf hn a m b h1 h2 h3 D M hM c1
  .by_cases c2:b-m=1
   .exact D3A gl he hc hf hn a m b h1 h2 h3 D M hM c1 c2
   .exact D4r gl he hc hf hn a m b h1 h2 h3 D M hM c1 c2 λa' m' b' hN' k1 k2 k3 D M hM=>C2f he hc hf hn N a' m' b' Q0 k1 k2 k3 D M hM
end
end Go.Abs.StA
end
section
set_option maxRecDepth 100000
namespace Go.Abs.StA
open Go.Proofs TryTypes Tryz
section
variable (gl:Nat->AV) {α:Type} {enc:α->List AV} {c:α->α->Int} {fid:FuncId} {first cap:List AV} {f g n:Nat} {M0:Mem}
def C9R(M:Mem)(cf:AV):A0c (WC gl) 141 [.val (.slice none 0 0),I 0,I 0,cf] M (λ_ M'=>M'=M):=by
 refine A1f hW func141 rfl rfl rfl rfl rfl rfl ?_;have w1:IntKind.i64.wrap 1=1:=by decide
 simp -dsimp[w1];refine A0M hW (λT M1=>M1=M/\T 2=I 0/\T 8=I 1) (λ_ _=>0) Q2 ?_ ?_
 .exact⟨rfl,Q1,Q1⟩
 .rintro T M1 ⟨rfl,t2,t8⟩;simp -dsimp[t2,t8]
def C6A(M:Mem)(cf:AV):A0c (WC gl) 103 [.val (.slice none 0 0),I 0,cf] M (λ_ M'=>M'=M):=by
 refine A1f hW func103 rfl rfl rfl rfl rfl rfl ?_;simp -dsimp;refine A0M hW (λT M1=>M1=M/\T 0=.val (.slice none 0 0)/\T 1=I 0/\T 2=cf/\T 6=I 20/\T 7=I 0/\T 8=I 20) (λ_ _=>0) Q2 ?_ ?_
 .exact⟨rfl,Q1,Q1,Q1,Q1,Q1,Q1⟩
 .rintro T M1 ⟨rfl,t0,t1,t2,t6,t7,t8⟩;simp -dsimp[t0,t1,t2,t6,t7,t8];refine A0s (A0l func141 rfl rfl (C9R gl _ cf)) ?_;rintro r M2 rfl;simp -dsimp;refine A0M hW (λT M1=>M1=M2/\T 1=I 0/\T 6=I 20) (λ_ _=>0) Q2 ?_ ?_
  .exact⟨rfl,by simp[t1],by simp[t6]⟩
  .rintro T M1 ⟨rfl,t1,t6⟩;simp -dsimp[t1,t6]
def sortStable_nil(M:Mem)(cf:AV):A0c (WC gl) 75 [.val (.slice none 0 0),cf] M (λ_ M'=>M'=M):=by refine A1f hW func75 rfl rfl rfl rfl rfl rfl ?_;simp -dsimp;refine A0s (A0l func103 rfl rfl (C6A gl M cf)) ?_;rintro r M2 rfl;simp -dsimp
end
end Go.Abs.StA
end
section
set_option maxRecDepth 100000
namespace Go.Abs.StA
open Go.Proofs TryTypes Tryz
def B6W{d x y:Nat}(h1:d ∣x)(h2:d ∣y)(h:x<y):x+d<=y:=by obtain⟨p,rfl⟩:=h1;obtain⟨q,rfl⟩:=h2;have a:p<q:=Nat.lt_of_mul_lt_mul_left h;have hm:=Nat.mul_le_mul_left d a;rwa[Nat.mul_succ]at hm
section
variable (gl:Nat->AV) {α:Type} {enc:α->List AV} {c:α->α->Int} {fid:FuncId} {first cap:List AV} {f g n:Nat} {M0:Mem}
def Low(c:α->α->Int)(d a:Nat)(E:Nat->α):Prop:=∀x,d ∣x->x<a->Srt c x (x+d) E
def Upp(c:α->α->Int)(d a n:Nat)(E:Nat->α):Prop:=∀x,d ∣x->a<=x->Srt c x (min (x+d) n) E
def Low.next{d a b:Nat}{E F:Nat->α}(h:Low c d a E)(hd:d ∣a)(hb:b=a+d)(hx:Mix n a b E F)(hs:Srt c a b F):Low c d b F:=λx h1 h2=>by
 by_cases hxa:x<a
 .have:=B6W h1 hd hxa;exact(h x h1 hxa).congr λk k1 k2=>hx.out k (.inl Q0)
 .have:x=a:=by
   by_cases e:a<x
   .have:=B6W hd h1 e;omega
   .omega
  subst this;rw[<-hb];exact hs
def Low.full{d a:Nat}{E F:Nat->α}(h:Low c d a E)(hd:d ∣a)(b:a<=n)(hn:n<a+d)(hx:Mix n a n E F)(hs:Srt c a n F):Upp c d 0 n F:=λx h1 _=>by
 by_cases hxa:x<a
 .have:=B6W h1 hd hxa;exact((h x h1 hxa).congr λk k1 k2=>hx.out k (.inl Q0)).part (Z0j _) (Nat.min_le_left _ _)
 .by_cases e:a<x
  .have:=B6W hd h1 e;exact .short Q0
  .obtain rfl:x=a:=Q0;exact hs.part (Z0j _) (Nat.min_le_right _ _)
def Upp.next{d a b:Nat}{E F:Nat->α}(h:Upp c d a n E)(e:a<=b)(hx:Mix n a b E F):Upp c d b n F:=λx h1 h2=>(h x h1 Q0).congr λk k1 k2=>hx.out k (.inr Q0)
set_option maxHeartbeats 1000000 in
def C8h(he:∀x,(enc x).length=7)(hc:CmpOK (WC gl) enc c fid first cap)(hf:f<M0.length)(hn:n<=1000)(D:Nat->α)(M:Mem)(hM:AtA 93 7 f g n enc M0 D M):A0c (WC gl) 103 [.vref f g 7 0 n,I n,.func (.func fid) first cap] M (λ_ M'=>∃E,AtA 93 7 f g n enc M0 E M'/\Mix n 0 n D E/\(A5V c->Srt c 0 n E)):=by
 refine A1f hW func103 rfl rfl rfl rfl rfl rfl ?_
 simp -dsimp
 refine A0M hW (λT M1=>∃a:Nat,T 0=.vref f g 7 0 n/\T 1=I n/\T 2=.func (.func fid) first cap/\T 6=I (20:Nat)/\T 7=I a/\T 8=I (a+20:Nat)/\20 ∣a/\a<=n/\∃E,AtA 93 7 f g n enc M0 E M1/\Mix n 0 n D E/\(A5V c->Low c 20 a E)) (λT _=>match T 7 with|.val (.int _ i)=>1000-i.toNat|_=>0) Q2 ?_ ?_
 .exact⟨0,Q1,Q1,Q1,Q1,Q1,Q1,Q1,Q0,D,hM,.refl ..,λ_ x _ h=>by omega⟩
 .rintro T M1 ⟨a,t0,t1,t2,t6,t7,t8,ha,t,E,hA,hX,hS⟩;have w1:IntKind.i64.wrap (((a+20:Nat):Int)+20)=((a+20+20:Nat):Int):=by rw[A0R Q0 Q0];omega
  have v:T 6=I 20:=t6;obtain⟨a2,z⟩:=ex (a+20);rw[<-z]at t8 w1;by_cases hb:a2<=n
  .have w:(a2:Int)<=n:=Q0;simp -dsimp[t0,t1,t2,v,t7,t8,w];refine A0s (A0l func141 rfl rfl (C4g gl he hc hf Q0 a a2 Q0 Q0 E _ hA)) ?_;rintro r M2 ⟨F,k,e,j⟩;simp -dsimp[t0,t1,t2,v,t7,t8,w1];exact⟨⟨a2,rfl,Q0,Q0,F,k,hX.trans (e.wide Q0 Q0),λo=>(hS o).next ha z e (j o)⟩,Q0⟩
  .have w:¬(a2:Int)<=n:=Q0;simp -dsimp[t0,t1,t2,v,t7,t8,w];refine A0s (A0l func141 rfl rfl (C4g gl he hc hf Q0 a n Q0 Q0 E _ hA)) ?_;rintro r M2 ⟨F,k,e,j⟩;have hU:A5V c->Upp c 20 0 n F:=λo=>(hS o).full ha t Q0 e (j o);have a0:=hX.trans (e.wide (Z3H _) (Z0j _));clear e hA hS hX;simp -dsimp;refine A0M hW (λT M1=>∃bs:Nat,0<bs/\bs<=2000/\T 0=.vref f g 7 0 n/\T 1=I n/\T 2=.func (.func fid) first cap/\T 6=I bs/\∃E,AtA 93 7 f g n enc M0 E M1/\Mix n 0 n D E/\(A5V c->Upp c bs 0 n E)) (λT _=>match T 6 with|.val (.int _ i)=>2000-i.toNat|_=>0) Q2 ?_ ?_
   .exact⟨20,Q0,Q0,by simp[t0],by simp[t1],by simp[t2],by simp[t6],F,k,a0,hU⟩
   .clear t0 t1 t2 t6 t7 t8 v;rintro T M3 ⟨bs,a3,a4,t0,t1,t2,t6,E,hA,hX,hS⟩;by_cases hbs:bs<n;(case neg=>have q:¬(bs:Int)<n:=Q0;simp -dsimp[t0,t1,t2,t6,q];exact⟨E,hA,hX,λo=>(hS o 0 (Nat.dvd_zero _) (Z0j _)).part (Z0j _) Q0⟩);have q:(bs:Int)<n:=Q0;(have w2:IntKind.i64.wrap (2*(bs:Int))=((2*bs:Nat):Int):=by rw[A0R Q0 Q0];omega);(have w3:IntKind.i64.wrap ((bs:Int)*2)=((2*bs:Nat):Int):=by rw[A0R Q0 Q0];omega);obtain⟨d,hd⟩:=ex (2*bs);rw[<-hd]at w2 w3;have a1:bs ∣d:=⟨2,Q0⟩;simp -dsimp[t0,t1,t2,t6,q,w2];refine A0M hW (λT M4=>∃a:Nat,T 0=.vref f g 7 0 n/\T 1=I n/\T 2=.func (.func fid) first cap/\T 6=I bs/\T 7=I a/\T 8=I (a+d:Nat)/\d ∣a/\a<=n/\∃E,AtA 93 7 f g n enc M0 E M4/\Mix n 0 n D E/\(A5V c->Low c d a E/\Upp c bs a n E)) (λT _=>match T 7 with|.val (.int _ i)=>1000-i.toNat|_=>0) Q2 ?_ ?_
    .exact⟨0,by simp[t0],by simp[t1],by simp[t2],by simp[t6],Q1,Q1,Q1,Q0,E,hA,hX,λo=>⟨λx _ h=>by omega,hS o⟩⟩
    .clear hS hX hA;rintro T4 M4 ⟨a,u0,u1,u2,u6,u7,u8,s,t,E,hA,hX,hS⟩;obtain⟨b,hb⟩:=ex (a+d);obtain⟨m,hm⟩:=ex (a+bs);rw[<-hb]at u8;(have w4:IntKind.i64.wrap ((a:Int)+bs)=(m:Nat):=by rw[A0R Q0 Q0];omega);(have w5:IntKind.i64.wrap ((b:Int)+d)=((b+d:Nat):Int):=by rw[A0R Q0 Q0];omega);have u:bs ∣a:=Nat.dvd_trans a1 s;(have y:bs ∣m:=by rw[hm];exact Nat.dvd_add u (Nat.dvd_refl _));by_cases hbn:b<=n
     .have l:(b:Int)<=n:=Q0;simp -dsimp[u0,u1,u2,u6,u7,u8,l,w4];refine A0s (A0l func142 rfl rfl (C2f gl he hc hf Q0 (n+1) a m b Q0 Q0 Q0 Q0 E _ hA)) ?_;rintro r M5 ⟨F,k,e,j⟩;simp -dsimp[u0,u1,u2,u6,u7,u8,w2,w5];refine⟨⟨b,rfl,by rw[hb];exact Nat.dvd_add s (Nat.dvd_refl _),hbn,F,k,hX.trans (e.wide Q0 Q0),λo=>?_⟩,Q0⟩;obtain⟨hl,hu⟩:=hS o;have s1:=(hu a u (Z0j _)).part (Z0j a) (show m<=min (a+bs) n by omega);have s2:=(hu m y Q0).part (Z0j m) (show b<=min (m+bs) n by omega);exact⟨hl.next s hb e (j o s1 s2),hu.next Q0 e⟩
     .have l:¬(b:Int)<=n:=Q0;by_cases hmn:m<n
      .have p:(m:Int)<n:=Q0;simp -dsimp[u0,u1,u2,u6,u7,u8,l,w4,p];refine A0s (A0l func142 rfl rfl (C2f gl he hc hf Q0 (n+1) a m n Q0 Q0 Q0 Q0 E _ hA)) ?_;rintro r M5 ⟨F,k,e,j⟩;simp -dsimp[u0,u1,u2,u6,u7,u8,w3,t6];refine⟨⟨d,Q0,Q0,rfl,F,k,hX.trans (e.wide Q0 Q0),λo=>?_⟩,Q0⟩;obtain⟨hl,hu⟩:=hS o;have s1:=(hu a u (Z0j _)).part (Z0j a) (show m<=min (a+bs) n by omega);have s2:=(hu m y Q0).part (Z0j m) (show n<=min (m+bs) n by omega);exact hl.full s t Q0 e (j o s1 s2)
      .have p:¬(m:Int)<n:=Q0;simp -dsimp[u0,u1,u2,u6,u7,u8,l,w4,p,w3,t6];refine⟨⟨d,Q0,Q0,rfl,E,hA,hX,λo=>?_⟩,Q0⟩;obtain⟨hl,hu⟩:=hS o;have s1:=(hu a u (Z0j _)).part (Z0j a) (show n<=min (a+bs) n by omega);exact hl.full s t Q0 (.refl ..) s1
def sortStableL_ok(he:∀x,(enc x).length=7)(hc:CmpOK (WC gl) enc c fid first cap)(hf:f<M0.length)(hn:n<=1000)(D:Nat->α)(M:Mem)(hM:AtA 93 7 f g n enc M0 D M):A0c (WC gl) 75 [.vref f g 7 0 n,.func (.func fid) first cap] M (λ_ M'=>∃E,AtA 93 7 f g n enc M0 E M'/\Mix n 0 n D E/\(A5V c->Srt c 0 n E)):=by
 refine A1f hW func75 rfl rfl rfl rfl rfl rfl ?_
 simp -dsimp
 refine A0s (A0l func103 rfl rfl (C8h gl he hc hf hn D M hM)) ?_
 rintro r M2 h
 simp -dsimp[h]
end
end Go.Abs.StA
end
set_option maxRecDepth 100000
namespace Go.Abs
open Go.Proofs TryTypes Tryz
abbrev B'(b:Bool):AV:=.val (.bool b)
@[simp] def C3C(M:Mem)(X:A0m):(M++[X])[M.length]?=some X:=ZBG
@[simp] def A1d{P:Program}{t bt:TypeId}{cs:List AV}{M:Mem}{o:Nat}:A0E P t (M++[.cells bt cs]) (.ptr M.length o)=if o<=cs.length then A0p P t (cs.drop o)else none:=A0b (C3C M _)
def Kp(oo:Nat)(v:AV)(M M':Mem):Prop:=M.length<=M'.length/\∀i,i<M.length->i≠oo->obj v≠some i->M'[i]?=M[i]?
def C4R(oo:Nat):AV:=.func (.func 74) [] [.ptr oo 0]
section
variable (gl:Nat->AV)
def D6I(a:A0Y)(b:Bool)(oo:Nat)(v:AV)(c:List A0Y)(M:Mem)(hM:M[oo]?=some (.cells 59 [v]))(hv:A1r 93 7 A0Y.row M v c)(hl:c.length<=1000):A0c (WC gl) 74 [.agg a.row,B b,.ptr oo 0] M (λ_ M'=>∃v',M'[oo]?=some (.cells 59 [v'])/\A1r 93 7 A0Y.row M' v' (if b then c else c++[a])/\Kp oo v M M'/\(obj v'=obj v\/A1L M.length v')):=by
 rw[A0Y.row]
 refine A1f (hQ [10]) func74 rfl rfl rfl rfl rfl rfl ?_
 have m:oo<M.length:=(Z0a.1 hM).1
 have k:∀f,obj v=some f->f≠oo:=λf hf e=>by
  subst e;rcases hv with⟨rfl,_⟩|⟨f',g,n,rfl,hm,_⟩
  .simp at hf
  .simp at hf;subst hf;rw[hM]at hm;simp at hm
 cases b with
 |true=>
  simp -dsimp
  exact⟨v,hM,hv,⟨Z0j _,λ_ _ _ _=>rfl⟩,.inl rfl⟩
 |false=>
  simp -dsimp[A0b hM,A0x,A1g]
  refine A3B (C:=WC gl) (enc:=A0Y.row) (e:=93) (sz:=7) (news:=[a]) D8P E1f E1k (λ_=>rfl) hv (by simp[A0D,A0Y.row]) ZAB (by rfl) ?_
  intro v' M' h1 h2 h3 _
  have j:M'[oo]?=some (.cells 59 [v]):=h2.get hM (λe=>k _ e rfl)
  have hs:A0k (some 1) M' (.ptr oo 0) v'=some (M'.set oo (.cells 59 [v'])):=by rw[A0f j,h1.store,h1.cells];simp[A0e]
  have d:oo<M'.length:=(Z0a.1 j).1
  have l:∀f,obj v'=some f->f≠oo:=λf hf e=>by
   subst e;rcases h3 with h3|h3
   .exact k _ (by rw[<-h3];exact hf) rfl
   .have:=h3 _ hf;omega
  simp -dsimp[hs]
  refine⟨v',by simp[d],h1.keep (o:=some oo) (A0d.set _ _ _) (λf hf e=>l f hf (by simpa using e.symm)),⟨by have:=h2.1;simpa using this,λi hi hne hob=>?_⟩,h3⟩
  rw[Z0f Q0]
  exact h2.2 i hi hob
def EvI(oo b:Nat)(M0:Mem)(row:List A0Y)(M1:Mem):Prop:=∃v mm,M1[oo]?=some (.cells 59 [v])/\A1r 93 7 A0Y.row M1 v (A3m row)/\A3n I B' M1 b mm/\(∀n,A5i mm n=if n∈row.map (·.number)then some true else none)/\M0.length<=M1.length/\(∀i,i<M0.length->i≠oo->M1[i]?=M0[i]?)/\A1L M0.length v
def EvI.grow{oo b:Nat}{M0 M1:Mem}{row:List A0Y}(h:EvI oo b M0 row M1)(X:Mem):EvI oo b M0 row (M1++X):=by obtain⟨v,mm,h1,h2,h3,h4,h5,h6,h7⟩:=h;refine⟨v,mm,by rw[Z0o (Z0a.1 h1).1];exact h1,h2.keep (A0d.app none M1 X) (λ_ _=>by simp),h3.keep (A0d.app none M1 X) Q1,h4,ZAB,λi hi hne=>?_,h7⟩;rw[Z0o Q0];exact h6 i hi hne
def D3q(l:List A1p)(oo:Nat)(M:Mem)(hM:M[oo]?=some (.cells 59 [.val (.slice none 0 0)]))(hl:l.length<=100)(hn:(l.flatMap A1p.acts).length<=1000):A0c (WC gl) 73 [.list 4 (A2f l) .no,.func (.func 74) [] [.ptr oo 0]] M (λ_ M'=>EvI oo M.length M (l.flatMap A1p.acts) M'):=by
 refine A1f (hQ []) func73 rfl rfl rfl rfl rfl rfl ?_
 have ad:oo<M.length:=(Z0a.1 hM).1
 have h0:EvI oo M.length M [] (M++[.map [] 0]):=by refine⟨.val (.slice none 0 0),[],by rw[Z0o ad];exact hM,A1r.nil,A3n.new M,by simp[A5i],Q1,λi hi _=>by rw[Z0o hi],by intro f hf;simp at hf⟩
 simp -dsimp
 refine A0M (hQ []) (λT M1=>∃i:Nat,i<=l.length/\T 1=C4R oo/\T 4=.mapr M.length/\T 10=.list 4 (A2f l) .no/\T 11=I l.length/\T 12=I i/\EvI oo M.length M ((l.take i).flatMap A1p.acts) M1) (λT _=>match T 12 with|.val (.int _ i)=>l.length-i.toNat|_=>0) Q2 ?_ ?_
 .exact⟨0,Q0,by simp[C4R],Q1,Q1,Q1,Q1,by simpa using h0⟩
 rintro T M1 ⟨i,i1,t1,t4,a6,a2,w,hE⟩
 by_cases hi:i<l.length
 case neg=>have y:¬(i:Int)<l.length:=Q0;obtain rfl:i=l.length:=Q0;rw[Z3h]at hE;simp -dsimp[t1,t4,a6,a2,w,y,hE]
 have y:(i:Int)<l.length:=Q0
 have w1:=A1O (i:=i) Q0
 have aj:(l.take (i+1)).flatMap A1p.acts=(l.take i).flatMap A1p.acts++l[i].acts:=by rw[Z0z,Z0g hi,Z0T,Z1n];simp
 have aq:((l.take i).flatMap A1p.acts).length+l[i].acts.length<=1000:=by
  have h1:l.flatMap A1p.acts=(l.take (i+1)).flatMap A1p.acts++(l.drop (i+1)).flatMap A1p.acts:=by rw[<-Z1n,Z1j]
  rw[h1,aj,Z0k,Z0k]at hn;clear w1;omega
 generalize(l.take i).flatMap A1p.acts=row at*
 simp -dsimp[t1,t4,a6,a2,w,hi,y,A1p.row,A0j,A0k,A0e]
 refine A6V (.exit 2) (λT M1=>T 1=C4R oo/\T 4=.mapr M.length/\T 10=.list 4 (A2f l) .no/\T 11=I l.length/\T 12=I i/\EvI oo M.length M (row++l[i].acts) M1) ?_ ?_
 .refine A0M (hQ []) (λT M1=>∃j:Nat,j<=l[i].acts.length/\T 1=C4R oo/\T 4=.mapr M.length/\T 10=.list 4 (A2f l) .no/\T 11=I l.length/\T 12=I i/\T 17=.list 7 (A5o l[i].acts) .no/\T 18=I l[i].acts.length/\T 19=I j/\EvI oo M.length M (row++l[i].acts.take j) M1) (λT _=>match T 19 with|.val (.int _ j)=>l[i].acts.length-j.toNat|_=>0) Q2 ?_ ?_
  .exact⟨0,Q0,ZDR,by simp[t4],by simp[a6],by simp[a2],by simp[w],Q1,Q1,Q1,by simpa using hE.grow _⟩
  rintro T M2 ⟨j,j1,u1,u4,u,t,p,a0,a1,a3,hE⟩;by_cases hj:j<l[i].acts.length;case neg=>have a7:¬(j:Int)<l[i].acts.length:=Q0;obtain rfl:j=l[i].acts.length:=Q0;rw[Z3h]at hE;simp -dsimp[u1,u4,u,t,p,a0,a1,a3,a7,hE]
  have a7:(j:Int)<l[i].acts.length:=Q0;have w2:=A1O (i:=j) Q0;have a4:l[i].acts.take (j+1)=l[i].acts.take j++[l[i].acts[j]]:=by rw[Z0z,Z0g hj,Z0T]
  obtain⟨a,ha⟩:=ex (l[i].acts[j]);have an:(row++l[i].acts.take j).length<=1000:=by rw[Z0k,Z0t];clear w2 w1;omega
  rw[<-ha]at a4;obtain⟨d,a9⟩:∃r,r=row++l[i].acts.take j:=⟨_,rfl⟩;rw[<-a9]at hE an;have x:=hE.grow [.cells 93 a.row];rw[A0Y.row]at x;have ae:row++l[i].acts.take (j+1)=d++[a]:=by rw[a4,a9,Z0F]
  clear hE a4;have m:=C3C M2 (.cells 93 a.row);rw[A0Y.row]at m;have ak:M.length<=M2.length:=by obtain⟨v,mm,h1,h2,h3,h4,h5,h6,h7⟩:=x;have:=(Z0a.1 h1).1;have:=h3.lt;simp at*;omega
  obtain⟨b8,s⟩:∃b,b=M2.length:=⟨_,rfl⟩;simp -dsimp[u1,u4,u,t,p,a0,a1,a3,hj,a7,<-ha,A0j,A0k,A0e,A0Y.row];rw[<-s]at m ak;rw[<-s];obtain⟨M3,a5⟩:=ex (M2++[.cells 93 [I a.number,S a.title,I a.day,I a.start.k,I a.start.day,S a.start.ev,.list 25 (A1w a.items) .no]]);rw[<-a5]at x m;rw[<-a5];clear a5 s;obtain⟨v,mm,h1,h2,h3,h4,h5,h6,h7⟩:=x;have af:=h3.lt;have ah:M.length≠oo:=Q0;have aa:obj v≠some M.length:=λe=>by
   rcases h2 with⟨rfl,_⟩|⟨f',g,ac,rfl,hm,_⟩
   .simp at e
   .simp at e;subst e;obtain⟨es,c,q1,_⟩:=h3;rw[q1]at hm;simp at hm
  have ap:obj v≠some b8:=λe=>by
   rcases h2 with⟨rfl,_⟩|⟨f',g,ac,rfl,hm,_⟩
   .simp at e
   .simp at e;subst e;rw[m]at hm;simp at hm
  obtain⟨ag,ab⟩:=ex (decide (a.number∈d.map (·.number)));have am:A1Y prog 170 M3 (.mapr M.length) (I a.number) false=some (B ag):=by
   rw[A3n.get (P:=prog) (z:=B false) (B9y 170 4 Q2) h3 a.number Q2 false,h4,ab];by_cases c:a.number∈d.map (·.number)
   .simp only[Z0c c];simp[c]
   .simp only[Z0d c];simp[c]
  have o:=D6I gl a ag oo v (A3m d) M3 h1 h2 (by have:=B0a d;omega);have a8:(if ag=true then A3m d else A3m d++[a])=A3m (d++[a]):=by
   rw[A8P,B4c,ab];by_cases c:a.number∈d.map (·.number)
   .rw[Z0c (by simpa using c),Z0c ((B6o _ _).2 c)]
   .rw[Z0d (by simpa using c),Z0d (λh=>c ((B6o _ _).1 h))]
  rw[a8,A0Y.row]at o;simp -dsimp[am,C4R];refine A0s (A0l func74 rfl rfl o) ?_;rintro _ M4 ⟨v',k1,k2,k3,k4⟩;have ao:M4[b8]?=some (.cells 93 [I a.number,S a.title,I a.day,I a.start.k,I a.start.day,S a.start.ev,.list 25 (A1w a.items) .no]):=by rw[k3.2 b8 (Z0a.1 m).1 Q0 ap];exact m
  have al:A3n I B' M4 M.length mm:=by obtain⟨es,c,q1,q2⟩:=h3;exact⟨es,c,by rw[k3.2 _ af ah aa];exact q1,q2⟩
  obtain⟨M5,p1,p2,p3⟩:=A3n.put (P:=prog) (B9y 170 4 Q2) al a.number true;have ai:∀f,obj v'=some f->f≠M.length:=λf hf e=>by
   subst e;rcases k4 with e|e
   .exact aa (by rw[<-e];exact hf)
   .have:=e _ hf;omega
  simp -dsimp[u1,u4,u,t,p,a0,a1,a3,A0b ao,p1,w2];refine⟨⟨j+1,ZAD,rfl,?_⟩,ZAD⟩;rw[ae];refine⟨v',_,p3.get k1 (by simp;exactλe=>ah e),k2.keep p3 (λf hf e=>ai f hf (by simpa using e.symm)),p2,λn=>?_,?_,λq hq hne=>?_,λf hf=>?_⟩
  .rw[B5k,h4];by_cases c:n=a.number
   .simp[c]
   .simp[c]
  .have:=p3.1;have:=k3.1;clear w1 w2;omega
  .rw[p3.2 q (by have:=k3.1;clear w1 w2;omega) ZAB,k3.2 q ZAD hne (λe=>by have:=h7 _ e;omega)];exact h6 q hq hne
  .rcases k4 with e|e
   .exact h7 f (by rw[<-e];exact hf)
   .have:=e _ hf;clear w1 w2;omega
 .rintro T M2 ⟨u1,u4,u,t,p,hE⟩;simp -dsimp[u1,u4,u,t,p,w,w1];exact⟨⟨i+1,Q3,rfl,by rw[aj];exact hE⟩,Q3⟩
end
def E5I:A0Y:=⟨0,⟨#[]⟩,0,⟨0,0,⟨#[]⟩⟩,[]⟩
def B6R(n:Nat)(a:A0Y):A1i n a.row:=by simp only[A0Y.row,A1i,bdd,Z1A,Z2J];exact B5a n _
section
variable (gl:Nat->AV)
def D7v(a b:A0Y)(M:Mem):A0c (WC gl) 76 [.agg a.row,.agg b.row] M (λv M'=>v=I (C3q a b)/\M'=M):=by refine A0r hB func76 ?_;simp -dsimp[A0Y.row];refine A0X hB (A0B gl) (λ_=>0) (λ_=>0) (by rfl) Q2 ?_;simp -dsimp;refine A1k (λM=>A0l func78 rfl rfl (B4Q gl M _ _)) ?_;simp -dsimp;refine A1k (λM=>A0l func78 rfl rfl (B4Q gl M _ _)) ?_;simp -dsimp[A0x,A1g];refine A1k (λM=>A0l func77 rfl rfl (D7N gl M [A6o a.day b.day,A6o a.number b.number] Q1)) ?_;simp -dsimp[C3q]
def D1r:StA.CmpOK (WC gl) A0Y.row C3q 76 [] []:=λx y M=>A0l func76 rfl rfl (D7v gl x y M)
def D3K(l:List A0Y)(v:AV)(M:Mem)(hk:A1r 93 7 A0Y.row M v l)(hn:l.length<=1000):A0c (WC gl) 75 [v,.func (.func 76) [] []] M (λ_ M'=>∃E,A1r 93 7 A0Y.row M' v E/\E.Perm l/\E.Pairwise (λa b=>leA a b=true)/\A0d (obj v) M M'):=by
 rcases hk with⟨rfl,rfl⟩|⟨f,g,m,rfl,hm,q⟩
 .refine(StA.sortStable_nil gl M _).mono ?_;rintro _ M' rfl;exact⟨[],.nil,.refl _,.nil,.refl _ _⟩
 .obtain⟨D,hD⟩:∃D:Nat->A0Y,ofD D l.length=l:=by
   refine⟨λi=>if h:i<l.length then l[i]else E5I,?_⟩;apply Z4y
   .simp
   .intro i h1 h2;rw[A8S,dif_pos h2]
  have o:M[f]?=some (.vec 93 7 ((ofD D l.length).flatMap A0Y.row) g m):=by rw[hD];exact hm
  have d:f<M.length:=(Z0a.1 hm).1;refine(StA.sortStableL_ok gl (enc:=A0Y.row) (c:=C3q) (fid:=76) (first:=[]) (cap:=[]) (f:=f) (g:=g) (n:=l.length) (M0:=M) (λx=>rfl) (D1r gl) d hn D M (AtA.start o q)).mono ?_;rintro _ M' ⟨E,hE,k,s⟩;have hp:(ofD E l.length).Perm l:=by have:=k.perm;rw[hD]at this;exact this
  have hs:=s D2W;obtain⟨e,rfl,p⟩:=hE;refine⟨ofD E l.length,.inr ⟨f,g,e,Q1,by simp[d],by simpa using p⟩,hp,?_,.set _ _ _⟩;rw[Z1G];intro i j hi hj r;rw[A8S,A8S,D7F];exact hs i j (Z3H _) r ZAP
def D0j(l:List A1p)(M:Mem)(h1:l.length<=100)(h2:(l.flatMap A1p.acts).length<=1000):A0c (WC gl) 49 [.list 4 (A2f l) .no] M (λv M'=>∃E,A1r 93 7 A0Y.row M' v E/\Grow M M'/\A1L M.length v/\E=A2M l):=by
 have d:=B0a (l.flatMap A1p.acts)
 refine A0r (hQ []) func49 ?_
 simp -dsimp[A0j]
 obtain⟨M1,a⟩:=ex (M++[A0m.cells 59 [.val (.slice none 0 0)]])
 have b:M1[M.length]?=some (.cells 59 [.val (.slice none 0 0)]):=ZCA
 have g:M1.length=M.length+1:=ZCA
 rw[<-a]
 refine A0s (A0l func73 rfl rfl (D3q gl l M.length M1 b h1 Q0)) ?_
 rintro _ M2 ⟨v,mm,k1,k2,_,_,k5,k6,k7⟩
 have c:obj v≠some M.length:=λe=>by have:=k7 _ e;omega
 simp -dsimp[A0b k1]
 refine A0s (A0l func75 rfl rfl (D3K gl _ v M2 k2 Q0)) ?_
 rintro _ M3 ⟨E,q1,q2,qs,q3⟩
 have r1:=q3.get k1 c
 simp -dsimp[A0b r1]
 refine⟨E,q1,⟨by have:=q3.1;omega,λi hi _=>?_⟩,λf hf=>by have:=k7 f hf;omega,D5l q2 qs (B0n _)⟩
 rw[q3.2 i Q0 (λe=>by have:=k7 _ e;omega),k6 i Q0 Q0,a,Z0o hi]
def C8Z(l:List A1p)(M:Mem)(h1:l.length<=100)(h2:(l.flatMap A1p.acts).length<=1000):A0c (WC gl) 49 [.list 4 (A2f l) .no] M (λv M'=>v=.list 7 (A5o (A2M l)) .no/\M'=M):=by
 refine(A0c.stillE (e:=93) (sz:=7) (enc:=A0Y.row) (P:=λE=>E=A2M l) (λx=>rfl) (λn x=>B6R n x) (D0j gl l M h1 h2)).mono ?_
 rintro v M' ⟨E,rfl,h,rfl⟩
 exact⟨rfl,h⟩
end
end Go.Abs
