/- The texts CbS, CbN, CbO, CbP, CbQ, CbR, CbV, CbW, CbY, CbX0, CbX1, CeN, CeO, CeP, CeQ, CeR, CfA. -/
import Derived.Test.YtmpdkagfplajjaaGreatDoorHG34
import Derived.Test.YtmpdkagfplajjaaGreatDoorHG08
import Derived.Test.YtmpdkagfplajjaaGreatDoorHG33
import Derived.Test.YtmpdkagfplajjaaGreatDoorHG36
import Derived.Test.YtmpdkagfplajjaaGreatDoorHG32
import Derived.Test.YtmpdkagfplajjaaGreatDoorHG37
set_option linter.all false
set_option maxRecDepth 100000
namespace Go.Abs
open Go.Proofs TryTypes Tryz
def B3n{C}{G}{M}{w}(hi:Inv C G M w):∀(l:List ByteArray) (b off:Nat),A0C G 1 (A0W l) b off->∀(j:Nat) x,l[j]?=some x->w.cell? ⟨b,off+j,none⟩=some (.string x)
 |[],_,_,_,j,x,hx=>by simp at hx
 |s::l,b,off,h,j,x,hx=>by
  simp only[A0W,Z0z,A0C,A0N]at h;obtain⟨⟨_,⟨v,hv,_,hr⟩,_⟩,h2⟩:=h;cases j with
  |zero=>simp at hx;subst hx;simp only[Rep]at hr;subst hr;exact hi.st _ _ _ hv
  |succ j=>have:=B3n hi l b (off+1) h2 j x (by simpa using hx);rw[show off+(j+1)=off+1+j by omega];exact this
def C4f(l:List UInt8):ByteArray:=⟨l.toArray⟩
def C1i(l:List ByteArray)(sep:ByteArray):ByteArray:=C4f (Lib.join (l.map (·.data.toList)) sep.data.toList)
section
variable (gl:Nat->AV) (M:Mem)
def D8q(l:List ByteArray)(o:Own)(d:ByteArray)(hN:l.length<=140737488355328)(g:(Lib.join (l.map (·.data.toList)) d.data.toList).length<=140737488355328):A0e (WC gl) 127 [.list 1 (A0W l) o,S d] M (λv M'=>v=S (C1i l d)/\M'=M):=by
 refine B1A λG w vs hi hr=>?_
 simp only[A0t]at hr
 obtain⟨y,_,rfl,hy,z,_,rfl,hz,rfl⟩:=hr
 simp only[Rep]at hy hz
 obtain⟨base,cap,rfl,hc,hm,hb,ho⟩:=hy
 subst hz
 rw[B6o]at hc
 have c:∀a,l=[]->Calls prog 127 #[.slice a l.length cap,.string d] w λe w'=>e=.returned (.string (C1i l d))/\RowKit.Below w.heap.size w w':=by rintro a rfl;exact Z2B (strings_Join_none a cap d w) λe w' ⟨he,hw⟩=>⟨he,hw▸RowKit.Below.refl _ _⟩
 show Calls prog 127 #[.slice base (A0W l).length cap,.string d] w _
 rw[B6o]
 cases base with
 |none=>
  have:l=[]:=by simpa[A0W]using hb.1
  exact c _ this
 |some a=>
  by_cases hl:l=[]
  .exact c _ hl
  .have hs:=hb.1 (by simpa[A0W]using hl);obtain⟨b,off,spot⟩:=a;subst hs;have f:=B3n hi l b off hb.2;have h:b<w.heap.size:=by
    cases l with
    |nil=>exact absurd rfl hl
    |cons s l=>exact Z2j w ⟨b,off+0,none⟩ (f 0 s rfl)
   exact strings_Join b off cap l d w f h hN hc g
def D2p(s:ByteArray)(c:Nat)(hc:c<=9223372036854775807)(a:s.size*c<=140737488355328):A0e (WC gl) 226 [S s,I c] M (λv M'=>v=S (C4f (Lib.repeatL s.data.toList c))/\M'=M):=by
 refine B1A λG w vs hi hr=>?_
 simp only[A0t]at hr
 obtain⟨y,_,rfl,hy,z,_,rfl,hz,rfl⟩:=hr
 simp only[Rep]at hy hz
 subst hy
 subst hz
 exact strings_Repeat s c w hc a
end
def C4I:∀d:Fin 9,C4f (Lib.repeatL [32,32] d.val)=B5r d.val:=by decide
def B6N:∀r:List ByteArray,A6M r=r.length+Lib.lens (r.map (·.data.toList))
 |[]=>rfl
 |a::r=>by rw[B2j,B6N r];simp only[Lib.lens,Z0z,List.sum_cons,Z0x];have:a.data.toList.length=a.size:=rfl;omega
def D4Z(b:List UInt8)(hs:b.length=1):∀l:List ByteArray,l≠[]->(Lib.join (l.map (·.data.toList)) b).length+1=A6M l
 |[],h=>absurd rfl h
 |a::r,_=>by rw[Z0z,Lib.join_cons,Z0t,Lib.joinTail_length,hs,B2j,B6N,Z0G];have:a.data.toList.length=a.size:=rfl;omega
def A0a.lims_noKids{u}(h:u.lims):(A6O u).lims:=by obtain⟨a,b,c,d,e,f⟩:=u;rw[A0a.lims]at h;rw[A6O,A0a.lims];exact⟨⟨h.1.1,h.1.2.1,by simp[A0a.kids],h.1.2.2.2⟩,by rw[A5v];trivial⟩
def B0L{u}(h:Fit u):Fit (A6O u):=by
 obtain⟨h1,h2,h3⟩:=h;refine⟨?_,A0a.lims_noKids h2,?_⟩
 .obtain⟨a,b,c,d,e,f⟩:=u;obtain⟨g1,g2,g3,g4,g5,g6,g7,g8,g9⟩:=(A0a.good_iff _).1 h1;exact(A0a.good_iff _).2 ⟨by simp[A6O,A0a.id,IdD.good,idZ,inI],g2,g3,g4,g5,g6,g7,by simp[A6O,A0a.kids],by simp[A6O,A0a.kids]⟩
 .obtain⟨a,b,c,d,e,f⟩:=u;rw[A6O,A0r,A0A];omega
def B6X{u}(h:A3A u):A3A (A6O u):=by obtain⟨a,b,c,d,e,f⟩:=u;obtain⟨h0,h1,h2,h3⟩:=(A7i _).1 h;exact(A7i _).2 ⟨rfl,h1,h2,by simp[A6O,A0a.kids]⟩
def hMy:A2u:=⟨λd=>d !=2,λ_=>false,λ_=>false⟩
@[simp] def E5x:hMy.imm=λd=>d !=2:=(rfl)
section
variable (gl:Nat->AV)
def E0m(l:gl 0=A2z)(c:gl 1=A2K)(u:A0a)(d:Nat)(M:Mem)(hf:Fit u)(hb:A3A u)(ha:A6b u=true)(hd:d<=8):A0e (WC gl) 225 [.agg u.row,I d] M (λv M'=>v=B true/\M'=M):=by
 have hS:=λM=>B9B gl (A6O u) A0G M (.inr ⟨by cases u;rfl,rfl⟩) (B0L hf).1 (B0L hf).2.1 (B0L hf).2.2 (B6X hb)
 have hV:=λM=>B5g gl l c (A6O u) M (B0L hf)
 rw[B4h (B6X hb),D1s ha]at hV
 refine A0e.dataX ?_
 refine A0n hMy func225 ?_
 have k:A6R (A6O u) A0G=[I 0,I 0,I 0,I u.kind,S u.label,.list 4 (A0g u.head) .no,.list 4 (A0g u.words) .no,A0G]:=by cases u;rfl
 rw[k]at hS
 have m:u.id=idZ:=((A7i u).1 hb).1
 have h1:(0:Int)<=d:=by omega
 have h2:(d:Int)<=8:=by omega
 obtain⟨b,hb⟩:=ex (M.length)
 have h:u.row=[I 0,I 0,I 0,I u.kind,S u.label,.list 4 (A0g u.head) .no,.list 4 (A0g u.words) .no,.list 8 (A0p u.kids) .no]:=by rw[u.row_eq,m];rfl
 obtain⟨M1,f⟩:=ex (M++[A0m.cells 27 u.row])
 have c:Grow M M1:=by rw[f];exact A0c.app none _ _
 have hX:M1[b]?=some (A0m.cells 27 u.row):=by rw[f,hb];simp
 have i:b<M1.length:=(Z0a.1 hX).1
 obtain⟨M2,a⟩:=ex (M1.set b (.cells 27 [I 0,I 0,I 0,I u.kind,S u.label,.list 4 (A0g u.head) .no,.list 4 (A0g u.words) .no,A0G]))
 have e:M2[b]?=some (.cells 27 [I 0,I 0,I 0,I u.kind,S u.label,.list 4 (A0g u.head) .no,.list 4 (A0g u.words) .no,A0G]):=by rw[a];simp[i]
 have n:Grow M M2:=⟨by rw[a];simpa using c.1,λj hj _=>by rw[a,Z0c (by omega)];exact c.2 j hj (by simp)⟩
 rw[h]at hX
 have g:M1.set b (.cells 27 [I 0,I 0,I 0,I u.kind,S u.label,.list 4 (A0g u.head) .no,.list 4 (A0g u.words) .no,.list 8 (A0p u.kids) .no])=M1:=List.set_eq_of_getElem? hX
 simp -dsimp[A0k]
 rw[<-f,<-hb]
 simp -dsimp[D0v,A0f hX,g]
 rw[<-a]
 simp -dsimp[h1,h2,A0b e]
 refine A0h func180 (hS M2) ?_
 simp -dsimp[h1,h2,A0b e]
 refine A0h func109 (hV _) ?_
 simp -dsimp[h1,h2,A0b e]
 exact⟨n,.same trivial .nil⟩
def D9X(s:ByteArray)(ws:List A0Q)(M:Mem)(hs:s.size<=1000000)(hl:ws.length<=1000000)(hw:∀w∈ws,1<=w.text.size/\w.text.size<=24):A0e (WC gl) 227 [S s,.list 4 (A0g ws) .no] M (λv M'=>v=S (B1M s ws)/\M'=M):=by
 refine A0e.dataX ?_
 refine A0n hB func227 ?_
 simp -dsimp
 refine A0B hB ws.length 9 (λT M1=>∃i:Nat,i<=ws.length/\T 0=S (B1M s (ws.take i))/\T 7=.list 4 (A0g ws) .no/\T 8=I ws.length/\T 9=I i/\Grow M M1) ?_ ?_
 .refine⟨0,by omega,by simp[B1M],by simp,by simp,by simp,A0c.refl _ _⟩
 rintro T M1 ⟨i,i1,t0,t7,t8,t9,hg⟩
 by_cases hi:i<ws.length
 case neg=>
  have a:¬(i:Int)<ws.length:=by omega
  rw[Z0g (by omega)]at t0;simp -dsimp[t0,t7,t8,t9,a,hg];exact .same trivial .nil
 have a:(i:Int)<ws.length:=by omega
 have w1:=A1H (i:=i) (by omega)
 have h1:=hw _ (Z0o hi)
 have hp:B1M s (ws.take (i+1))=B1M s (ws.take i)++⟨#[32]⟩++B7C ws[i].text:=by rw[Z0A hi,B1M,Z3c];rfl
 obtain⟨p,e⟩:=ex (B1M s (ws.take i))
 obtain⟨h1,h2⟩:=h1
 have f:p.size<=27000000:=by have:=B0d (ws.take i) s λw h=>(hw w (Z1k h)).2;rw[<-e]at this;simp at this;omega
 have d:(⟨#[32]⟩:ByteArray).size=1:=rfl
 have c:(⟨#[92]⟩:ByteArray).size=1:=rfl
 have b1:¬(9223372036854775807:Int)<p.size+1:=by omega
 have b2:¬(9223372036854775807:Int)<p.size+1+1:=by omega
 have b3:¬(9223372036854775807:Int)<p.size+1+ws[i].text.size:=by omega
 have b4:¬(9223372036854775807:Int)<p.size+1+1+ws[i].text.size:=by omega
 have b5:0<ws[i].text.size:=h1
 obtain⟨t,ht⟩:=ex (ws[i].text)
 rw[<-e]at t0 hp
 have b:Grow M (M1++[A0m.cells 152 ws[i].row]):=hg.trans (A0c.app none _ _)
 have hX:(M1++[A0m.cells 152 [S ws[i].text,I ws[i].act,I ws[i].item,I ws[i].at_]])[M1.length]?=some (.cells 152 [S ws[i].text,I ws[i].act,I ws[i].item,I ws[i].at_]):=by simp
 have b:Grow M (M1++[A0m.cells 152 [S ws[i].text,I ws[i].act,I ws[i].item,I ws[i].at_]]):=b
 by_cases c1:A0P ws[i].text 0=124
 .have he:B7C ws[i].text=⟨#[92]⟩++ws[i].text:=by rw[B7C,Z0e (.inl c1)]
  rw[he]at hp;simp -dsimp[t0,t7,t8,t9,a,hi,A0k,A0i,A0d,AV.storable,AV.cells,A0Q.row,d,c,Z0J,b1,b2,b3,b4,b5,c1,w1,A0b hX];refine⟨⟨i+1,by clear w1;omega,?_,rfl,b⟩,by clear w1;omega⟩;rw[hp];simp only[C5u]
 by_cases c2:A0P ws[i].text 0=92
 .have he:B7C ws[i].text=⟨#[92]⟩++ws[i].text:=by rw[B7C,Z0e (.inr c2)]
  rw[he]at hp;simp -dsimp[t0,t7,t8,t9,a,hi,A0k,A0i,A0d,AV.storable,AV.cells,A0Q.row,d,c,Z0J,b1,b2,b3,b4,b5,c1,c2,w1,A0b hX];refine⟨⟨i+1,by clear w1;omega,?_,rfl,b⟩,by clear w1;omega⟩;rw[hp];simp only[C5u]
 have he:B7C ws[i].text=ws[i].text:=by rw[B7C,Z0d (by simp[c1,c2])]
 rw[he]at hp
 simp -dsimp[t0,t7,t8,t9,a,hi,A0k,A0i,A0d,AV.storable,AV.cells,A0Q.row,d,c,Z0J,b1,b2,b3,b4,b5,c1,c2,w1,A0b hX]
 exact⟨⟨i+1,by clear w1;omega,by rw[hp],rfl,b⟩,by clear w1;omega⟩
def A7B{l}(h:A5V l=true):l.length<=256/\∀w∈l,1<=w.text.size/\w.text.size<=24:=by simp only[A5V,Z0f,Z0k,Z0p]at h;refine⟨h.1,λw hw=>?_⟩;have:=h.2 w hw;simp only[A4J,Z0f,Z0k]at this;exact this.1
def A8V{u}(h:A6b u=true):(0<=u.kind/\u.kind<=7)/\A5V u.head=true/\A5V u.words=true:=by unfold A6b at h;simp only[Z0f,Z0k]at h;exact⟨h.1.1.1.1,h.1.1.2,h.1.2⟩
def C6m{k}(h:0<=k/\k<=7):A4K k=A9T.getD k.toNat ⟨#[]⟩:=by
 have key:∀n:Fin 8,A9D.getD n.val .empty=A9T.getD n.val ⟨#[]⟩:=by decide
 have:=key ⟨k.toNat,by omega⟩;rw[A4K,Z0e (by omega),this]
def D7x(t:gl 0=A2z)(l:gl 1=A2K)(u:A0a)(d:Nat)(M:Mem)(hf:Fit u)(hb:A3A u)(ha:A6b u=true)(hd:d<=8):A0e (WC gl) 182 [.agg u.row,I d] M (λv M'=>v=S (A6S u d)/\M'=M):=by
 obtain⟨hk,hh,hw⟩:=A8V ha
 obtain⟨r,k⟩:=A7B hh
 obtain⟨o,j⟩:=A7B hw
 have x:=((A3R u hf.2.1).1).2.2.2
 have c:(⟨#[32]⟩:ByteArray).size=1:=rfl
 have a:(⟨#[58]⟩:ByteArray).size=1:=rfl
 have e3:(⟨#[32,124]⟩:ByteArray).size=2:=rfl
 have f:=λM=>D2p gl M ⟨#[32,32]⟩ d (by omega) (by show 2*d<=_;omega)
 have hdr:C4f (Lib.repeatL (⟨#[32,32]⟩:ByteArray).data.toList d)=B5r d:=C4I ⟨d,by omega⟩
 rw[hdr]at f
 have z:=B3N d
 have hn:=C6m hk
 have key:∀n:Fin 8,(A9T.getD n.val ⟨#[]⟩).size<=9:=by decide
 have m:=key ⟨u.kind.toNat,by omega⟩
 have g:B3m u d=B5r d++A9T.getD u.kind.toNat ⟨#[]⟩:=rfl
 simp only at m
 rw[<-hn]at g m
 have b1:¬(9223372036854775807:Int)<(B5r d).size+(A4K u.kind).size:=by omega
 have a0:(B3m u d).size<=2*d+9:=by rw[g,Z0J];omega
 have a1:(A8R u d).size<=2*d+1010:=by
  unfold A8R;split
  .omega
  .rw[Z0J,Z0J,c];omega
 have y:(A7u u d).size<=2*d+7700:=by
  unfold A7u;split
  .omega
  .have:=B0d u.head (A8R u d++⟨#[58]⟩) (λw h=>(k w h).2);rw[Z0J,a]at this;omega
 have b2:¬(9223372036854775807:Int)<1+u.label.size:=by omega
 have b3:¬(9223372036854775807:Int)<(B3m u d).size+(1+u.label.size):=by omega
 have b4:¬(9223372036854775807:Int)<(A8R u d).size+1:=by omega
 have b5:¬(9223372036854775807:Int)<(A7u u d).size+2:=by omega
 refine A0n hB func182 ?_
 simp -dsimp[u.row_eq]
 refine A0h func225 (u.row_eq▸E0m gl t l u d M hf hb ha hd) ?_
 simp -dsimp
 refine A0Z hB (A0u gl) (λ_=>0) (λ_=>0) (by rfl) (by kernel_rfl) ?_
 simp -dsimp
 refine A1p func226 f ?_
 simp -dsimp
 refine A1p func207 (λM=>(B1P gl M l _)) ?_
 have q1:B5r d++A4K u.kind=B3m u d:=g.symm
 have b:∀ws:List A0Q,ws.length<=256->(∀w∈ws,1<=w.text.size/\w.text.size<=24)->∀s,s.size<=1000000->∀M,A0e (WC gl) 227 [S s,.list 4 (A0g ws) .no] M (λv M'=>v=S (B1M s ws)/\M'=M):=λws h1 h2 s h3 M=>D9X gl s ws M h3 (by omega) h2
 by_cases k0:u.kind=0
 .have e:=ha;unfold A6b at e;simp only[k0,Z0T,Z0f,Z0k]at e;have z1:u.head.length=0:=e.2.1.2;have z2:u.words.length=0:=e.2.2;have q:A6S u d=B3m u d:=by rw[A6S,Z0e z2,A7u,Z0e z1,A8R,Z0e k0]
  rw[k0]at b1 q1|-;simp -dsimp[b1,k0,q1,z1,z2,q]
 have q2:B3m u d++(⟨#[32]⟩++u.label)=A8R u d:=by rw[A8R,Z0d k0]
 by_cases z1:u.head.length=0
 .have q3:A8R u d=A7u u d:=by rw[A7u,Z0e z1]
  by_cases z2:u.words.length=0
  ·(have q4:A7u u d=A6S u d:=by rw[A6S,Z0e z2]);simp -dsimp[b1,k0,q1,q2,z1,z2,c,a,e3,Z0J,b2,b3,q3,q4]
  ·(have i:0<u.words.length:=by omega);have q4:A6S u d=B1M (A7u u d++⟨#[32,124]⟩) u.words:=by rw[A6S,Z0d z2]
   simp -dsimp[b1,k0,q1,q2,z1,i,c,a,e3,Z0J,b2,b3,b5,q3];refine A0q func227 (b u.words o j _ (by rw[Z0J,e3];omega) M) ?_;rintro _ M ⟨rfl,rfl⟩;simp -dsimp[q4]
 have p:0<u.head.length:=by omega
 have q3:A7u u d=B1M (A8R u d++⟨#[58]⟩) u.head:=by rw[A7u,Z0d z1]
 simp -dsimp[b1,k0,q1,q2,p,c,a,e3,Z0J,b2,b3,b4]
 refine A0q func227 (b u.head r k _ (by rw[Z0J,a];omega) M) ?_
 rintro _ M ⟨rfl,rfl⟩
 rw[<-q3]
 by_cases z2:u.words.length=0
 .have q4:A7u u d=A6S u d:=by rw[A6S,Z0e z2]
  simp -dsimp[z2,q4]
 .have i:0<u.words.length:=by omega
  have q4:A6S u d=B1M (A7u u d++⟨#[32,124]⟩) u.words:=by rw[A6S,Z0d z2]
  simp -dsimp[i,e3,b5];refine A0q func227 (b u.words o j _ (by rw[Z0J,e3];omega) M) ?_;rintro _ M ⟨rfl,rfl⟩;simp -dsimp[q4]
end
section
structure B6W (n:Nat) (M0 M:Mem) (xs:List ByteArray):Prop where
 low:A1c n M0 M
 len:n+2<=M.length
 fn:M[n+1]?=some (.cells 100 [.func (.func 181) [] [.ptr n 0,.ptr (n+1) 0]])
 arr:∃v,M[n]?=some (.cells 37 [v])/\A1g 9 1 A4M M v xs/\A1m (n+2) v
def B6W.app{n}{M0 M}{xs}(h:B6W n M0 M xs)(X:Mem):B6W n M0 (M++X) xs:=by
 obtain⟨h1,h2,h3,v,h4,h5,h6⟩:=h;have hl:∀j Y,M[j]?=some Y->(M++X)[j]?=some Y:=λj Y h=>by rw[Z0i (Z0a.1 h).1];exact h
 refine⟨⟨by simp;have:=h1.1;omega,λj hj=>?_⟩,by simp;omega,hl _ _ h3,v,hl _ _ h4,h5.keep (A0c.app none M X) (by simp),h6⟩;rw[Z0i (by omega)];exact h1.2 j hj
mutual
def B4Q:∀(d:Nat) (u:A0a),(A6e d u).length=A0r u
 |d,.mk _ _ _ _ _ ks=>by rw[A6e,A0r,Z0x,B1a (d+1) ks];omega
def B1a:∀(d:Nat) (ks:List A0a),(A6k d ks).length=A0A ks
 |d,[]=>by rw[A6k,A0A];rfl
 |d,k::ks=>by rw[A6k,A0A,Z0t,B4Q d k,B1a d ks]
end
def C7Y{d:Nat}{ks:List A0a}{i:Nat}(h:i<ks.length):A6k d (ks.take (i+1))=A6k d (ks.take i)++A6e d ks[i]:=by
 induction ks generalizing i with
 |nil=>simp at h
 |cons k ks ih=>
  cases i with
  |zero=>simp[A6k]
  |succ i=>simp only[Z0B,A6k,Z2d];rw[ih (by simpa using h),Z0F]
def A7r{u}(h:A3u u=true):A6b u=true:=by obtain⟨a,b,c,d,e,f⟩:=u;rw[A3u,Z0f]at h;exact h.1
def B9C{p}:∀{ks b:List A0a},A6F p ks b=true->∀k∈ks,A3u k=true
 |[],_,_,k,hk=>by simp at hk
 |a::ks,b,h,k,hk=>by
  rw[A6F]at h;simp only[Z0f]at h;rcases Z0s.1 hk with rfl|hk
  .exact h.1.1.2
  .exact B9C h.2 k hk
def B5P{u}(h:A3u u=true):∀k∈u.kids,A3u k=true:=by obtain⟨a,b,c,d,e,f⟩:=u;rw[A3u,Z0f]at h;exact B9C h.2
def C0D:∀{ks:List A0a},∀k∈ks,1+A2i k<=A3H ks
 |[],k,hk=>by simp at hk
 |a::ks,k,hk=>by
  rw[A3H];rcases Z0s.1 hk with rfl|hk
  .omega
  .have:=C0D k hk;omega
def D2N{u}:∀k∈u.kids,1+A2i k<=A2i u:=by obtain⟨a,b,c,d,e,f⟩:=u;intro k hk;rw[A2i];exact C0D k hk
def D7X{u}(h:Fit u):∀k∈u.kids,Fit k:=by obtain⟨h1,h2,h3⟩:=h;intro k hk;have:=A4v hk;rw[A5o]at h3;exact⟨((A0a.good_iff _).1 h1).2.2.2.2.2.2.2.2 k hk,A3Y.1 (A3R u h2).2 k hk,by omega⟩
def D3R{u}(h:A3A u):∀k∈u.kids,A3A k:=((A7i u).1 h).2.2.2
def B7b{ks}{i}(h:i<ks.length):A0A (ks.take i)+A0r ks[i]<=A0A ks:=by
 induction ks generalizing i with
 |nil=>simp at h
 |cons k ks ih=>
  cases i with
  |zero=>simp[A0A]
  |succ i=>have:=ih (i:=i) (by simpa using h);simp only[Z0B,A0A,Z2d];omega
@[simp] def E5G:A2w prog 100=some false:=by kernel_rfl
@[simp] def E8H:A1u prog 100=some 1:=by kernel_rfl
@[simp] def E4I:A0H prog 100=some [.nilFunc]:=by kernel_rfl
def hLn:A2u:=⟨λ_=>true,λ_=>false,λd=>d==13⟩
@[simp] def E6p:hLn.imm=λ_=>true:=(rfl)
@[simp] def E7o:hLn.own=λ_=>false:=(rfl)
@[simp] def E7a:hLn.vec=λd=>d==13:=(rfl)
section
variable (gl:Nat->AV)
set_option maxHeartbeats 1000000 in
def C2l(a5:gl 0=A2z)(a3:gl 1=A2K):∀(N:Nat) (U:A0a) (d n:Nat) (M0 M:Mem) (xs:List ByteArray),A0r U<=N->Fit U->A3A U->A3u U=true->d+A2i U<=8->B6W n M0 M xs->xs.length+A0r U<=1000->
 A0e (WC gl) 181 [.agg U.row,I d,.ptr n 0,.ptr (n+1) 0] M (λv M'=>B6W n M0 M' (xs++A6e d U))
 |0,U,d,n,M0,M,xs,hN,hf,hb,hr,hdep,ho,hc=>by have:=A6c U;omega
 |N+1,U,d,n,M0,M,xs,hN,hf,hb,hr,hdep,ho,hc=>by
  obtain⟨ks,g⟩:∃ks,U.kids=ks:=⟨_,rfl⟩;have ha:=A7r hr;have b:=λM=>D7x gl a5 a3 U d M hf hb ha (by omega);refine A0n hLn func181 ?_;obtain⟨v0,c,a1,l⟩:=ho.arr;have a8:n<M.length:=(Z0a.1 c).1;rw[U.row_eq]at b;simp -dsimp[U.row_eq];refine B4A hLn (A0u gl) (λk=>if k=0 then 1 else if k=5\/k=6 then 2 else 0) (λ_=>n) (λ_ k=>k==6) (λk=>if k=6 then[]else[n]) (by intro i k _ h;have:k≠6:=(by simpa using h);simp[this]) (by rfl) (by kernel_rfl) ?_;simp -dsimp[A0b c,A0F,A2Y];refine A1p func182 b ?_;simp -dsimp[A0l,A0M,AV.storable,AV.cells];have a9:=A5o U;rw[g]at a9;refine A3B (C:=WC gl) (enc:=A4M) (e:=9) (sz:=1) (news:=[A6S U d]) A7g A9M B6h (λ_=>rfl) a1 (by simp[A0D]) (by simp;omega) rfl ?_;intro v1 M2 p1 p2 p3 _;have s:M2[n]?=some (.cells 37 [v0]):=p2.get c (λe=>by have:=l n e;omega);have a6:M2[n+1]?=some (.cells 100 [.func (.func 181) [] [.ptr n 0,.ptr (n+1) 0]]):=p2.get ho.fn (λe=>by have:=l _ e;omega);have t:n<M2.length:=(Z0a.1 s).1;have y:A1m (n+2) v1:=λf hf=>by
   rcases p3 with e|e
   .exact l f (e▸hf)
   .have:=e f hf;have:=ho.len;omega
  have a2:n+2<=M2.length:=Z0R ho.len p2.1;have u:B6W n M0 (M2.set n (.cells 37 [v1])) (xs++[A6S U d]):=by
   refine⟨⟨by have:=ho.low.1;have:=p2.1;simp;omega,λj hj=>?_⟩,by simpa using a2,?_,v1,?_,?_,y⟩
   .rw[Z0c (by omega),p2.2 j (by omega) (λe=>by have:=l _ e;omega)];exact ho.low.2 j hj
   .rw[Z0c (by omega)];exact a6
   .simp[t]
   .exact p1.keep ⟨by simp,λj hj h=>by rw[Z0c];rintro rfl;exact h rfl⟩ (o:=some n) (λf hf e=>by simp at e;have:=y f hf;omega)
  have w:A0i (some 1) M2 (.ptr n 0) v1=some (M2.set n (.cells 37 [v1])):=by rw[A0f s,p1.cells,Z0e ⟨p1.store,by simp,rfl⟩];rfl
  obtain⟨M3,a0⟩:=ex (M2.set n (.cells 37 [v1]));rw[<-a0]at u w;have a4:M2[n]?=M[n]?:=by rw[s,c]
  simp -dsimp[w,a4];clear w a0 a2 y t a6 s p1 p2 p3 a4 c a1 l a8 b;refine A0B hLn ks.length 17 (λT M5=>∃i:Nat,i<=ks.length/\T 1=I d/\T 2=.ptr n 0/\T 3=.ptr (n+1) 0/\T 15=.list 8 (A0p ks) .no/\T 16=I ks.length/\T 17=I i/\B6W n M0 M5 (xs++[A6S U d]++A6k (d+1) (ks.take i))) ?_ ?_
  .exact⟨0,by omega,by simp,by simp,by simp,by simp[g],by simp[g],by simp,by simpa[A6k]using u⟩
  clear u;rintro T M5 ⟨i,i1,t1,t2,t3,r,p,q,h5⟩;by_cases hi:i<ks.length;case neg=>
   (have x:¬(i:Int)<ks.length:=by omega);rw[Z0g (by omega)]at h5
   (have hL:A6e d U=A6S U d::A6k (d+1) ks:=by rw[<-g];cases U;rw[A6e];rfl);simp -dsimp[t1,t2,t3,r,p,q,x]
   rw[hL];simpa using h5
  have x:(i:Int)<ks.length:=by omega
  have w1:=A1H (i:=i) (by have:=A1Z ks;have:=hf.2.2;omega);have w2:=A1H (i:=d) (by omega);have a7:ks[i]∈ks:=Z0o hi;have a:ks[i]∈U.kids:=by rw[g];exact a7
  have ab:=D2N _ a;have ac:A0A (ks.take i)+A0r ks[i]<=A0A ks:=B7b hi;have h6:=h5.app [A0m.cells 27 ks[i].row];have m:=C2l a5 a3 N ks[i] (d+1) n M0 _ _ (by omega) (D7X hf _ a) (D3R hb _ a) (B5P hr _ a) (by omega) h6 (by simp[B1a];omega);obtain⟨M6,z⟩:=ex (M5++[A0m.cells 27 ks[i].row]);have aa:M6[M5.length]?=some (A0m.cells 27 ks[i].row):=by rw[z];simp
  rw[<-z]at m h6;simp -dsimp[t1,t2,t3,r,p,q,hi,x,A0k,A0i,A0d,AV.storable,AV.cells];rw[<-z];simp -dsimp[t1,t2,t3,r,p,q,A0b aa,A0b h6.fn,w2];refine A0q func181 m ?_;intro _ M7 h7;simp -dsimp[t1,t2,t3,r,p,q,w1];refine⟨⟨i+1,by clear w1;omega,rfl,?_⟩,by clear w1;omega⟩;rw[C7Y hi];simpa using h7
def C5C{n}{M}{v}{l}(h:A1g 9 1 A4M M v l)(hl:A1m n v){cs ds}(hr:Still M n (bdd n) cs ds):Still M n (bdd n) (v::cs) (.list 1 (A0W l) .no::ds):=Still.append (a:=[v]) (b:=[.list 1 (A0W l) .no]) (A2V (λ_=>rfl) B5v h hl) hr
def D4D(b:gl 0=A2z)(d:gl 1=A2K)(u:A0a)(M:Mem)(hf:Fit u)(hb:A3A u):A0e (WC gl) 126 [.agg u.row] M (λv M'=>v=(if B1v u=true then .list 1 (A0W (A6e 0 u)) .no else A0G)/\M'=M):=by
 have hS:=λM=>B9B gl u (.list 8 (A0p u.kids) .no) M (.inl rfl) hf.1 hf.2.1 hf.2.2 hb
 have hV:=λM=>B5g gl b d u M hf
 rw[B4h hb]at hV
 rw[show A6R u (.list 8 (A0p u.kids) .no)=u.row from u.row_eq.symm]at hS
 refine A0e.dataX ?_
 refine A0n hLn func126 ?_
 cases hfm:B1v u
 .rw[hfm]at hV;rw[u.row_eq]at hS hV|-;simp -dsimp;refine A0h func180 (hS M) ?_;simp -dsimp;refine A0h func109 (hV M) ?_;simp -dsimp;exact⟨Grow.refl _,.same (by simp[bdd]) .nil⟩
 rw[hfm]at hV
 have c:=hfm
 simp only[B1v,Z0f,Z0k]at c
 have ho:B6W M.length M (M++[.cells 37 [A0G],.cells 100 [.func (.func 181) [] [.ptr M.length 0,.ptr (M.length+1) 0]]]) []:=by refine⟨⟨by simp,λj hj=>by rw[Z0i hj]⟩,by simp,by simp[Z0W],A0G,by simp,.nil,λf hf=>by simp at hf⟩
 have a:=C2l gl b d _ u 0 M.length M _ [] (Z0n _) hf hb c.1.1 (by omega) ho (by have:=hf.2.2;simp;omega)
 have hX:=ho.fn
 have e:A0i (some 1) (M++[.cells 37 [A0G],.cells 100 [.val .nilFunc]]) (.ptr (M.length+1) 0) (.func (.func 181) [] [.ptr M.length 0,.ptr (M.length+1) 0])=some (M++[.cells 37 [A0G],.cells 100 [.func (.func 181) [] [.ptr M.length 0,.ptr (M.length+1) 0]]]):=by rw[A0f (bt:=100) (cs:=[.val .nilFunc]) (by simp[Z0W])];simp[List.set_append,A0d,AV.storable,AV.cells]
 rw[u.row_eq]at hS hV a|-
 simp -dsimp
 refine A0h func180 (hS M) ?_
 simp -dsimp
 refine A0h func109 (hV M) ?_
 simp -dsimp[A0k,e,A0b hX]
 refine A0q func181 a ?_
 rintro _ M2 ⟨h1,h2,h3,v,h4,h5,h6⟩
 simp -dsimp[A0b h4]
 refine⟨h1.grow (Grow.refl _) (Z0n _),?_⟩
 exact C5C h5 (λf hf=>by have:=h6 f hf;omega) .nil
end
end
section
def D2b(u:A0a)(d:Nat)(ha:A6b u=true)(g:u.label.size<=1000):(A6S u d).size<=2*d+15000:=by
 obtain⟨hk,hh,hw⟩:=A8V ha;obtain⟨o,f⟩:=A7B hh;obtain⟨m,c⟩:=A7B hw;have e:(⟨#[32]⟩:ByteArray).size=1:=rfl;have b:(⟨#[58]⟩:ByteArray).size=1:=rfl;have e3:(⟨#[32,124]⟩:ByteArray).size=2:=rfl;have k:=B3N d;have key:∀n:Fin 8,(A9T.getD n.val ⟨#[]⟩).size<=9:=by decide
 have a:=key ⟨u.kind.toNat,by omega⟩;simp only at a;have i:(B3m u d).size<=2*d+9:=by rw[B3m,Z0J];omega
 have l:(A8R u d).size<=2*d+1010:=by
  unfold A8R;split
  .omega
  .rw[Z0J,Z0J,e];omega
 have j:(A7u u d).size<=2*d+7700:=by
  unfold A7u;split
  .omega
  .have:=B0d u.head (A8R u d++⟨#[58]⟩) (λw h=>(f w h).2);rw[Z0J,b]at this;omega
 unfold A6S;split
 .omega
 .have:=B0d u.words (A7u u d++⟨#[32,124]⟩) (λw h=>(c w h).2);rw[Z0J,e3]at this;omega
mutual
def B6Q:∀(u:A0a) (d:Nat),A3u u=true->u.lims->d+A2i u<=8->A6M (A6e d u)<=A0r u*15020
 |.mk a b c e f ks,d,hr,hl,hd=>by have h1:=D2b _ d (A7r hr) (A3R _ hl).1.2.2.2;rw[A0a.lims]at hl;rw[A3u,Z0f]at hr;rw[A2i]at hd;have h2:=B6F ks (d+1) b [] hr.2 hl.2 (λh=>by omega);rw[A6e,B2j,A0r];omega
def B6F:∀(ks:List A0a) (d:Nat) (p:Int) (bf:List A0a),A6F p ks bf=true->A5v ks->(ks≠[]->d+A3H ks<=9)->A6M (A6k d ks)<=A0A ks*15020
 |[],d,p,bf,_,_,_=>by rw[A6k,A0A];simp
 |k::ks,d,p,bf,hr,hl,hd=>by rw[A6F]at hr;simp only[Z0f]at hr;rw[A5v]at hl;have hd:=hd (by simp);rw[A3H]at hd;have h1:=B6Q k d hr.1.1.2 hl.1 (by omega);have h2:=B6F ks d p _ hr.2 hl.2 (λ_=>by omega);rw[A6k,C8T,A0A];omega
end
def D3r(d:Nat)(u:A0a):A6e d u≠[]:=by cases u;rw[A6e];simp
section
variable (gl:Nat->AV)
def C1y(f:gl 0=A2z)(e:gl 1=A2K)(u:A0a)(M:Mem)(hf:Fit u)(hb:A3A u):A0e (WC gl) 72 [.agg u.row] M (λv M'=>(∃t,v=.tuple [S t,I (B0Y u)])/\M'=M):=by
 refine A0n hB func72 ?_
 have hL:=D4D gl f e u M hf hb
 cases hfm:B1v u
 .rw[hfm,Z0d (by simp)]at hL;have hE:B0Y u=1:=by simp[B0Y,hfm]
  rw[u.row_eq]at hL|-;simp -dsimp;refine A0h func126 hL ?_;simp -dsimp[hE]
 rw[hfm,Z0e rfl]at hL
 have c:=hfm
 simp only[B1v,Z0f,Z0k]at c
 obtain⟨L,j⟩:=ex (A6e 0 u)
 have k:=B6Q u 0 c.1.1 hf.2.1 (by omega)
 have a:=D3r 0 u
 have i:=B4Q 0 u
 have hE:B0Y u=if 16384<A6M (A6e 0 u)then 6 else 0:=by simp[B0Y,hfm]
 rw[<-j]at hL k a i hE
 have l:=hf.2.2
 have h:=D4Z [10] rfl L a
 have g:0<L.length:=by rcases L with _|_<;>simp at a|-
 have b:¬(L.length:Int)=0:=by omega
 have m:(C1i L ⟨#[10]⟩).size+1=A6M L:=h
 have hj:=λM=>D8q gl M L .no ⟨#[10]⟩ (by omega) (by show(Lib.join _ [10]).length<=_;omega)
 rw[u.row_eq]at hL|-
 simp -dsimp
 refine A0h func126 hL ?_
 simp -dsimp[B6o,b,g,a]
 refine A0h func127 (hj M) ?_
 have d:(⟨#[10]⟩:ByteArray).size=1:=rfl
 have b1:¬(9223372036854775807:Int)<(C1i L ⟨#[10]⟩).size+1:=by omega
 by_cases hbig:16384<A6M L
 .have h2:(16384:Int)<(C1i L ⟨#[10]⟩).size+1:=by omega
  rw[Z0e hbig]at hE;simp -dsimp[d,b1,Z0J,h2,hE]
 .have h2:¬(16384:Int)<(C1i L ⟨#[10]⟩).size+1:=by omega
  rw[Z0d hbig]at hE;simp -dsimp[d,b1,Z0J,h2,hE]
end
end
open Go.Proofs TryTypes
section
variable (gl:Nat->AV)
end
section
variable (gl:Nat->AV) (M:Mem)
end
section
variable (gl:Nat->AV)
end
section
variable (gl:Nat->AV)
end
section
variable (gl:Nat->AV)
end
section
variable (gl:Nat->AV)
end
section
def B2q{E:Nat->Int}:∀(r i:Nat),B0F E r i=0->∀j,i<=j->j<i+r->E j=0
 |0,i,_,j,h1,h2=>by omega
 |r+1,i,h,j,h1,h2=>by
  rw[B0F]at h;by_cases c:E i=0
  .rw[Z0e c]at h;rcases Z3G i j with h3|h3
   .exact B2q r (i+1) h j h3 (by omega)
   .rw[show j=i by omega];exact c
  .rw[Z0d c]at h;exact absurd h c
mutual
def C3S(P:A0a->Prop)(hk:∀u,P u->∀k∈u.kids,P k):∀u:A0a,P u->∀v∈A2R u,P v
 |.mk a b c d e ks,h,v,hv=>by
  rw[A2R]at hv;rcases Z0s.1 hv with rfl|hv
  .exact h
  .exact C5S P hk ks (λk hm=>hk _ h k hm) v hv
def C5S(P:A0a->Prop)(hk:∀u,P u->∀k∈u.kids,P k):∀ks:List A0a,(∀k∈ks,P k)->∀v∈A4s ks,P v
 |[],_,v,hv=>by rw[A4s]at hv;simp at hv
 |k::ks,h,v,hv=>by
  rw[A4s]at hv;rcases Z0S.1 hv with hv|hv
  .exact C3S P hk k (h k (by simp)) v hv
  .exact C5S P hk ks (λq hq=>h q (by simp[hq])) v hv
end
def A6j{u v}{x}(h:A0E x u=some v):v.id=x/\v∈A2R u:=by rw[B0a]at h;refine⟨?_,Z2A h⟩;have:=Z4h h;simpa using this
structure A6C (u:A0a) (l:List A0J):Prop where
 ord:∀j,j<l.length->B1u l j
 fd:∀n (h:n<l.length),∃x,A0E l[n].id u=some x/\x.good/\x.words.length<=300/\x.head.length<=300
 lab:∀n (h:n<l.length),l[n].label.size<=7
 nd:(l.map A0J.id).Nodup
 nu:(A0R u).Nodup
 mem:∀x∈l,x.id∈(A0R u).tail
 len:l.length=(A0R u).tail.length
def C5p{u}{l}(hf:Fit u)(h:A7q (λx=>A0E x u) u l=0):A6C u l:=by
 unfold A7q at h;split at h
 .simp at h
 rename_i hb;simp only[Z2E,Z3Y]at hb;split at h;case isFalse m=>exact absurd h m
 rename_i hfe;split at h;case isFalse=>simp at h
 rename_i hlen;have he:=λn (hn:n<l.length)=>B2q _ _ hfe n (Z3a _) (by omega);simp only[B1Z,D5U,Z0f,Z0k]at hb;obtain⟨⟨s,⟨⟨hr,t⟩,hc⟩,r⟩,g⟩:=hb;have q:(A0R u).Nodup:=by have:=A9g (A0R u) [] List.nodup_nil g;simpa using this
 have key:∀n (h:n<l.length),(∃x,A0E l[n].id u=some x)/\l[n].id≠u.id/\(∀j (hj:j<n),(l[j]'(by omega)).id≠l[n].id)/\A0O l[n].label=true:=by
  intro n hn;have h:=he n hn;simp only[B6e,Z0l hn]at h;split at h
  .simp at h
  rename_i h1;split at h
  .simp at h
  rename_i h2;split at h
  .simp at h
  split at h
  .simp at h
  rename_i h4;simp only[Z1I,Z2E,Z0k,Z2N,Z3Y]at h1;refine⟨Z2W.1 h1.1,h1.2,λj hj e=>?_,by simpa using h4⟩;refine h2 (Z2U.2 ⟨l[j]'(by omega),?_,by simpa using e⟩);exact List.mem_take_iff_getElem.2 ⟨j,by omega,rfl⟩
 have o:=A5t u;refine⟨C7P he,λn hn=>?_,λn hn=>B7p (key n hn).2.2.2,?_,q,λy hy=>?_,?_⟩
 .obtain⟨x,hx⟩:=(key n hn).1;obtain⟨h1,h2⟩:=A6j hx;have h3:=C3S (λv=>v.good/\A3u v=true) (λv hv k hm=>⟨((A0a.good_iff _).1 hv.1).2.2.2.2.2.2.2.2 k hm,B5P hv.2 k hm⟩) u ⟨hf.1,hr⟩ x h2;obtain⟨_,hh,hw⟩:=A8V (A7r h3.2);exact⟨x,hx,h3.1,by have:=(A7B hw).1;omega,by have:=(A7B hh).1;omega⟩
 .rw[List.Nodup,Z3o];intro i j hi hj p;simp only[Z1R];exact(key j (by simpa using hj)).2.2.1 i p
 .obtain⟨n,hn,rfl⟩:=Z2r hy;obtain⟨⟨x,hx⟩,m,_⟩:=key n hn;obtain⟨h1,h2⟩:=A6j hx;have h3:l[n].id∈A0R u:=by rw[<-A5k,<-h1];exact Z0C.2 ⟨x,h2,rfl⟩
  obtain⟨a,b,c,d,e,f⟩:=u;rw[A0R]at h3|-;rcases Z0s.1 h3 with h3|h3
  .exact absurd h3 m
  .exact h3
 .rw[List.length_tail,o];omega
section
variable {F:IdD->Option A0a} {l:List A0J} {s:List A1v}
def C7F{x}(hl:l.length<=1000)(f:∀s∈l,s.good)(ht:∀m∈s,m.to.length<=40)(hx:x.good)(b:x.words.length<=300):(A6h F l s x).1.length<=100000000/\∀t∈(A6h F l s x).1,t.size<=maxLen:=by
 have c:(A0z x.words).length<=300:=by simpa[A0z]using b
 have a:∀t∈A0z x.words,t.size<=maxLen:=by intro t h;obtain⟨w,hw,rfl⟩:=Z0C.1 h;exact(((A0a.good_iff _).1 hx).2.2.2.2.2.2.1 w hw).1
 unfold A6h;simp only;generalize A0z x.words=xs at*;have e:(A2d xs 0).length<=xs.length:=A7C xs _ _;have d:=B1R (A2d xs 0) (λn:Nat=>A1K F l s x.id n) (λi=>A9l ht) (A2d xs 0).length;obtain⟨s1,s2⟩:=A8u (old:=A7I (A2d xs 0) (λn:Nat=>A1K F l s x.id n) (A2d xs 0).length) (names:=A9t (λn:Nat=>A1K F l s x.id n) (A2d xs 0).length) (B:=maxLen) (by simp[maxLen]) a;have:(A7I (A2d xs 0) (λn:Nat=>A1K F l s x.id n) (A2d xs 0).length).length*(xs.length+19)<=12000*400:=Z4t (by omega) (by omega);exact⟨by omega,s1⟩
def B4n{t}(h:t.size<=maxLen):(A5b t).good:=by refine⟨h,?_⟩;simp[A5b,inI]
def B2S(a:∀j,j<l.length->B1u l j){n k:Nat}(hk:k∈A3M l n l.length):n<k/\k<l.length:=by
 simp only[A3M,Z1p,Z1o,Z0k]at hk;have:=(a k hk.1 k hk.1 (Z0n _)).2;have h2:A2l l k=l[k].parent:=by simp[A2l,hk.1]
 rw[<-h2,hk.2]at this;omega
def B8H{g:Nat->A0a×List IdD×Int}:∀K:List Nat,(∀k∈K,A0r (g k).1=(g k).2.1.length)->A0A ((K.map g).map (·.1))=((K.map g).flatMap (·.2.1)).length
 |[],_=>by rw[Z2b,Z2b,A0A];rfl
 |k::K,h=>by have h1:=B8H K λq hq=>h q (by simp[hq]);have h2:=h k (by simp);simp only[Z0z,A0A,Z0Y,Z0t,h1,h2]
def A9e(a:∀j,j<l.length->B1u l j):∀f n,n<l.length->l.length<=f+n->A0r (A2x F l s f n).1=(A2x F l s f n).2.1.length
 |0,n,h1,h2=>by omega
 |f+1,n,h1,h2=>by
  have:=B8H (g:=A2x F l s f) (A3M l n l.length) λk hk=>by obtain⟨h3,h4⟩:=B2S a hk;exact A9e a f k h4 (by omega)
  rw[A2x];simp only;rw[A0r,this,Z0x];omega
def B8F(hl:l.length<=1000)(e:∀s∈l,s.good)(ht:∀m∈s,m.to.length<=40)(a:∀j,j<l.length->B1u l j)(c:∀n (h:n<l.length),l[n].label.size<=7)
 (g:∀n (h:n<l.length),∃x,F l[n].id=some x/\x.good/\x.words.length<=300/\x.head.length<=300):∀f n,n<l.length->l.length<=f+n->(A2x F l s f n).1.good/\(A2x F l s f n).1.lims
 |0,n,h1,h2=>by omega
 |f+1,n,h1,h2=>by
  obtain⟨x,hx,d,i,q⟩:=g n h1;have o:A2s F l n=x:=by simp[A2s,h1,hx]
  have p:A5J l n=l[n].label:=by simp[A5J,h1]
  have r:=c n h1;have hb:=B1F l n l.length;obtain⟨w1,w2⟩:=C7F (F:=F) (l:=l) (s:=s) hl e ht d i;obtain⟨_,gk,_,_,gh,_,_,_,_⟩:=(A0a.good_iff _).1 d;have b:∀k∈((A3M l n l.length).map (A2x F l s f)).map (·.1),k.good/\k.lims:=by intro k hk;rw[Z1K]at hk;obtain⟨y,hy,rfl⟩:=Z0C.1 hk;obtain⟨h3,h4⟩:=B2S a hy;exact B8F hl e ht a c g f y h4 (by omega)
  rw[A2x];simp only;rw[o,p];have hm:∀n:Nat,n<=100000000->n<=maxLen:=λn h=>by show n<=9223372036854775807;omega
  refine⟨(A0a.good_iff _).2 ⟨by simp[A0a.id,IdD.good,idZ,inI],gk,hm _ (by show l[n].label.size<=_;omega),hm _ (by show(x.head.map _).length<=_;rw[Z0G];omega),?_,hm _ (by simpa[A0a.words]using w1),?_,hm _ (by simp[A0a.kids];omega),λk hk=>(b k hk).1⟩,?_⟩
  .intro w hw;obtain⟨h,hh,rfl⟩:=Z0C.1 hw;exact B4n (gh h hh).1
  .intro w hw;obtain⟨t,ht,rfl⟩:=Z0C.1 hw;exact B4n (w2 t ht)
  .rw[A0a.lims];refine⟨⟨by show(x.head.map _).length<=_;rw[Z0G];omega,by simpa[A0a.words]using w1,by simp[A0a.kids];omega,by show l[n].label.size<=_;omega⟩,A3Y.2 λk hk=>(b k hk).2⟩
def B5J{u}(hS:A6C u l)(hl:l.length<=1000)(a:∀s∈l,s.good)(ht:∀m∈s,m.to.length<=40){f n}(h1:n<l.length)(h2:l.length<=f+n):Fit (A2x (λy=>A0E y u) l s f n).1:=by obtain⟨g1,g2⟩:=B8F (F:=λy=>A0E y u) (s:=s) hl a ht hS.ord hS.lab hS.fd f n h1 h2;refine⟨g1,g2,?_⟩;rw[A9e hS.ord f n h1 h2];have:=B6c (F:=λy=>A0E y u) (s:=s) hS.ord f n h1 h2;omega
end
end
inductive A1Q where
 |rep (p:List A0w)
 |ins (u:A0a)
abbrev eS:AV:=S ⟨#[]⟩
def A1Q.row:A1Q->List AV
 |.rep p=>[I 1,A5y p,A0G,I 0,I 0,I 0,I 0,I 0,I 0,eS,A0G,A0G,A0G,A0G,A0G,eS,eS,I 0,I 0,eS,I 0,I 0,I 0,eS,A0G]
 |.ins u=>[I 0,A0G,A0G,I 1,I 0,I u.id.act,I u.id.item,I u.id.n,I u.kind,S u.label,.list 4 (A0g u.head) .no,.list 4 (A0g u.words) .no,.list 8 (A0p u.kids) .no,A0G,A0G,eS,eS,I 0,I 0,eS,I 0,I 0,I 0,eS,A0G]
@[simp] def A1Q.row_len(x:A1Q):x.row.length=25:=by cases x<;>rfl
def A9G:ByteArray:=⟨#[99,111,100,105,102,105,99,97,116,105,111,110]⟩
def B0I:AV:=.agg [I 0,eS,I 0,I 0,I 0,eS,A0G]
def C7v(number day:Int)(items:List A1Q):AV:=.agg [I number,S A9G,I day,I 1,I day,eS,.list 25 (items.map A1Q.row) .no]
def A2Z(x:IdD×IdD):List AV:=[I x.1.act,I x.1.item,I x.1.n,I x.2.act,I x.2.item,I x.2.n]
abbrev A5R:=A0a×List IdD×Int
def C4H(t:A5R):Int:=if B0Y t.1=0 then t.2.2 else 6
def A7M(ts:List A5R)(e:Int):Int:=ts.foldl (λe t=>A8J e (C4H t)) e
def A2H(u:A0a):List A1Q:=u.kids.map λk=>.rep ((B4B u k.id).getD [])
def A3w(ts:List A5R):List A1Q:=ts.map λt=>.ins t.1
def A7a(number:Int)(u:A0a)(ts:List A5R):List (IdD×IdD):=A5h number (ts.map (·.2.1)) u.kids.length
def A3D(number:Int)(u:A0a)(ts:List A5R):List (IdD×IdD):=(A0R u).tail.flatMap λx=>(A7a number u ts).filter λy=>decide (y.1=x)
def C3r(number day:Int):Bool:=decide (number<1)||decide (1048576<number)||decide (day<0)||decide (1048576<day)
def C3F(u:A0a)(ts:List A5R):Int:=if 32<u.kids.length+ts.length then 6 else A7M ts 0
def A5P(e:Int):AV:=.tuple [B0I,A0G,I e]
def D8K(u:A0a)(l:List A0J)(s:List A1v)(number day:Int):AV:=
 let F:=λx=>A0E x u
 let ts:=A1O F l s
 if A7q F u l≠0 then A5P (A7q F u l)
 else if C3r number day=true then A5P 1
 else if((A0R u).tail.any λx=>decide (x.act=number))=true then A5P 5
 else if C3F u ts≠0 then A5P (C3F u ts)
 else .tuple [C7v number day (A2H u++A3w ts),.list 6 ((A3D number u ts).map A2Z) .no,I 0]
def C1c(c:Int):∀(a b:List (List IdD)) (j:Nat),A5h c (a++b) j=A5h c a j++A5h c b (j+a.length)
 |[],b,j=>by simp[A5h]
 |x::a,b,j=>by rw[Z0V,A5h,A5h,C1c c a b (j+1),Z0F,Z0x];congr 3;omega
def B1U{K V:Type}[DecidableEq K]:∀(W:List (K×V)),(W.map (·.1)).Nodup->∀y∈W,A1N W y.1=some y.2
 |[],_,y,hy=>by simp at hy
 |(k,v)::W,hn,y,hy=>by
  simp only[Z0z,Z1q]at hn;rw[A1N];rcases Z0s.1 hy with rfl|hy
  .simp
  .have:y.1≠k:=λe=>hn.1 (e▸Z0C.2 ⟨y,hy,rfl⟩);rw[Z0d this];exact B1U W hn.2 y hy
section
variable {u:A0a} {l:List A0J} {s:List A1v}
def B3X(a:Int)(ts:List A5R):(A7a a u ts).map (·.1)=ts.flatMap (·.2.1):=by rw[A7a,B3x,Z3C];rfl
def B2Q(hS:A6C u l):((A1O (λy=>A0E y u) l s).flatMap (·.2.1)).Nodup/\∀x,x∈(A1O (λy=>A0E y u) l s).flatMap (·.2.1)<->x∈(A0R u).tail:=by
 refine D1J (λj hj=>?_) (λk hk=>?_) hS.nd hS.nu hS.mem hS.len
 .have:=hS.ord j hj j hj (Z0n _);simpa[A2l,hj]using this
 .obtain⟨x,hx,_⟩:=hS.fd k hk;have:A2s (λy=>A0E y u) l k=x:=by simp[A2s,hk,hx]
  rw[this];exact(A6j hx).1
def C0n(hS:A6C u l)(a:Int):A3D a u (A1O (λy=>A0E y u) l s)=(A0R u).tail.map λx=>(x,(A1N (A7a a u (A1O (λy=>A0E y u) l s)) x).getD idZ):=by
 obtain⟨h1,h2⟩:=B2Q (s:=s) hS;have hk:=B3X (u:=u) a (A1O (λy=>A0E y u) l s);refine D2T (by rw[hk];exact h1) (λy hy=>?_) (λx hx=>?_)
 .rw[B1U _ (by rw[hk];exact h1) y hy];rfl
 .rw[hk];exact(h2 x).2 hx
def C5k(hS:A6C u l)(hl:l.length<=1000):∀t∈A1O (λy=>A0E y u) l s,t.2.1.length<=1000:=by intro t ht;obtain⟨n,hn,rfl⟩:=Z0C.1 ht;have:=B6c (F:=λy=>A0E y u) (s:=s) hS.ord l.length n (A7o hn) (by omega);omega
end
section
variable (gl:Nat->AV) (M:Mem)
def B6K(k:Int):A0e (WC gl) 132 [I k] M (λv M'=>v=B (decide (0<=k)&&decide (k<=6))/\M'=M):=by
 refine A0n hB func132 ?_;by_cases h1:0<=k
 .by_cases h2:k<=6
  .simp -dsimp[h1,h2]
  .simp -dsimp[h1,h2]
 .simp -dsimp[h1]
def C0V(k:Int):A0e (WC gl) 351 [I k] M (λv M'=>v=B (decide (0<=k)&&decide (k<=3))/\M'=M):=by
 refine A0n hB func351 ?_;by_cases h1:0<=k
 .by_cases h2:k<=3
  .simp -dsimp[h1,h2]
  .simp -dsimp[h1,h2]
 .simp -dsimp[h1]
def C4A(k a b:Int):A0e (WC gl) 320 [I k,I a,I b] M (λv M'=>v=B (decide (a<=k)&&decide (k<=b))/\M'=M):=by
 refine A0n hB func320 ?_;by_cases h1:a<=k
 .by_cases h2:k<=b
  .simp -dsimp[h1,h2]
  .simp -dsimp[h1,h2]
 .simp -dsimp[h1]
def C7i(k:Int):A0e (WC gl) 302 [I k] M (λv M'=>v=B (decide (0<=k)&&decide (k<=3))/\M'=M):=by refine A0n hB func302 ?_;simp -dsimp;refine A0h func320 (C4A gl M k 0 3) ?_;simp -dsimp
def D3W(k:Int):A0e (WC gl) 403 [I k] M (λv M'=>v=I k/\M'=M):=by refine A0n hB func403 ?_;simp -dsimp
def C3g:A0e (WC gl) 242 [.agg [I 0,I 0,eS]] M (λv M'=>v=B true/\M'=M):=by refine A0n hB func242 ?_;simp -dsimp
def D2g(x:A1Q):A0e (WC gl) 305 [.agg x.row] M (λv M'=>v=B true/\M'=M):=by refine A0n hB func305 ?_;simp -dsimp
end
def B0H:List AV:=[I 0,A0G,A0G,I 0,I 0,I 0,I 0,I 0,I 0,eS,A0G,A0G,A0G,A0G,A0G,eS,eS,I 0,I 0,eS,I 0,I 0,I 0,eS,A0G]
@[simp] def D9Z:B0H.length=25:=(rfl)
def D3L(u:A0a):List AV:=[I 0,A0G,A0G,I 1,I 0,I u.id.act,I u.id.item,I u.id.n,I u.kind,S u.label,.list 4 (A0g u.head) .no,.list 4 (A0g u.words) .no,.list 8 (A0p u.kids) .no,A0G,A0G,eS,eS,I 0,I 0,eS,I 0,I 0,I 0,eS,A0G]
@[simp] def E3z(u:A0a):(D3L u).length=25:=(rfl)
def C8R:A0x prog 128 []=some (.agg B0H):=by simp[A0x,A1b,B0H]
section
variable (gl:Nat->AV) (M:Mem)
def D2K(x:A1Q):A0e (WC gl) 304 [.agg x.row] M (λv M'=>v=.agg B0H/\M'=M):=by
 refine A0e.dataX ?_;obtain⟨Ma,a⟩:=ex (M++[A0m.cells 128 B0H]);have d:Grow M Ma:=by rw[a];exact A0c.app none _ _
 have b:Ma[M.length]?=some (A0m.cells 128 B0H):=by rw[a];simp
 have c:M.length<Ma.length:=(Z0a.1 b).1;refine A0n hB func304 ?_;simp -dsimp[A0k,C8R];rw[show M++[A0m.cells 128 [I 0,A0G,A0G,I 0,I 0,I 0,I 0,I 0,I 0,eS,A0G,A0G,A0G,A0G,A0G,eS,eS,I 0,I 0,eS,I 0,I 0,I 0,eS,A0G]]=Ma by rw[a];rfl];simp -dsimp[A0f b,A0y,A0v,A0s c,A0j];exact⟨A0V d (Z0n _),.same (by simp[bdd,A1I,B0H]) .nil⟩
def D1D(u:A0a):A0e (WC gl) 300 [.agg (A1Q.ins u).row] M (λv M'=>v=.agg (D3L u)/\M'=M):=by
 refine A0e.dataX ?_;obtain⟨Ma,a⟩:=ex (M++[A0m.cells 128 B0H]);have e:Grow M Ma:=by rw[a];exact A0c.app none _ _
 have b:Ma[M.length]?=some (A0m.cells 128 B0H):=by rw[a];simp
 have c:M.length<Ma.length:=(Z0a.1 b).1;have d:A0x prog 128 [(3,I 1),(5,.agg [I u.id.act,I u.id.item,I u.id.n,I u.kind,S u.label,.list 4 (A0g u.head) .no,.list 4 (A0g u.words) .no,.list 8 (A0p u.kids) .no])]=some (.agg (D3L u)):=by simp[A0x,A1b,A1o,A0d,AV.cells,AV.storable,D3L]
 refine A0n hB func300 ?_;simp -dsimp[A1Q.row,A0k,d];rw[show M++[A0m.cells 128 [I 0,A0G,A0G,I 0,I 0,I 0,I 0,I 0,I 0,eS,A0G,A0G,A0G,A0G,A0G,eS,eS,I 0,I 0,eS,I 0,I 0,I 0,eS,A0G]]=Ma by rw[a];rfl];simp -dsimp[A0f b,A0y,A0v,A0s c,A0j];have hb:=A3d M.length u;rw[u.row_eq]at hb;exact⟨A0V e (Z0n _),.same (by simp[bdd,A1I,D3L]at hb|-;exact hb) .nil⟩
end
def D7y:A1B prog .neq 150 (.agg [I 0,I 0,I 0]) (.agg [I 0,I 0,I 0])=some (B false):=by kernel_rfl
def E4V:A1B prog .eql 23 (.agg [I 0,I 0,I 0]) (.agg [I 0,I 0,I 0])=some (B true):=by kernel_rfl
section
variable (gl:Nat->AV) (M:Mem)
def C3m(w:A0Q)(h:B1C w):A0e (WC gl) 390 [.agg w.row] M (λv M'=>v=B false/\M'=M):=by rw[C2e h];refine A0n hB func390 ?_;simp -dsimp -implicitDefEqProofs[C5U,D7y]
def D2q(l:List A0Q)(o:Own)(hl:l.length<=100000000)(hb:∀w∈l,B1C w):A0e (WC gl) 408 [.list 4 (A0g l) o,.func (.func 390) [] []] M (λv M'=>v=I (-1)/\M'=M):=by
 refine A0n hB func408 ?_;simp -dsimp -implicitDefEqProofs;refine A0B hB l.length 8 (λT M1=>∃i:Nat,i<=l.length/\M1=M/\T 0=.list 4 (A0g l) o/\T 1=.func (.func 390) [] []/\T 7=I l.length/\T 8=I i) ?_ ?_
 .exact⟨0,by omega,rfl,by simp,by simp,by simp,by simp⟩
 .rintro T M1 ⟨i,i1,rfl,t0,t1,t7,t8⟩;by_cases hi:i<l.length
  ·(have a:(i:Int)<l.length:=by omega);have w1:IntKind.i64.wrap ((i:Int)+1)=(i+1:Nat):=by rw[A0L (by omega) (by omega)];omega
   simp -dsimp -implicitDefEqProofs[t0,t1,t7,t8,hi,a,A0Q.row];refine A0h func390 (C3m gl _ l[i] (hb _ (Z0o hi))) ?_;simp -dsimp -implicitDefEqProofs[t0,t1,t7,t8,w1];exact⟨⟨i+1,by clear w1;omega,rfl⟩,by clear w1;omega⟩
  ·(have a:¬(i:Int)<l.length:=by omega);simp -dsimp -implicitDefEqProofs[t0,t1,t7,t8,a]
def C2k(l:List A0Q)(o:Own)(hl:l.length<=100000000)(hb:∀w∈l,B1C w):A0e (WC gl) 391 [.list 4 (A0g l) o,.func (.func 390) [] []] M (λv M'=>v=B false/\M'=M):=by refine A0n hB func391 ?_;simp -dsimp -implicitDefEqProofs;refine A0h func408 (D2q gl M l o hl hb) ?_;simp -dsimp -implicitDefEqProofs
def D0p(u:A0a)(h:A3A u)(hl:u.lims):A0e (WC gl) 389 [.agg u.row] M (λv M'=>v=B true/\M'=M):=by obtain⟨h0,h1,h2,_⟩:=(A7i u).1 h;obtain⟨⟨l1,l2,-,-⟩,-⟩:=A3R _ hl;rw[u.row_eq,h0];refine A0n hB func389 ?_;simp -dsimp -implicitDefEqProofs[idZ,E4V];refine A0h func391 (C2k gl M u.head .no l1 h1) ?_;simp -dsimp -implicitDefEqProofs;refine A0h func391 (C2k gl M u.words .no l2 h2) ?_;simp -dsimp -implicitDefEqProofs
end
def C5i{M:Mem}{n f g m:Nat}{ok:AV->Prop}{e g':Nat}{cs:List AV}{a:List (Nat×Nat)}{l:List A0a}(hf:n<=f)(hm:M[f]?=some (.vec e 8 cs g' a))(hl:a.lookup g=some m)(h:l.length<=m)(b:cs.take (l.length*8)=l.flatMap A0a.row) (d:∀x:A0a,∀c∈x.row,ok c):Still M n ok [.vref f g 8 0 l.length] [.list 8 (A0p l) .no]:=by
 refine .vec hf hm hl h (B2U l) (λr hr=>?_) ?_ .nil
 .rw[A3t]at hr;obtain⟨x,_,rfl⟩:=Z0C.1 hr;exact x.row_len
 .rw[b,B0E];exact Still.refl λc hc=>by obtain⟨x,_,hx⟩:=Z1S.1 hc;exact d x c hx
def D2x(a b:List AV):(A0d a 0 b).take b.length=b:=by unfold A0d;simp
def C8s(a c:List AV)(n:Nat)(h:n<=a.length):(A0d a n c).take n=a.take n:=by unfold A0d;rw[Z0F,Z1T (by simp;omega),Z2v,Nat.min_self]
section
variable (gl:Nat->AV)
set_option maxHeartbeats 1000000 in
def D1y(k:A0a)(ks:List A0a)(f g g':Nat)(a:List (Nat×Nat))(M:Mem)(y:ks.length<=1000)(hm:M[f]?=some (.vec 27 8 ((k::ks).flatMap A0a.row) g' a))(hl:a.lookup g=some (ks.length+1)):∃cs hist',cs.take (ks.length*8)=ks.flatMap A0a.row/\hist'.lookup g=some (ks.length+1)/\A0e (WC gl) 360 [.vref f g 8 0 (ks.length+1),I 0,I 1] M (λr M'=>r=.vref f g 8 0 ks.length/\M'=M.set f (.vec 27 8 cs g' hist')):=by
 obtain⟨n,hn⟩:=ex (ks.length)
 obtain⟨N,hN⟩:=ex (n+1)
 rw[<-hn]at y hl|-
 rw[<-hN]at hl|-
 have u:f<M.length:=(Z0a.1 hm).1
 have s:(ks.flatMap A0a.row).length=n*8:=by rw[A3m A0a.row_len,hn]
 have b:((k::ks).flatMap A0a.row).length=N*8:=by rw[A3m A0a.row_len,hN,hn];rfl
 obtain⟨c0,l⟩:=ex ((k::ks).flatMap A0a.row)
 have x:c0.drop 8=ks.flatMap A0a.row:=by rw[l,Z0Y,Z3D,A0a.row_len,Z4C,Z1Q (by rw[A0a.row_len];omega)];rfl
 rw[<-l]at b hm
 have i:A2E prog 25 (.vref f g 8 0 N) (some (I 0)) (some (I 1)) (some (I N))=none:=by
  have:¬N=0:=by omega
  have h1:(1:Int)<=N:=by omega
  simp[A2E,A5w,A9Z,A1F,B1J,this,h1]
 have h:A4l prog 25 M (.vref f g 8 0 N) (some (I 0)) (some (I 1)) (some (I N))=some .poison:=by
  have h1:(1:Int)<=N:=by omega
  simp[A4l,hm,hl,A9Z,A1F,B1J,h1]
 have j:A2E prog 25 (.vref f g 8 0 N) none (some (I 0)) none=some (.vref f g 8 0 0):=by simp[A2E,A5w,A9Z,A1F,B1J]
 have m:A2E prog 25 (.vref f g 8 0 N) (some (I 1)) none none=some (.vref f g 8 1 n):=by
  have h1:(1:Int)<=N:=by omega
  have h2:N-1=n:=by omega
  simp[A2E,A5w,A9Z,A1F,B1J,h1,h2]
 have c:A0D M 8 (.vref f g 8 1 n)=some (ks.flatMap A0a.row,n):=by simp only[A0D,hm,hl];rw[Z0e ⟨trivial,trivial,by omega⟩,Nat.one_mul,x,Z0g (by omega)]
 have t:A0D M 8 (.vref f g 8 0 0)=some ([],0):=by simp only[A0D,hm,hl];rw[Z0e ⟨trivial,trivial,by omega⟩,Z2g];rfl
 have hb:(0+n)*120<=140737488355328:=by omega
 have a0:¬((0:Int)=1):=by omega
 /- behind the append -/
 have tail:∀(c1:List AV) (h1:List (Nat×Nat)) (M1:Mem),c1.length=N*8->c1.take (n*8)=ks.flatMap A0a.row->h1.lookup g=some N->M1[f]?=some (.vec 27 8 c1 g' h1)->
  ∃c2,c2.take (n*8)=ks.flatMap A0a.row/\(A0Y 8 g (n*8) h1).lookup g=some N/\A2E prog 25 (.vref f g 8 0 n) (some (I n)) (some (I N)) none=none/\A4l prog 25 M1 (.vref f g 8 0 n) (some (I n)) (some (I N)) none=some (.vref f g 8 n 1)/\B0x prog 25 M1 (.vref f g 8 n 1)=some (.tuple [],M1.set f (.vec 27 8 c2 g' (A0Y 8 g (n*8) h1))):=by
  intro c1 h1 M1 a1 w hh p
  refine⟨A0d c1 (n*8) zU,?_,?_,?_,?_,?_⟩
  .rw[C8s _ _ _ (by omega)];exact w
  .unfold A0Y;exact A2v _ hh
  ·(have:¬(N:Int)<=n:=by omega);simp[A2E,A5w,A9Z,A1F,B1J,this]
  ·(have h2:N-n=1:=by omega);have h3:(n:Int)<=N:=by omega
   simp[A4l,p,hh,A5w,A9Z,A1F,B1J,h2,h3]
  ·(have h2:n+1<=N:=by omega);simp[B0x,p,hh,h2,zU]
 refine(?_:∃cs hist',_)
 by_cases h0:ks=[]
 .have d:n=0:=by rw[hn,h0];rfl
  obtain⟨c2,k1,k2,k3,k4,k5⟩:=tail c0 a M b (by rw[d,h0];simp) hl hm;refine⟨c2,A0Y 8 g (n*8) a,k1,k2,?_⟩;refine A0n hB func360 ?_;simp -dsimp[i,h];refine A0Z hB (A0u gl) (λk=>if k=6 then 2 else 0) (λ_=>0) (by rfl) (by kernel_rfl) ?_;simp -dsimp[j,m];refine A5D (e:=27) (sz:=8) (bytes:=120) A7G B2i B1T t c hb ?_ ?_
  .simp only[A5H,c,hm,hl];rw[Z0d (by omega)]
  simp only[A6w,c,hm,hl];rw[Z0e ⟨trivial,trivial,trivial,by omega⟩,Z0e d];have e0:((0:Nat):Int)=0:=rfl;rw[d]at k3 k4 k5;rw[e0]at k3 k4;simp -dsimp[k3,k4,k5,d]
 .have z:0<n:=by rw[hn];exact Z2f.2 h0
  obtain⟨M1,e1⟩:=ex (M.set f (.vec 27 8 (A0d c0 0 (ks.flatMap A0a.row)) g' (A0Y 8 g 0 a)));have o:M1[f]?=some (.vec 27 8 (A0d c0 0 (ks.flatMap A0a.row)) g' (A0Y 8 g 0 a)):=by rw[e1];simp[u]
  obtain⟨c2,k1,k2,k3,k4,k5⟩:=tail (A0d c0 0 (ks.flatMap A0a.row)) (A0Y 8 g 0 a) M1 (by unfold A0d;simp[-List.length_flatMap,s,b];omega) (by rw[<-s];exact D2x _ _) (by unfold A0Y;exact A2v _ hl) o;have e2:∀X,M1.set f X=M.set f X:=λX=>by rw[e1,Z2J]
  rw[e2]at k5;refine⟨c2,_,k1,k2,?_⟩;refine A0n hB func360 ?_;simp -dsimp[i,h];refine A0Z hB (A0u gl) (λk=>if k=6 then 2 else 0) (λ_=>0) (by rfl) (by kernel_rfl) ?_;simp -dsimp[j,m];have q:A5H 27 8 (.vref f g 8 0 0) (.vref f g 8 1 n) M=some (.vref f g 8 0 n,M1):=by simp only[A5H,c,hm,hl];rw[Z0e ⟨trivial,trivial,trivial,z,by omega⟩,e1];simp
  refine E3O (e:=27) (sz:=8) (bytes:=120) A7G B2i B1T t c hb q ?_;clear e1 o q;simp -dsimp[k3,k4,k5]
def D1H(x:A0a)(ks:List A0a)(v:AV)(o:Own)(M:Mem)(j:ks.length<=1000)(ho:A1g 27 8 A0a.row M v ks):∃v' M',A1g 27 8 A0a.row M' v' (ks++[x])/\A0c (obj v) M M'/\(obj v'=obj v\/A1m M.length v')/\A0e (WC gl) 290 [v,I ks.length,.list 8 [x.row] o] M (λr M1=>r=v'/\M1=M'):=by
 have hx:A0D M 8 (.list 8 [x.row] o)=some (x.row,1):=by simp[A0D]
 rcases ho with⟨rfl,rfl⟩|⟨f,g,d,rfl,hm,hl⟩
 .refine⟨.vref M.length 0 8 0 1,M++[.vec 27 8 x.row 0 [(0,1)]],.inr ⟨M.length,0,[(0,1)],rfl,by simp,by simp[List.lookup]⟩,.app _ _ _,.inr (λf hf=>by simp at hf;omega),?_⟩;have hs:A2E prog 25 (.val (.slice none 0 0)) (some (I 0)) none none=some (.val (.slice none 0 0)):=by kernel_rfl
  refine A0n hV func290 ?_;simp -dsimp[hs];refine A5D (e:=27) (sz:=8) (bytes:=120) A7G B2i B1T (by rfl) hx (by omega) (by simp only[A5H,hx]) ?_;simp only[A6w,hx];simp -dsimp
 .obtain⟨n,hn⟩:=ex (ks.length);rw[<-hn]at j hl|-;have k:(ks.flatMap A0a.row).length=n*8:=by rw[A3m A0a.row_len,hn]
  have c:f<M.length:=(Z0a.1 hm).1;have hs:A2E prog 25 (.vref f g 8 0 n) (some (I n)) none none=some (.vref f g 8 n 0):=by simp[A2E,A5w,A9Z,A1F,B1J]
  have h:A0D M 8 (.vref f g 8 0 n)=some (ks.flatMap A0a.row,n):=by simp only[A0D,hm,hl];rw[Z0e ⟨trivial,trivial,by omega⟩,Z2g,Z1h,Z0g (by omega)]
  have i:(ks.flatMap A0a.row++x.row)=(ks++[x]).flatMap A0a.row:=by simp[Z1l]
  obtain⟨a,hh⟩:∃a,a=(g+1,n+1)::d.filter (λp:Nat×Nat=>decide (p.2<=n)):=⟨_,rfl⟩;obtain⟨M',b⟩:∃M',M'=M.set f (.vec 27 8 ((ks++[x]).flatMap A0a.row) (g+1) a):=⟨_,rfl⟩;refine⟨.vref f (g+1) 8 0 (n+1),M',.inr ⟨f,g+1,a,by rw[Z0t,<-hn];rfl,?_,?_⟩,by rw[b];exact .set _ f _,.inl rfl,?_⟩
  rotate_left 2
  .refine A0n hV func290 ?_;simp -dsimp[hs];refine A5D (e:=27) (sz:=8) (bytes:=120) A7G B2i B1T h hx (by omega) ?_ ?_
   .simp only[A5H,hx,hm,hl];rw[Z0d (by omega)]
   simp only[A6w,hx,hm,hl];rw[Z0e ⟨trivial,trivial,trivial,by omega⟩,Z0d (by omega),Z2g,Z1h,Z0g (by omega),i];simp -dsimp[b,hh]
  .rw[b];simp[c]
  .rw[hh];simp[List.lookup,hn]
end
def A8y(M:Mem)(n:Nat)(v:AV)(l:List A0a):Prop:=(v=.val (.slice none 0 0)/\l=[])\/∃f g m cs g' hist,n<=f/\v=.vref f g 8 0 l.length/\M[f]?=some (.vec 27 8 cs g' hist)/\hist.lookup g=some m/\l.length<=m/\cs.take (l.length*8)=l.flatMap A0a.row
def D1X(n:Nat)(x:A0a):∀c∈x.row,bdd n c:=by have h:=A3d n x;rw[x.row_eq]at h|-;simp only[A1I,Z1D]at h;obtain⟨h1,h2,h3,h4,h5,h6,h7,h8⟩:=h;intro c hc;simp only[Z0s,Z1x,Z2G]at hc;rcases hc with rfl|rfl|rfl|rfl|rfl|rfl|rfl|rfl<;>assumption
section
variable {M M':Mem} {n:Nat} {v:AV} {l:List A0a}
def A8y.still(h:A8y M n v l):Still M n (bdd n) [v] [.list 8 (A0p l) .no]:=by
 rcases h with⟨rfl,rfl⟩|⟨f,g,m,cs,g',a,h1,rfl,h2,h3,h4,h5⟩
 .rw[A0p];exact .nilS .nil
 .exact C5i h1 h2 h3 h4 h5 (D1X n)
def A8y.keep(h:A8y M n v l){o:Option Nat}(hk:A0c o M M')(ho:∀f,obj v=some f->o≠some f):A8y M' n v l:=by
 rcases h with⟨rfl,rfl⟩|⟨f,g,m,cs,g',a,h1,rfl,h2,h3,h4,h5⟩
 .exact .inl ⟨rfl,rfl⟩
 .exact .inr ⟨f,g,m,cs,g',a,h1,rfl,hk.get h2 (ho f rfl),h3,h4,h5⟩
def A8y.vec(h:A8y M n v l){f:Nat}(hf:obj v=some f):n<=f/\∃cs g' a,M[f]?=some (.vec 27 8 cs g' a):=by
 rcases h with⟨rfl,rfl⟩|⟨f',g,m,cs,g',a,h1,rfl,h2,h3,h4,h5⟩
 .simp at hf
 .simp at hf;subst hf;exact⟨h1,cs,g',a,h2⟩
def A8y.of(h:A1g 27 8 A0a.row M v l)(hl:A1m n v):A8y M n v l:=by
 rcases h with⟨rfl,rfl⟩|⟨f,g,a,rfl,hm,hh⟩
 .exact .inl ⟨rfl,rfl⟩
 .exact .inr ⟨f,g,l.length,_,g,a,hl f rfl,rfl,hm,hh,Z0n _,Z0g (by rw[A3m A0a.row_len];exact Z0n _)⟩
end
def A8h(u:A0a)(ks:List A0a):A0a:=.mk u.id u.kind u.label u.head u.words ks
def E1j(gl:Nat->AV)(u:A0a)(M:Mem)(g:FuncId)(cap:List AV)(ks:List A0a):Prop:=∀(b:Nat) (kv:AV) (Mi:Mem),M.length<=b->Grow M Mi->Mi[b]?=some (.cells 27 (A6R u kv))->A1g 27 8 A0a.row Mi kv u.kids->A1m M.length kv->obj kv≠some b->A4r (WC gl) g (.ptr b 0::cap) Mi (λ_ M'=>∃kv',M'[b]?=some (.cells 27 (A6R u kv'))/\A0c (obj kv) (Mi.set b .gone) (M'.set b .gone)/\A8y M' M.length kv' ks)
section
variable (gl:Nat->AV)
def E4A(u k:A0a)(ks:List A0a)(hk:u.kids=k::ks)(y:ks.length<=1000)(q:Nat)(M:Mem)(hq:M[q]?=some (.cells 3 [I 0])):E1j gl u M 359 [.ptr q 0] ks:=by
 intro b kv Mi hb hg l ho m p;have a2:q<M.length:=(Z0a.1 hq).1;have t:=hg.get hq (by simp);rw[hk]at ho;rcases ho with⟨_,h⟩|⟨f,g,n,rfl,hm,hl⟩
 .simp at h
 have a0:f≠b:=λe=>p (by simp[e]);have w:M.length<=f:=m f rfl;obtain⟨cs,a,k1,k2,d⟩:=D1y gl k ks f g g n Mi y hm hl;have z:b<Mi.length:=(Z0a.1 l).1;have s:f<Mi.length:=(Z0a.1 hm).1;refine A1a func359 rfl rfl ?_;obtain⟨M2,c⟩:=ex (Mi.set f (.vec 27 8 cs g a));rw[<-c]at d;have o:M2[b]?=some (.cells 27 (A6R u (.vref f g 8 0 (ks.length+1)))):=by rw[c,Z0c (by omega)];exact l
 have r:A0i (some 1) M2 (.ptr b 7) (.vref f g 8 0 ks.length)=some (M2.set b (.cells 27 (A6R u (.vref f g 8 0 ks.length)))):=by rw[A0f o];rfl
 have j:b<M2.length:=(Z0a.1 o).1;have x:A1y prog 25 Mi (.ptr b 7)=some (.vref f g 8 0 (ks.length+1)):=by rw[A0b l];simp[A6R]
 refine A0n hB func359 ?_;simp -dsimp;refine A0Z hB (A0u gl) (λk=>if k=4\/k=5\/k=6 then 1 else if k=8\/k=11 then 2 else 0) (λk=>if k=4 then b else q) (by rfl) (by kernel_rfl) ?_;simp -dsimp[x,A0b t,A0F,A2Y];rw[show IntKind.i64.wrap 1=1 by decide];refine A4S (A1a func360 rfl rfl d) ?_;simp -dsimp[r];refine⟨.vref f g 8 0 ks.length,by simp[j],⟨by simp[c],λi hi ho=>?_⟩,.inr ⟨f,g,_,cs,g,a,w,rfl,?_,k2,by omega,k1⟩⟩
 .have a1:i≠f:=λe=>ho (by simp[e]);by_cases hib:i=b
  .subst hib;simp at hi;simp[j,hi]
  ·(have e1:b≠i:=by omega);have e2:f≠i:=by omega
   simp only[Z0c e1,c,Z0c e2]
 .rw[Z0c (by omega),c];simp[s]
def E5j(u x:A0a)(y:u.kids.length<=1000)(q p:Nat)(M:Mem)(hq:M[q]?=some (.cells 3 [I u.kids.length]))(hp:M[p]?=some (.cells 27 x.row)):E1j gl u M 289 [.ptr q 0,.ptr p 0] (u.kids++[x]):=by
 intro b kv Mi hb hg d ho l m;have a5:q<M.length:=(Z0a.1 hq).1;have t:=hg.get hq (by simp);have n:=hg.get hp (by simp);have a0:b<Mi.length:=(Z0a.1 d).1;have a4:=ho.len (P:=prog) underlying25;obtain⟨a,M2,a1,a2,a3,g⟩:=D1H gl x u.kids kv .full Mi y ho;have j:A1m M.length a:=λf hf=>by
  rcases a3 with e|h
  .rw[e]at hf;exact l f hf
  .have:=h f hf;have:=hg.1;omega
 have r:M2[b]?=some (.cells 27 (A6R u kv)):=a2.get d m;have c:b<M2.length:=(Z0a.1 r).1;have o:∀f,obj a=some f->f≠b:=λf hf e=>by
  rcases a3 with h|h
  .rw[h]at hf;exact m (by rw[hf,e])
  .have:=h f hf;omega
 have s:A0i (some 1) M2 (.ptr b 7) a=some (M2.set b (.cells 27 (A6R u a))):=by rw[A0f r,a1.cells,Z0e ⟨a1.store,by simp[A6R],rfl⟩];rfl
 have w:A1y prog 25 Mi (.ptr b 7)=some kv:=by rw[A0b d];simp[A6R]
 have z:A1y prog 27 Mi (.ptr p 0)=some (.agg x.row):=by rw[x.row_eq]at n|-;rw[A0b n];simp
 refine A1a func289 rfl rfl ?_;refine A0n hB func289 ?_;simp -dsimp;refine A0Z hB (A0u gl) (λk=>if k=4\/k=5\/k=6 then 1 else if k=8\/k=11 then 2 else 0) (λk=>if k=4 then b else if k=5 then q else p) (by rfl) (by kernel_rfl) ?_;simp -dsimp[w,z,A0b t,A0F,A2Y,A0l,A0M,A0y,A0v];refine A4S (A1a func290 rfl rfl g) ?_;simp -dsimp[s];refine⟨a,by simp[c],⟨by simpa using a2.1,λi hi ho=>?_⟩,A8y.of (a1.keep (A0c.set _ _ _) (λf hf e=>o f hf (by simpa using e.symm))) j⟩;by_cases hib:i=b
 .subst hib;simp at hi;simp[c,hi]
 .have e1:b≠i:=by omega
  simp only[Z0c e1];exact a2.2 i (by simpa using hi) ho
def B9j(u:A0a)(g:FuncId)(cap:List AV)(ks:List A0a)(M:Mem)(hf:Fit u)(hd:E1j gl u M g cap ks):A0e (WC gl) 288 [.agg u.row,.agg u.id.row,.func (.func g) [] cap] M (λv M'=>v=.agg (A8h u ks).row/\M'=M):=by
 refine A0e.dataX ?_;have hx:u.id.row=[I u.id.act,I u.id.item,I u.id.n]:=rfl;have he:=B4S u.id u.id;rw[Z0w rfl]at he;have a1:=A1Z u.kids;have a3:A0A u.kids<A0r u:=by obtain⟨a,b,c,d,e,f⟩:=u;rw[A0r];show A0A f<_;omega
 have a2:=hf.2.2;obtain⟨b,hb⟩:=ex (M.length);obtain⟨M1,k⟩:=ex (M++[A0m.cells 27 [I u.id.act,I u.id.item,I u.id.n,I u.kind,S u.label,.list 4 (A0g u.head) .no,.list 4 (A0g u.words) .no,.list 8 (A0p u.kids) .no],z8]);have h1:M1[b]?=some (A0m.cells 27 [I u.id.act,I u.id.item,I u.id.n,I u.kind,S u.label,.list 4 (A0g u.head) .no,.list 4 (A0g u.words) .no,.list 8 (A0p u.kids) .no]):=by rw[k,hb];simp
 have h2:M1[b+1]?=some z8:=by rw[k,hb];simp[Z0W]
 have w:Grow M M1:=by rw[k];exact A0c.app none _ _
 rw[u.row_eq,hx];refine A0n hTr func288 ?_;simp -dsimp[A0k];rw[<-k,<-hb];simp -dsimp[A0b h1,he];refine A0q func52 (C8k gl u.kids M1 (by omega)) ?_;rintro kv M2 ⟨ho,l,h⟩;have h3:=l.get h1 (by simp);have h4:=l.get h2 (by simp);have a5:b+1<M1.length:=(Z0a.1 h2).1;have t:A0i (some 1) M2 (.ptr b 7) kv=some (M2.set b (.cells 27 (A6R u kv))):=by rw[A0f h3,ho.cells,Z0e ⟨ho.store,by simp,rfl⟩];rfl
 simp -dsimp[t];have s:b<M2.length:=(Z0a.1 h3).1;have j:Grow M (M2.set b (.cells 27 (A6R u kv))):=A0V (w.trans l) (by omega);refine A1W (hd b kv (M2.set b (.cells 27 (A6R u kv))) (by omega) j (by simp[s]) (ho.keep (A0c.set _ _ _) (λf hf e=>by have:=h f hf;simp at e;omega)) (λf hf=>by have:=h f hf;omega) (λe=>by have:=h b e;omega)) ?_;rintro _ M4 ⟨m,q1,q2,q3⟩;have a4:b<M4.length:=(Z0a.1 q1).1;have p:M4[b+1]?=some z8:=by have z:=l.1;have:=q2.2 (b+1) (by simp;omega) (λe=>by have:=h (b+1) e;omega);rw[Z0c (by omega),Z0c (by omega),Z0c (by omega)]at this;rw[this];exact h4
 have x:Grow M M4:=by refine⟨by have:=q2.1;have:=j.1;simp at this q2;omega,λi hi _=>?_⟩;have h5:=q2.2 i (by have:=j.1;simp at this|-;omega) (λe=>by have:=h i e;omega);rw[Z0c (by omega),Z0c (by omega)]at h5;rw[h5];exact j.2 i hi (by simp)
 have q:b+1<M4.length:=(Z0a.1 p).1;have y:A1y prog 27 M4 (.ptr b 0)=some (.agg (A6R u m)):=by rw[A0b q1];simp[A6R]
 have r:A0i (some 8) M4 (.ptr (b+1) 0) (.agg (A6R u m))=some (M4.set (b+1) (.cells 27 (A6R u m))):=by rw[A0f p];rfl
 simp -dsimp[y,r,A0s q,A0j,A6R];refine⟨A0V x (by omega),.agg ?_ .nil⟩;have o:=(q3.keep (A0c.set M4 (b+1) (.cells 27 (A6R u m))) (λf hf e=>by obtain⟨_,cs,g',a0,hv⟩:=q3.vec hf;simp only[Z0b]at e;subst e;rw[p]at hv;simp at hv)).still;rw[A8h,A0a.row];rw[A6R]at o;rw[<-hb]at o;exact .same trivial (.same trivial (.same trivial (.same trivial (.same trivial (.same (by simp only[bdd,Z1D];exact B2O _ _) (.same (by simp only[bdd,Z1D];exact B2O _ _) o))))))
end
def A1T(number:Int):List A5R->Nat->List A0a
 |[],_=>[]
 |t::ts,j=>A2p number j t.1 0 0::A1T number ts (j+1)
def A2o(u:A0a)(number:Int)(ts:List A5R):A0a:=.mk u.id u.kind u.label u.head u.words (A1T number ts u.kids.length)
def B6L(a:Int):∀ts j,(A1T a ts j).length=ts.length
 |[],_=>rfl
 |t::ts,j=>by rw[A1T,Z0x,B6L a ts,Z0x]
def B6P(c:Int):∀a b j,A1T c (a++b) j=A1T c a j++A1T c b (j+a.length)
 |[],b,j=>by simp[A1T]
 |t::a,b,j=>by rw[Z0V,A1T,B6P c a b (j+1),A1T,Z0V,Z0x,show j+1+a.length=j+(a.length+1)by omega]
def B5x(a i:Int)(n c:Nat):List IdD:=(List.range' n c).map λm=>⟨a,i,((m+1:Nat):Int)⟩
def C6N(a i:Int)(n c d:Nat):B5x a i n (c+d)=B5x a i n c++B5x a i (n+c) d:=by unfold B5x;rw[<-Z0U,<-List.range'_append_1]
def D4F(a i:Int)(n c:Nat):B5x a i n (1+c)=⟨a,i,((n+1:Nat):Int)⟩::B5x a i (n+1) c:=by rw[C6N];simp[B5x]
mutual
def A9I(a i:Int):∀(t:A0a) (n w:Nat),A0R (A2p a i t n w)=B5x a i n (A0r t)
 |.mk _ k l h ws ks,n,w=>by rw[A2p,A0R,C0q a i ks,A0r,D4F]
def C0q(a i:Int):∀(ks:List A0a) (n w:Nat),A3J (A2A a i ks n w)=B5x a i n (A0A ks)
 |[],n,w=>by rw[A2A,A3J,A0A];rfl
 |k::ks,n,w=>by rw[A2A,A3J,A0A,A9I a i k,C0q a i ks,C6N]
end
mutual
def A8P(a i:Int):∀(t:A0a) (n w:Nat),A0r (A2p a i t n w)=A0r t
 |.mk _ k l h ws ks,n,w=>by rw[A2p,A0r,B4Z a i ks,A0r]
def B4Z(a i:Int):∀(ks:List A0a) (n w:Nat),A0A (A2A a i ks n w)=A0A ks
 |[],n,w=>by rw[A2A]
 |k::ks,n,w=>by rw[A2A,A0A,A8P a i k,B4Z a i ks,A0A]
end
mutual
def B6T(a i:Int):∀(t:A0a) (n w:Nat),A2i (A2p a i t n w)=A2i t
 |.mk _ k l h ws ks,n,w=>by rw[A2p,A2i,B4w a i ks,A2i]
def B4w(a i:Int):∀(ks:List A0a) (n w:Nat),A3H (A2A a i ks n w)=A3H ks
 |[],n,w=>by rw[A2A]
 |k::ks,n,w=>by rw[A2A,A3H,B6T a i k,B4w a i ks,A3H]
end
def C8J(a i:Int)(n c:Nat):(B5x a i n c).Nodup:=by unfold B5x List.Nodup;rw[Z3Z];refine List.Pairwise.imp ?_ (List.nodup_range' (s:=n) (n:=c) (step:=1));intro x y h e;simp only[IdD.mk.injEq,Z2u]at e;omega
def B4z{a i:Int}{n c:Nat}{x:IdD}(h:x∈B5x a i n c):x.act=a/\x.item=i:=by unfold B5x at h;obtain⟨m,_,rfl⟩:=Z0C.1 h;exact⟨rfl,rfl⟩
def B1G(c:Int):∀ts j,(A3J (A1T c ts j)).Nodup/\∀x∈A3J (A1T c ts j),x.act=c/\(j:Int)<=x.item
 |[],j=>by rw[A1T,A3J];simp
 |t::ts,j=>by
  obtain⟨h1,h2⟩:=B1G c ts (j+1);rw[A1T,A3J,A9I];refine⟨Z1L.2 ⟨C8J _ _ _ _,h1,λa ha b hb e=>?_⟩,λx hx=>?_⟩
  .have:=(B4z ha).2;have:=(h2 b hb).2;rw[e]at*;omega
  .rcases Z0S.1 hx with hx|hx
   .have:=B4z hx;exact⟨this.1,by omega⟩
   .have:=h2 x hx;exact⟨this.1,by omega⟩
def A5O(a:Int):∀ts j,A0A (A1T a ts j)=A0A (ts.map (·.1))
 |[],j=>rfl
 |t::ts,j=>by rw[A1T,A0A,A8P,A5O a ts,Z0z,A0A]
def B2y{k v:A0a}(hv:v∈A2R k):∀{ks:List A0a},k∈ks->v∈A4s ks
 |b::bs,hk=>by
  rw[A4s];rcases Z0s.1 hk with rfl|hk
  .exact Z1P _ hv
  .exact Z2z _ (B2y hv hk)
def B8N{α β:Type}(R:α->β->Prop):List α->List β->Prop
 |[],[]=>True
 |a::l1,b::l2=>R a b/\B8N R l1 l2
 |_,_=>False
def B5T{α β:Type}{R:α->β->Prop}:∀{l1:List α} {l2:List β},B8N R l1 l2->∀a∈l1,∃b∈l2,R a b
 |[],[],_,a,h=>by simp at h
 |x::l1,y::l2,h,a,ha=>by
  rcases Z0s.1 ha with rfl|ha
  .exact⟨y,by simp,h.1⟩
  .obtain⟨b,hb,hr⟩:=B5T h.2 a ha;exact⟨b,by simp[hb],hr⟩
 |[],_::_,h,_,_=>h.elim
 |_::_,[],h,_,_=>h.elim
section
variable (F:IdD->Option A0a) (l:List A0J) (s:List A1v) (D:Nat->IdD)
structure B9l (n:Nat) (y:A0a):Prop where
 id:y.id=D n
 kind:y.kind=(A2s F l n).kind
 label:y.label=A5J l n
 head:A0z y.head=A0z (A2s F l n).head
 words:A0z y.words=(A6h F l s (A2s F l n)).1
def A9x:Nat->Nat->A0a->Prop
 |0,_,_=>False
 |f+1,n,y=>B9l F l s D n y/\B8N (A9x f) (A3M l n l.length) y.kids
end
section
variable {F:IdD->Option A0a} {l:List A0J} {s:List A1v} {D:Nat->IdD}
def E1b(l:List A0Q):A0z (l.map λh=>A5b h.text)=A0z l:=by simp[A0z,A5b]
def D8h(l:List ByteArray):A0z (l.map A5b)=l:=by
 simp only[A0z,Z1K]
 conv=>rhs;rw[<-Z4n l]
 rfl
def C9N{f n:Nat}(a:∀j,j<l.length->B1u l j)(h1:n<l.length)(h2:l.length<=f+n):A0r (A2x F l s f n).1=(A4b (λk=>A2l l k) l.length f n).length:=by rw[A9e a f n h1 h2,B0u,Z0G]
def C4Z(a i:Int)(b:∀j,j<l.length->B1u l j):∀f n,n<l.length->l.length<=f+n->∀m w,(∀q k,(A4b (λk=>A2l l k) l.length f n)[q]?=some k->D k=⟨a,i,((m+q+1:Nat):Int)⟩)->A9x F l s D f n (A2p a i (A2x F l s f n).1 m w)
 |0,n,h1,h2,m,w,h=>by omega
 |f+1,n,h1,h2,m,w,h=>by
  rw[A4b]at h;rw[A2x,A9x];simp only;rw[A2p];refine⟨⟨?_,rfl,rfl,?_,?_⟩,?_⟩
  .show(⟨a,i,((m+1:Nat):Int)⟩:IdD)=D n;rw[h 0 n rfl]
  .show A0z (A4g _ _ _ _)=_;rw[B3R,E1b]
  .show A0z (A4g _ _ _ _)=_;rw[B3R,D8h]
  .show B8N _ _ (A2A a i _ _ _);have key:∀(K:List Nat),(∀k∈K,n<k/\k<l.length)->∀m w,(∀q k,(K.flatMap (A4b (λk=>A2l l k) l.length f))[q]?=some k->D k=⟨a,i,((m+q+1:Nat):Int)⟩)->B8N (A9x F l s D f) K (A2A a i ((K.map (A2x F l s f)).map (·.1)) m w):=by
    intro K;induction K with
    |nil=>intro _ m w _;simp[A2A,B8N]
    |cons k K ih=>
     intro hK m w hD;obtain⟨k1,k2⟩:=hK k (by simp);simp only[Z0z,A2A,B8N];have hc:=C9N (F:=F) (s:=s) (f:=f) b k2 (by omega);refine⟨C4Z a i b f k k2 (by omega) m w λq j hq=>hD q j ?_,ih (λq hq=>hK q (by simp[hq])) _ _ λq j hq=>?_⟩
     .rw[Z0Y,Z0i (Z0a.1 hq).1];exact hq
     .rw[hD ((A4b (λk=>A2l l k) l.length f k).length+q) j (by rw[Z0Y,Z1y (by omega),Z1X];exact hq),hc];congr 2;omega
   refine key (A3M l n l.length) (λk hk=>B2S b hk) (m+1) _ λq k hq=>?_;rw[h (q+1) k (by rw[List.getElem?_cons_succ];exact hq)];congr 2;omega
def C8b:∀f n y,A9x F l s D f n y->∀k∈A4b (λk=>A2l l k) l.length f n,∃x∈A2R y,B9l F l s D k x/\((k=n/\x=y)\/∃p:Nat,A2l l k=(p:Int)/\∃z∈A2R y,z.id=D p/\x∈z.kids)
 |0,n,y,h,k,hk=>h.elim
 |f+1,n,y,h,k,hk=>by
  obtain⟨h1,h2⟩:=h;rw[A4b]at hk;have j:y∈A2R y:=by obtain⟨a,b,c,d,e,g⟩:=y;rw[A2R];simp
  rcases Z0s.1 hk with rfl|hk
  .exact⟨y,j,h1,.inl ⟨rfl,rfl⟩⟩
  .obtain⟨q,hq,hk⟩:=Z1S.1 hk;obtain⟨z,hz,hr⟩:=B5T h2 q hq;obtain⟨x,hx,k1,k2⟩:=C8b f q z hr k hk;(have i:∀v∈A2R z,v∈A2R y:=by intro v hv;obtain⟨a,b,c,d,e,g⟩:=y;rw[A2R];exact Z1v _ (B2y hv hz));refine⟨x,i x hx,k1,.inr ?_⟩;rcases k2 with⟨rfl,rfl⟩|⟨p,e,w,hw,e1,e2⟩
   .exact⟨n,(A4q.1 hq).2,y,j,h1.id,hz⟩
   .exact⟨p,e,w,i w hw,e1,e2⟩
def B3W(a:Int)(W:List (IdD×IdD))(b:∀j,j<l.length->B1u l j)(hD:∀k y,A1N W (A2s F l k).id=some y->D k=y):∀(K:List Nat) (j:Nat),(∀k∈K,k<l.length)->(∀y∈A5h a ((K.map (A2x F l s l.length)).map (·.2.1)) j,A1N W y.1=some y.2)->
 B8N (A9x F l s D l.length) K (A1T a (K.map (A2x F l s l.length)) j)
 |[],j,_,_=>trivial
 |k::K,j,hK,h=>by
  simp only[Z0z,A5h,A1T,B8N]at h|-;have hk:=hK k (by simp);refine⟨C4Z a j b l.length k hk (by omega) 0 0 λq r hq=>hD r _ ?_,B3W a W b hD K (j+1) (λq hq=>hK q (by simp[hq])) λy hy=>h y (Z2z _ hy)⟩;have hi:(A2x F l s l.length k).2.1[q]?=some (A2s F l r).id:=by rw[B0u,Z1g,hq];rfl
  have:=h ((A2s F l r).id,⟨a,j,(q:Int)+1⟩) (Z1P _ (Z0C.2 ⟨((A2s F l r).id,q),?_,rfl⟩))
  .rw[this];simp
  .rw[List.mem_zipIdx_iff_getElem?];simpa using hi
end
end Go.Abs
