/- The texts CbS, CbN, CbO, CbP, CbQ, CbR, CbV, CbW, CbY, CbX0, CbX1, CbX2. -/
import Derived.Test.YtmpdkagfplajjaaGreatDoorAG29
import Derived.Test.YtmpdkagfplajjaaGreatDoorAG07
import Derived.Test.YtmpdkagfplajjaaGreatDoorAG28
import Derived.Test.YtmpdkagfplajjaaGreatDoorAG31
import Derived.Test.YtmpdkagfplajjaaGreatDoorAG26
set_option linter.all false
set_option maxRecDepth 100000
namespace Go.Abs
open Go.Proofs TryTypes Tryz
def B2Q{C}{G}{M}{w}(hi:Inv C G M w):∀(l:List ByteArray) (b off:Nat),A0z G 1 (A0F l) b off->∀(j:Nat) x,l[j]?=some x->w.cell? ⟨b,off+j,none⟩=some (.string x)
 |[],_,_,_,j,x,hx=>by simp at hx
 |s::l,b,off,h,j,x,hx=>by
  simp only[A0F,Z0C,A0z,A0M]at h;obtain⟨⟨_,⟨v,hv,_,hr⟩,_⟩,h2⟩:=h;cases j with
  |zero=>simp at hx;subst hx;simp only[Rep]at hr;subst hr;exact hi.st _ _ _ hv
  |succ j=>have:=B2Q hi l b (off+1) h2 j x (by simpa using hx);rw[show off+(j+1)=off+1+j by omega];exact this
def C1D(l:List UInt8):ByteArray:=⟨l.toArray⟩
def C0q(l:List ByteArray)(sep:ByteArray):ByteArray:=C1D (Lib.join (l.map (·.data.toList)) sep.data.toList)
section
variable (gl:Nat->AV) (M:Mem)
def D4b(l:List ByteArray)(o:Own)(d:ByteArray)(hN:l.length<=140737488355328)(g:(Lib.join (l.map (·.data.toList)) d.data.toList).length<=140737488355328):A0e (WC gl) 127 [.list 1 (A0F l) o,S d] M (λv M'=>v=S (C0q l d)/\M'=M):=by
 refine B0T λG w vs hi hr=>?_
 simp only[A0q]at hr
 obtain⟨y,_,rfl,hy,z,_,rfl,hz,rfl⟩:=hr
 simp only[Rep]at hy hz
 obtain⟨base,cap,rfl,hc,hm,hb,ho⟩:=hy
 subst hz
 rw[B2v]at hc
 have c:∀a,l=[]->Calls prog 127 #[.slice a l.length cap,.string d] w λe w'=>e=.returned (.string (C0q l d))/\RowKit.Below w.heap.size w w':=by rintro a rfl;exact Z2D (strings_Join_none a cap d w) λe w' ⟨he,hw⟩=>⟨he,hw▸RowKit.Below.refl _ _⟩
 show Calls prog 127 #[.slice base (A0F l).length cap,.string d] w _
 rw[B2v]
 cases base with
 |none=>
  have:l=[]:=by simpa[A0F]using hb.1
  exact c _ this
 |some a=>
  by_cases hl:l=[]
  .exact c _ hl
  .have hs:=hb.1 (by simpa[A0F]using hl);obtain⟨b,off,spot⟩:=a;subst hs;have f:=B2Q hi l b off hb.2;have h:b<w.heap.size:=by
    cases l with
    |nil=>exact absurd rfl hl
    |cons s l=>exact Z2q w ⟨b,off+0,none⟩ (f 0 s rfl)
   exact strings_Join b off cap l d w f h hN hc g
def C8T(s:ByteArray)(c:Nat)(hc:c<=9223372036854775807)(a:s.size*c<=140737488355328):A0e (WC gl) 226 [S s,I c] M (λv M'=>v=S (C1D (Lib.repeatL s.data.toList c))/\M'=M):=by
 refine B0T λG w vs hi hr=>?_
 simp only[A0q]at hr
 obtain⟨y,_,rfl,hy,z,_,rfl,hz,rfl⟩:=hr
 simp only[Rep]at hy hz
 subst hy
 subst hz
 exact strings_Repeat s c w hc a
end
def C1J:∀d:Fin 9,C1D (Lib.repeatL [32,32] d.val)=A8D d.val:=by decide
def B5X:∀r:List ByteArray,A4O r=r.length+Lib.lens (r.map (·.data.toList))
 |[]=>rfl
 |a::r=>by rw[A7A,B5X r];simp only[Lib.lens,Z0C,List.sum_cons,Z0B];have:a.data.toList.length=a.size:=rfl;omega
def D0E(b:List UInt8)(hs:b.length=1):∀l:List ByteArray,l≠[]->(Lib.join (l.map (·.data.toList)) b).length+1=A4O l
 |[],h=>absurd rfl h
 |a::r,_=>by rw[Z0C,Lib.join_cons,Z0z,Lib.joinTail_length,hs,A7A,B5X,Z0L];have:a.data.toList.length=a.size:=rfl;omega
def A0b.lims_noKids{u}(h:u.lims):(A6E u).lims:=by obtain⟨a,b,c,d,e,f⟩:=u;rw[A0b.lims]at h;rw[A6E,A0b.lims];exact⟨⟨h.1.1,h.1.2.1,by simp[A0b.kids],h.1.2.2.2⟩,by rw[A8u];trivial⟩
def B0L{u}(h:Fit u):Fit (A6E u):=by
 obtain⟨h1,h2,h3⟩:=h;refine⟨?_,A0b.lims_noKids h2,?_⟩
 .obtain⟨a,b,c,d,e,f⟩:=u;obtain⟨g1,g2,g3,g4,g5,g6,g7,g8,g9⟩:=(A0b.good_iff _).1 h1;exact(A0b.good_iff _).2 ⟨by simp[A6E,A0b.id,IdD.good,idZ,inI],g2,g3,g4,g5,g6,g7,by simp[A6E,A0b.kids],by simp[A6E,A0b.kids]⟩
 .obtain⟨a,b,c,d,e,f⟩:=u;rw[A6E,A0x,A0V];omega
def B5N{u}(h:A5p u):A5p (A6E u):=by obtain⟨a,b,c,d,e,f⟩:=u;obtain⟨h0,h1,h2,h3⟩:=(A9J _).1 h;exact(A9J _).2 ⟨rfl,h1,h2,by simp[A6E,A0b.kids]⟩
def hMy:A2I:=⟨λd=>d !=2,λ_=>false,λ_=>false⟩
@[simp] def E1y:hMy.imm=λd=>d !=2:=rfl
section
variable (gl:Nat->AV)
def D6F(m:gl 0=A4A)(a:gl 1=A4S)(u:A0b)(d:Nat)(M:Mem)(hf:Fit u)(hb:A5p u)(ha:A4t u=true)(hd:d<=8):A0e (WC gl) 225 [.agg u.row,I d] M (λv M'=>v=B true/\M'=M):=by
 have hS:=λM=>B7M gl (A6E u) A0Z M (.inr ⟨by cases u;rfl,rfl⟩) (B0L hf).1 (B0L hf).2.1 (B0L hf).2.2 (B5N hb)
 have hV:=λM=>B8v gl m a (A6E u) M (B0L hf)
 rw[B8j (B5N hb),C9Q ha]at hV
 refine A0e.dataX ?_
 refine A0k hMy func225 ?_
 have o:C4a (A6E u) A0Z=[I 0,I 0,I 0,I u.kind,S u.label,.list 4 (A0g u.head) .no,.list 4 (A0g u.words) .no,A0Z]:=by cases u;rfl
 rw[o]at hS
 have i:u.id=idZ:=((A9J u).1 hb).1
 have h1:(0:Int)<=d:=by omega
 have h2:(d:Int)<=8:=by omega
 obtain⟨b,hb⟩:∃b,b=M.length:=⟨_,rfl⟩
 have h:u.row=[I 0,I 0,I 0,I u.kind,S u.label,.list 4 (A0g u.head) .no,.list 4 (A0g u.words) .no,.list 8 (A0O u.kids) .no]:=by rw[u.row_eq,i];rfl
 obtain⟨M1,f⟩:∃M1,M1=M++[A0p.cells 27 u.row]:=⟨_,rfl⟩
 have a:Grow M M1:=by rw[f];exact A0c.app none _ _
 have hX:M1[b]?=some (A0p.cells 27 u.row):=by rw[f,hb];simp
 have k:b<M1.length:=(Z0c.1 hX).1
 obtain⟨M2,c⟩:∃M2,M2=M1.set b (.cells 27 [I 0,I 0,I 0,I u.kind,S u.label,.list 4 (A0g u.head) .no,.list 4 (A0g u.words) .no,A0Z]):=⟨_,rfl⟩
 have e:M2[b]?=some (.cells 27 [I 0,I 0,I 0,I u.kind,S u.label,.list 4 (A0g u.head) .no,.list 4 (A0g u.words) .no,A0Z]):=by rw[c];simp[k]
 have l:Grow M M2:=⟨by rw[c];simpa using a.1,λj hj _=>by rw[c,Z0g (by omega)];exact a.2 j hj (by simp)⟩
 rw[h]at hX
 have g:M1.set b (.cells 27 [I 0,I 0,I 0,I u.kind,S u.label,.list 4 (A0g u.head) .no,.list 4 (A0g u.words) .no,.list 8 (A0O u.kids) .no])=M1:=List.set_eq_of_getElem? hX
 simp -dsimp -implicitDefEqProofs[A0o]
 rw[<-f,<-hb]
 simp -dsimp -implicitDefEqProofs[C8l,A0f hX,g]
 rw[<-c]
 simp -dsimp -implicitDefEqProofs[h1,h2,A0a e]
 refine A0i func180 (hS M2) ?_
 simp -dsimp -implicitDefEqProofs[h1,h2,A0a e]
 refine A0i func109 (hV _) ?_
 simp -dsimp -implicitDefEqProofs[h1,h2,A0a e]
 exact⟨l,.same trivial .nil⟩
def D5Q(s:ByteArray)(ws:List A0G)(M:Mem)(hs:s.size<=1000000)(hl:ws.length<=1000000)(hw:∀w∈ws,1<=w.text.size/\w.text.size<=24):A0e (WC gl) 227 [S s,.list 4 (A0g ws) .no] M (λv M'=>v=S (A5r s ws)/\M'=M):=by
 refine A0e.dataX ?_
 refine A0k hB func227 ?_
 simp -dsimp -implicitDefEqProofs
 refine A0s hB ws.length 9 (λT M1=>∃i:Nat,i<=ws.length/\T 0=S (A5r s (ws.take i))/\T 7=.list 4 (A0g ws) .no/\T 8=I ws.length/\T 9=I i/\Grow M M1) ?_ ?_
 .refine⟨0,by omega,by simp[A5r],by simp,by simp,by simp,A0c.refl _ _⟩
 rintro T M1 ⟨i,i1,t0,t7,t8,t9,hg⟩
 by_cases hi:i<ws.length
 case neg=>
  have a:¬(i:Int)<ws.length:=by omega
  rw[Z0l (by omega)]at t0;simp -dsimp -implicitDefEqProofs[t0,t7,t8,t9,a,hg];exact .same trivial .nil
 have a:(i:Int)<ws.length:=by omega
 have w1:=A1i (i:=i) (by omega)
 have h1:=hw _ (Z0v hi)
 have hp:A5r s (ws.take (i+1))=A5r s (ws.take i)++⟨#[32]⟩++B0M ws[i].text:=by rw[Z0A hi,A5r,Z2n];rfl
 obtain⟨p,e⟩:∃p,p=A5r s (ws.take i):=⟨_,rfl⟩
 obtain⟨h1,h2⟩:=h1
 have f:p.size<=27000000:=by have:=A6m (ws.take i) s λw h=>(hw w (Z1r h)).2;rw[<-e]at this;simp at this;omega
 have d:(⟨#[32]⟩:ByteArray).size=1:=rfl
 have c:(⟨#[92]⟩:ByteArray).size=1:=rfl
 have b1:¬(9223372036854775807:Int)<p.size+1:=by omega
 have b2:¬(9223372036854775807:Int)<p.size+1+1:=by omega
 have b3:¬(9223372036854775807:Int)<p.size+1+ws[i].text.size:=by omega
 have b4:¬(9223372036854775807:Int)<p.size+1+1+ws[i].text.size:=by omega
 have b5:0<ws[i].text.size:=h1
 obtain⟨t,ht⟩:∃t,t=ws[i].text:=⟨_,rfl⟩
 rw[<-e]at t0 hp
 have b:Grow M (M1++[A0p.cells 152 ws[i].row]):=hg.trans (A0c.app none _ _)
 have hX:(M1++[A0p.cells 152 [S ws[i].text,I ws[i].act,I ws[i].item,I ws[i].at_]])[M1.length]?=some (.cells 152 [S ws[i].text,I ws[i].act,I ws[i].item,I ws[i].at_]):=by simp
 have b:Grow M (M1++[A0p.cells 152 [S ws[i].text,I ws[i].act,I ws[i].item,I ws[i].at_]]):=b
 by_cases c1:A0T ws[i].text 0=124
 .have he:B0M ws[i].text=⟨#[92]⟩++ws[i].text:=by rw[B0M,Z0d (.inl c1)]
  rw[he]at hp;simp -dsimp -implicitDefEqProofs[t0,t7,t8,t9,a,hi,A0o,A0l,A0d,AV.storable,AV.cells,A0G.row,d,c,Z0x,b1,b2,b3,b4,b5,c1,w1,A0a hX];refine⟨⟨i+1,by clear w1;omega,?_,rfl,b⟩,by clear w1;omega⟩;rw[hp];simp only[A9T]
 by_cases c2:A0T ws[i].text 0=92
 .have he:B0M ws[i].text=⟨#[92]⟩++ws[i].text:=by rw[B0M,Z0d (.inr c2)]
  rw[he]at hp;simp -dsimp -implicitDefEqProofs[t0,t7,t8,t9,a,hi,A0o,A0l,A0d,AV.storable,AV.cells,A0G.row,d,c,Z0x,b1,b2,b3,b4,b5,c1,c2,w1,A0a hX];refine⟨⟨i+1,by clear w1;omega,?_,rfl,b⟩,by clear w1;omega⟩;rw[hp];simp only[A9T]
 have he:B0M ws[i].text=ws[i].text:=by rw[B0M,Z0e (by simp[c1,c2])]
 rw[he]at hp
 simp -dsimp -implicitDefEqProofs[t0,t7,t8,t9,a,hi,A0o,A0l,A0d,AV.storable,AV.cells,A0G.row,d,c,Z0x,b1,b2,b3,b4,b5,c1,c2,w1,A0a hX]
 exact⟨⟨i+1,by clear w1;omega,by rw[hp],rfl,b⟩,by clear w1;omega⟩
def A7D{l}(h:A3l l=true):l.length<=256/\∀w∈l,1<=w.text.size/\w.text.size<=24:=by simp only[A3l,Z0f,Z0o,Z0r]at h;refine⟨h.1,λw hw=>?_⟩;have:=h.2 w hw;simp only[A2H,Z0f,Z0o]at this;exact this.1
def A8Y{u}(h:A4t u=true):(0<=u.kind/\u.kind<=7)/\A3l u.head=true/\A3l u.words=true:=by unfold A4t at h;simp only[Z0f,Z0o]at h;exact⟨h.1.1.1.1,h.1.1.2,h.1.2⟩
def C2Z{k}(h:0<=k/\k<=7):A4F k=A4n.getD k.toNat ⟨#[]⟩:=by
 have key:∀n:Fin 8,A9f.getD n.val .empty=A4n.getD n.val ⟨#[]⟩:=by decide
 have:=key ⟨k.toNat,by omega⟩;rw[A4F,Z0d (by omega),this]
def D4S(t:gl 0=A4A)(o:gl 1=A4S)(u:A0b)(d:Nat)(M:Mem)(hf:Fit u)(hb:A5p u)(ha:A4t u=true)(hd:d<=8):A0e (WC gl) 182 [.agg u.row,I d] M (λv M'=>v=S (A3w u d)/\M'=M):=by
 obtain⟨hk,hh,hw⟩:=A8Y ha
 obtain⟨r,j⟩:=A7D hh
 obtain⟨m,k⟩:=A7D hw
 have y:=((A7B u hf.2.1).1).2.2.2
 have c:(⟨#[32]⟩:ByteArray).size=1:=rfl
 have b:(⟨#[58]⟩:ByteArray).size=1:=rfl
 have e3:(⟨#[32,124]⟩:ByteArray).size=2:=rfl
 have f:=λM=>C8T gl M ⟨#[32,32]⟩ d (by omega) (by show 2*d<=_;omega)
 have hdr:C1D (Lib.repeatL (⟨#[32,32]⟩:ByteArray).data.toList d)=A8D d:=C1J ⟨d,by omega⟩
 rw[hdr]at f
 have z:=A8E d
 have hn:=C2Z hk
 have key:∀n:Fin 8,(A4n.getD n.val ⟨#[]⟩).size<=9:=by decide
 have l:=key ⟨u.kind.toNat,by omega⟩
 have i:A7F u d=A8D d++A4n.getD u.kind.toNat ⟨#[]⟩:=rfl
 simp only at l
 rw[<-hn]at i l
 have b1:¬(9223372036854775807:Int)<(A8D d).size+(A4F u.kind).size:=by omega
 have a1:(A7F u d).size<=2*d+9:=by rw[i,Z0x];omega
 have a2:(A5m u d).size<=2*d+1010:=by
  unfold A5m;split
  .omega
  .rw[Z0x,Z0x,c];omega
 have a0:(A4a u d).size<=2*d+7700:=by
  unfold A4a;split
  .omega
  .have:=A6m u.head (A5m u d++⟨#[58]⟩) (λw h=>(j w h).2);rw[Z0x,b]at this;omega
 have b2:¬(9223372036854775807:Int)<1+u.label.size:=by omega
 have b3:¬(9223372036854775807:Int)<(A7F u d).size+(1+u.label.size):=by omega
 have b4:¬(9223372036854775807:Int)<(A5m u d).size+1:=by omega
 have b5:¬(9223372036854775807:Int)<(A4a u d).size+2:=by omega
 refine A0k hB func182 ?_
 simp -dsimp -implicitDefEqProofs[u.row_eq]
 refine A0i func225 (u.row_eq▸D6F gl t o u d M hf hb ha hd) ?_
 simp -dsimp -implicitDefEqProofs
 refine A1h hB (A0w gl) (λ_=>0) (λ_=>0) (by rfl) (by kernel_rfl) ?_
 simp -dsimp -implicitDefEqProofs
 refine A1j func226 f ?_
 simp -dsimp -implicitDefEqProofs
 refine A1j func207 (λM=>(B1m gl M o _)) ?_
 have q1:A8D d++A4F u.kind=A7F u d:=i.symm
 have a:∀ws:List A0G,ws.length<=256->(∀w∈ws,1<=w.text.size/\w.text.size<=24)->∀s,s.size<=1000000->∀M,A0e (WC gl) 227 [S s,.list 4 (A0g ws) .no] M (λv M'=>v=S (A5r s ws)/\M'=M):=λws h1 h2 s h3 M=>D5Q gl s ws M h3 (by omega) h2
 by_cases k0:u.kind=0
 .have e:=ha;unfold A4t at e;simp only[k0,Z0G,Z0f,Z0o]at e;have z1:u.head.length=0:=e.2.1.2;have z2:u.words.length=0:=e.2.2;have q:A3w u d=A7F u d:=by rw[A3w,Z0d z2,A4a,Z0d z1,A5m,Z0d k0]
  rw[k0]at b1 q1|-;simp -dsimp -implicitDefEqProofs[b1,k0,q1,z1,z2,q]
 have q2:A7F u d++(⟨#[32]⟩++u.label)=A5m u d:=by rw[A5m,Z0e k0]
 by_cases z1:u.head.length=0
 .have q3:A5m u d=A4a u d:=by rw[A4a,Z0d z1]
  by_cases z2:u.words.length=0
  ·(have q4:A4a u d=A3w u d:=by rw[A3w,Z0d z2]);simp -dsimp -implicitDefEqProofs[b1,k0,q1,q2,z1,z2,c,b,e3,Z0x,b2,b3,q3,q4]
  ·(have g:0<u.words.length:=by omega);have q4:A3w u d=A5r (A4a u d++⟨#[32,124]⟩) u.words:=by rw[A3w,Z0e z2]
   simp -dsimp -implicitDefEqProofs[b1,k0,q1,q2,z1,g,c,b,e3,Z0x,b2,b3,b5,q3];refine A0j func227 (a u.words m k _ (by rw[Z0x,e3];omega) M) ?_;rintro _ M ⟨rfl,rfl⟩;simp -dsimp -implicitDefEqProofs[q4]
 have p:0<u.head.length:=by omega
 have q3:A4a u d=A5r (A5m u d++⟨#[58]⟩) u.head:=by rw[A4a,Z0e z1]
 simp -dsimp -implicitDefEqProofs[b1,k0,q1,q2,p,c,b,e3,Z0x,b2,b3,b4]
 refine A0j func227 (a u.head r j _ (by rw[Z0x,b];omega) M) ?_
 rintro _ M ⟨rfl,rfl⟩
 rw[<-q3]
 by_cases z2:u.words.length=0
 .have q4:A4a u d=A3w u d:=by rw[A3w,Z0d z2]
  simp -dsimp -implicitDefEqProofs[z2,q4]
 .have g:0<u.words.length:=by omega
  have q4:A3w u d=A5r (A4a u d++⟨#[32,124]⟩) u.words:=by rw[A3w,Z0e z2]
  simp -dsimp -implicitDefEqProofs[g,e3,b5];refine A0j func227 (a u.words m k _ (by rw[Z0x,e3];omega) M) ?_;rintro _ M ⟨rfl,rfl⟩;simp -dsimp -implicitDefEqProofs[q4]
end
section
structure B5T (n:Nat) (M0 M:Mem) (xs:List ByteArray):Prop where
 low:A0I n M0 M
 len:n+2<=M.length
 fn:M[n+1]?=some (.cells 100 [.func (.func 181) [] [.ptr n 0,.ptr (n+1) 0]])
 arr:∃v,M[n]?=some (.cells 37 [v])/\A1z 9 1 A4p M v xs/\A1n (n+2) v
def B5T.app{n}{M0 M}{xs}(h:B5T n M0 M xs)(X:Mem):B5T n M0 (M++X) xs:=by
 obtain⟨h1,h2,h3,v,h4,h5,h6⟩:=h;have hl:∀j Y,M[j]?=some Y->(M++X)[j]?=some Y:=λj Y h=>by rw[Z0j (Z0c.1 h).1];exact h
 refine⟨⟨by simp;have:=h1.1;omega,λj hj=>?_⟩,by simp;omega,hl _ _ h3,v,hl _ _ h4,h5.keep (A0c.app none M X) (by simp),h6⟩;rw[Z0j (by omega)];exact h1.2 j hj
mutual
def A7T:∀(d:Nat) (u:A0b),(A4c d u).length=A0x u
 |d,.mk _ _ _ _ _ ks=>by rw[A4c,A0x,Z0B,A8a (d+1) ks];omega
def A8a:∀(d:Nat) (ks:List A0b),(A5e d ks).length=A0V ks
 |d,[]=>by rw[A5e,A0V];rfl
 |d,k::ks=>by rw[A5e,A0V,Z0z,A7T d k,A8a d ks]
end
def B6g{d:Nat}{ks:List A0b}{i:Nat}(h:i<ks.length):A5e d (ks.take (i+1))=A5e d (ks.take i)++A4c d ks[i]:=by
 induction ks generalizing i with
 |nil=>simp at h
 |cons k ks ih=>
  cases i with
  |zero=>simp[A5e]
  |succ i=>simp only[Z0D,A5e,Z2S];rw[ih (by simpa using h),Z0O]
def A9a{u}(h:A2T u=true):A4t u=true:=by obtain⟨a,b,c,d,e,f⟩:=u;rw[A2T,Z0f]at h;exact h.1
def B9y{p}:∀{ks b:List A0b},A4M p ks b=true->∀k∈ks,A2T k=true
 |[],_,_,k,hk=>by simp at hk
 |a::ks,b,h,k,hk=>by
  rw[A4M]at h;simp only[Z0f]at h;rcases Z0F.1 hk with rfl|hk
  .exact h.1.1.2
  .exact B9y h.2 k hk
def B5l{u}(h:A2T u=true):∀k∈u.kids,A2T k=true:=by obtain⟨a,b,c,d,e,f⟩:=u;rw[A2T,Z0f]at h;exact B9y h.2
def B7L:∀{ks:List A0b},∀k∈ks,1+A2f k<=A3h ks
 |[],k,hk=>by simp at hk
 |a::ks,k,hk=>by
  rw[A3h];rcases Z0F.1 hk with rfl|hk
  .omega
  .have:=B7L k hk;omega
def C0z{u}:∀k∈u.kids,1+A2f k<=A2f u:=by obtain⟨a,b,c,d,e,f⟩:=u;intro k hk;rw[A2f];exact B7L k hk
def C7W{u}(h:Fit u):∀k∈u.kids,Fit k:=by obtain⟨h1,h2,h3⟩:=h;intro k hk;have:=A3Q hk;rw[A4J]at h3;exact⟨((A0b.good_iff _).1 h1).2.2.2.2.2.2.2.2 k hk,A7d.1 (A7B u h2).2 k hk,by omega⟩
def D2y{u}(h:A5p u):∀k∈u.kids,A5p k:=((A9J u).1 h).2.2.2
def B5O{ks}{i}(h:i<ks.length):A0V (ks.take i)+A0x ks[i]<=A0V ks:=by
 induction ks generalizing i with
 |nil=>simp at h
 |cons k ks ih=>
  cases i with
  |zero=>simp[A0V]
  |succ i=>have:=ih (i:=i) (by simpa using h);simp only[Z0D,A0V,Z2S];omega
@[simp] def E0v:A2v prog 100=some false:=by kernel_rfl
@[simp] def E1M:A1e prog 100=some 1:=by kernel_rfl
@[simp] def D9Z:A0D prog 100=some [.nilFunc]:=by kernel_rfl
def hLn:A2I:=⟨λ_=>true,λ_=>false,λd=>d==13⟩
@[simp] def E0x:hLn.imm=λ_=>true:=rfl
@[simp] def E0j:hLn.own=λ_=>false:=rfl
@[simp] def E1p:hLn.vec=λd=>d==13:=rfl
section
variable (gl:Nat->AV)
set_option maxHeartbeats 1000000 in
def C1c(a8:gl 0=A4A)(a5:gl 1=A4S):∀(N:Nat) (U:A0b) (d n:Nat) (M0 M:Mem) (xs:List ByteArray),A0x U<=N->Fit U->A5p U->A2T U=true->d+A2f U<=8->B5T n M0 M xs->xs.length+A0x U<=1000->
 A0e (WC gl) 181 [.agg U.row,I d,.ptr n 0,.ptr (n+1) 0] M (λv M'=>B5T n M0 M' (xs++A4c d U))
 |0,U,d,n,M0,M,xs,hN,hf,hb,hr,hdep,ho,hc=>by have:=A3R U;omega
 |N+1,U,d,n,M0,M,xs,hN,hf,hb,hr,hdep,ho,hc=>by
  obtain⟨ks,m⟩:∃ks,U.kids=ks:=⟨_,rfl⟩;have ha:=A9a hr;have b:=λM=>D4S gl a8 a5 U d M hf hb ha (by omega);refine A0k hLn func181 ?_;obtain⟨v0,l,a7,g⟩:=ho.arr;have a9:n<M.length:=(Z0c.1 l).1;rw[U.row_eq]at b;simp -dsimp -implicitDefEqProofs[U.row_eq];refine B8R hLn (A0w gl) (λk=>if k=0 then 1 else if k=5\/k=6 then 2 else 0) (λ_=>n) (λ_ k=>k==6) (λk=>if k=6 then[]else[n]) (by intro i k _ h;have:k≠6:=(by simpa using h);simp[this]) (by rfl) (by kernel_rfl) ?_;simp -dsimp -implicitDefEqProofs[A0a l,A0y,A4e];refine A1j func182 b ?_;simp -dsimp -implicitDefEqProofs[A0h,A0J,AV.storable,AV.cells];have aa:=A4J U;rw[m]at aa;refine A3E (C:=WC gl) (enc:=A4p) (e:=9) (sz:=1) (news:=[A3w U d]) A4X A6S B0K (λ_=>rfl) a7 (by simp[A0B]) (by simp;omega) rfl ?_;intro v1 M2 p1 p2 p3 _;have s:M2[n]?=some (.cells 37 [v0]):=p2.get l (λe=>by have:=g n e;omega);have a4:M2[n+1]?=some (.cells 100 [.func (.func 181) [] [.ptr n 0,.ptr (n+1) 0]]):=p2.get ho.fn (λe=>by have:=g _ e;omega);have t:n<M2.length:=(Z0c.1 s).1;have a0:A1n (n+2) v1:=λf hf=>by
   rcases p3 with e|e
   .exact g f (e▸hf)
   .have:=e f hf;have:=ho.len;omega
  have a3:n+2<=M2.length:=Z0T ho.len p2.1;have y:B5T n M0 (M2.set n (.cells 37 [v1])) (xs++[A3w U d]):=by
   refine⟨⟨by have:=ho.low.1;have:=p2.1;simp;omega,λj hj=>?_⟩,by simpa using a3,?_,v1,?_,?_,a0⟩
   .rw[Z0g (by omega),p2.2 j (by omega) (λe=>by have:=g _ e;omega)];exact ho.low.2 j hj
   .rw[Z0g (by omega)];exact a4
   .simp[t]
   .exact p1.keep ⟨by simp,λj hj h=>by rw[Z0g];rintro rfl;exact h rfl⟩ (o:=some n) (λf hf e=>by simp at e;have:=a0 f hf;omega)
  have w:A0l (some 1) M2 (.ptr n 0) v1=some (M2.set n (.cells 37 [v1])):=by rw[A0f s,p1.cells,Z0d ⟨p1.store,by simp,rfl⟩];rfl
  obtain⟨M3,a6⟩:∃M3,M3=M2.set n (.cells 37 [v1]):=⟨_,rfl⟩;rw[<-a6]at y w;have a1:M2[n]?=M[n]?:=by rw[s,l]
  simp -dsimp -implicitDefEqProofs[w,a1];clear w a6 a3 a0 t a4 s p1 p2 p3 a1 l a7 g a9 b;refine A0s hLn ks.length 17 (λT M5=>∃i:Nat,i<=ks.length/\T 1=I d/\T 2=.ptr n 0/\T 3=.ptr (n+1) 0/\T 15=.list 8 (A0O ks) .no/\T 16=I ks.length/\T 17=I i/\B5T n M0 M5 (xs++[A3w U d]++A5e (d+1) (ks.take i))) ?_ ?_
  .exact⟨0,by omega,by simp,by simp,by simp,by simp[m],by simp[m],by simp,by simpa[A5e]using y⟩
  clear y;rintro T M5 ⟨i,i1,t1,t2,t3,p,q,r,h5⟩;by_cases hi:i<ks.length;case neg=>
   (have z:¬(i:Int)<ks.length:=by omega);rw[Z0l (by omega)]at h5
   (have hL:A4c d U=A3w U d::A5e (d+1) ks:=by rw[<-m];cases U;rw[A4c];rfl);simp -dsimp -implicitDefEqProofs[t1,t2,t3,p,q,r,z]
   rw[hL];simpa using h5
  have z:(i:Int)<ks.length:=by omega
  have w1:=A1i (i:=i) (by have:=A2t ks;have:=hf.2.2;omega);have w2:=A1i (i:=d) (by omega);have a2:ks[i]∈ks:=Z0v hi;have a:ks[i]∈U.kids:=by rw[m];exact a2
  have ac:=C0z _ a;have ad:A0V (ks.take i)+A0x ks[i]<=A0V ks:=B5O hi;have h6:=h5.app [A0p.cells 27 ks[i].row];have c:=C1c a8 a5 N ks[i] (d+1) n M0 _ _ (by omega) (C7W hf _ a) (D2y hb _ a) (B5l hr _ a) (by omega) h6 (by simp[A8a];omega);obtain⟨M6,u⟩:∃M6,M6=M5++[A0p.cells 27 ks[i].row]:=⟨_,rfl⟩;have ab:M6[M5.length]?=some (A0p.cells 27 ks[i].row):=by rw[u];simp
  rw[<-u]at c h6;simp -dsimp -implicitDefEqProofs[t1,t2,t3,p,q,r,hi,z,A0o,A0l,A0d,AV.storable,AV.cells];rw[<-u];simp -dsimp -implicitDefEqProofs[t1,t2,t3,p,q,r,A0a ab,A0a h6.fn,w2];refine A0j func181 c ?_;intro _ M7 h7;simp -dsimp -implicitDefEqProofs[t1,t2,t3,p,q,r,w1];refine⟨⟨i+1,by clear w1;omega,rfl,?_⟩,by clear w1;omega⟩;rw[B6g hi];simpa using h7
def B6p{n}{M}{v}{l}(h:A1z 9 1 A4p M v l)(hl:A1n n v){cs ds}(hr:Still M n (bdd n) cs ds):Still M n (bdd n) (v::cs) (.list 1 (A0F l) .no::ds):=Still.append (a:=[v]) (b:=[.list 1 (A0F l) .no]) (A4u (λ_=>rfl) A5N h hl) hr
def D0O(d:gl 0=A4A)(c:gl 1=A4S)(u:A0b)(M:Mem)(hf:Fit u)(hb:A5p u):A0e (WC gl) 126 [.agg u.row] M (λv M'=>v=(if A7u u=true then .list 1 (A0F (A4c 0 u)) .no else A0Z)/\M'=M):=by
 have hS:=λM=>B7M gl u (.list 8 (A0O u.kids) .no) M (.inl rfl) hf.1 hf.2.1 hf.2.2 hb
 have hV:=λM=>B8v gl d c u M hf
 rw[B8j hb]at hV
 rw[show C4a u (.list 8 (A0O u.kids) .no)=u.row from u.row_eq.symm]at hS
 refine A0e.dataX ?_
 refine A0k hLn func126 ?_
 cases hfm:A7u u
 .rw[hfm]at hV;rw[u.row_eq]at hS hV|-;simp -dsimp -implicitDefEqProofs;refine A0i func180 (hS M) ?_;simp -dsimp -implicitDefEqProofs;refine A0i func109 (hV M) ?_;simp -dsimp -implicitDefEqProofs;exact⟨Grow.refl _,.same (by simp[bdd]) .nil⟩
 rw[hfm]at hV
 have b:=hfm
 simp only[A7u,Z0f,Z0o]at b
 have ho:B5T M.length M (M++[.cells 37 [A0Z],.cells 100 [.func (.func 181) [] [.ptr M.length 0,.ptr (M.length+1) 0]]]) []:=by refine⟨⟨by simp,λj hj=>by rw[Z0j hj]⟩,by simp,by simp[Z1B],A0Z,by simp,.nil,λf hf=>by simp at hf⟩
 have a:=C1c gl d c _ u 0 M.length M _ [] (Z0u _) hf hb b.1.1 (by omega) ho (by have:=hf.2.2;simp;omega)
 have hX:=ho.fn
 have e:A0l (some 1) (M++[.cells 37 [A0Z],.cells 100 [.val .nilFunc]]) (.ptr (M.length+1) 0) (.func (.func 181) [] [.ptr M.length 0,.ptr (M.length+1) 0])=some (M++[.cells 37 [A0Z],.cells 100 [.func (.func 181) [] [.ptr M.length 0,.ptr (M.length+1) 0]]]):=by rw[A0f (bt:=100) (cs:=[.val .nilFunc]) (by simp[Z1B])];simp[List.set_append,A0d,AV.storable,AV.cells]
 rw[u.row_eq]at hS hV a|-
 simp -dsimp -implicitDefEqProofs
 refine A0i func180 (hS M) ?_
 simp -dsimp -implicitDefEqProofs
 refine A0i func109 (hV M) ?_
 simp -dsimp -implicitDefEqProofs[A0o,e,A0a hX]
 refine A0j func181 a ?_
 rintro _ M2 ⟨h1,h2,h3,v,h4,h5,h6⟩
 simp -dsimp -implicitDefEqProofs[A0a h4]
 refine⟨h1.grow (Grow.refl _) (Z0u _),?_⟩
 exact B6p h5 (λf hf=>by have:=h6 f hf;omega) .nil
end
end
section
def C9U(u:A0b)(d:Nat)(ha:A4t u=true)(g:u.label.size<=1000):(A3w u d).size<=2*d+15000:=by
 obtain⟨hk,hh,hw⟩:=A8Y ha;obtain⟨j,a⟩:=A7D hh;obtain⟨o,b⟩:=A7D hw;have e:(⟨#[32]⟩:ByteArray).size=1:=rfl;have f:(⟨#[58]⟩:ByteArray).size=1:=rfl;have e3:(⟨#[32,124]⟩:ByteArray).size=2:=rfl;have m:=A8E d;have key:∀n:Fin 8,(A4n.getD n.val ⟨#[]⟩).size<=9:=by decide
 have c:=key ⟨u.kind.toNat,by omega⟩;simp only at c;have k:(A7F u d).size<=2*d+9:=by rw[A7F,Z0x];omega
 have l:(A5m u d).size<=2*d+1010:=by
  unfold A5m;split
  .omega
  .rw[Z0x,Z0x,e];omega
 have i:(A4a u d).size<=2*d+7700:=by
  unfold A4a;split
  .omega
  .have:=A6m u.head (A5m u d++⟨#[58]⟩) (λw h=>(a w h).2);rw[Z0x,f]at this;omega
 unfold A3w;split
 .omega
 .have:=A6m u.words (A4a u d++⟨#[32,124]⟩) (λw h=>(b w h).2);rw[Z0x,e3]at this;omega
mutual
def B1f:∀(u:A0b) (d:Nat),A2T u=true->u.lims->d+A2f u<=8->A4O (A4c d u)<=A0x u*15020
 |.mk a b c e f ks,d,hr,hl,hd=>by have h1:=C9U _ d (A9a hr) (A7B _ hl).1.2.2.2;rw[A0b.lims]at hl;rw[A2T,Z0f]at hr;rw[A2f]at hd;have h2:=B6u ks (d+1) b [] hr.2 hl.2 (λh=>by omega);rw[A4c,A7A,A0x];omega
def B6u:∀(ks:List A0b) (d:Nat) (p:Int) (bf:List A0b),A4M p ks bf=true->A8u ks->(ks≠[]->d+A3h ks<=9)->A4O (A5e d ks)<=A0V ks*15020
 |[],d,p,bf,_,_,_=>by rw[A5e,A0V];simp
 |k::ks,d,p,bf,hr,hl,hd=>by rw[A4M]at hr;simp only[Z0f]at hr;rw[A8u]at hl;have hd:=hd (by simp);rw[A3h]at hd;have h1:=B1f k d hr.1.1.2 hl.1 (by omega);have h2:=B6u ks d p _ hr.2 hl.2 (λ_=>by omega);rw[A5e,B8w,A0V];omega
end
def C9t(d:Nat)(u:A0b):A4c d u≠[]:=by cases u;rw[A4c];simp
section
variable (gl:Nat->AV)
def C8M(k:gl 0=A4A)(g:gl 1=A4S)(u:A0b)(M:Mem)(hf:Fit u)(hb:A5p u):A0e (WC gl) 72 [.agg u.row] M (λv M'=>(∃t,v=.tuple [S t,I (B5e u)])/\M'=M):=by
 refine A0k hB func72 ?_
 have hL:=D0O gl k g u M hf hb
 cases hfm:A7u u
 .rw[hfm,Z0e (by simp)]at hL;have hE:B5e u=1:=by simp[B5e,hfm]
  rw[u.row_eq]at hL|-;simp -dsimp -implicitDefEqProofs;refine A0i func126 hL ?_;simp -dsimp -implicitDefEqProofs[hE]
 rw[hfm,Z0d rfl]at hL
 have c:=hfm
 simp only[A7u,Z0f,Z0o]at c
 obtain⟨L,f⟩:∃L,L=A4c 0 u:=⟨_,rfl⟩
 have h:=B1f u 0 c.1.1 hf.2.1 (by omega)
 have a:=C9t 0 u
 have i:=A7T 0 u
 have hE:B5e u=if 16384<A4O (A4c 0 u)then 6 else 0:=by simp[B5e,hfm]
 rw[<-f]at hL h a i hE
 have m:=hf.2.2
 have e:=D0E [10] rfl L a
 have j:0<L.length:=by rcases L with _|_<;>simp at a|-
 have d:¬(L.length:Int)=0:=by omega
 have l:(C0q L ⟨#[10]⟩).size+1=A4O L:=e
 have hj:=λM=>D4b gl M L .no ⟨#[10]⟩ (by omega) (by show(Lib.join _ [10]).length<=_;omega)
 rw[u.row_eq]at hL|-
 simp -dsimp -implicitDefEqProofs
 refine A0i func126 hL ?_
 simp -dsimp -implicitDefEqProofs[B2v,d,j,a]
 refine A0i func127 (hj M) ?_
 have b:(⟨#[10]⟩:ByteArray).size=1:=rfl
 have b1:¬(9223372036854775807:Int)<(C0q L ⟨#[10]⟩).size+1:=by omega
 by_cases hbig:16384<A4O L
 .have h2:(16384:Int)<(C0q L ⟨#[10]⟩).size+1:=by omega
  rw[Z0d hbig]at hE;simp -dsimp -implicitDefEqProofs[b,b1,Z0x,h2,hE]
 .have h2:¬(16384:Int)<(C0q L ⟨#[10]⟩).size+1:=by omega
  rw[Z0e hbig]at hE;simp -dsimp -implicitDefEqProofs[b,b1,Z0x,h2,hE]
end
end
section
variable (gl:Nat->AV)
def B8A:∀(u:A0b) (M:Mem),u.good->A0x u<=1000->A0e (WC gl) 187 [.agg u.row] M (λv M'=>v=I (A0x u)/\M'=M)
 |.mk id kind lab hd ws ks,M,hg,hc=>by
  obtain⟨_,_,o,_,l,_,m,_,c⟩:=(A0b.good_iff _).1 hg;have c:∀k∈ks,k.good:=c;have p:1+A0V ks<=1000:=by rwa[A0x]at hc
  have h:=A2t ks;have f:(A0b.mk id kind lab hd ws ks).row=[I id.act,I id.item,I id.n,I kind,S lab,.list 4 (A0g hd) .no,.list 4 (A0g ws) .no,.list 8 (A0O ks) .no]:=by rw[A0b.row]
  have g:A0x (.mk id kind lab hd ws ks)=1+A0V ks:=by rw[A0x]
  rw[f,g];refine A0k hB func187 ?_;simp -dsimp -implicitDefEqProofs;refine A0s hB ks.length 4 (λT M1=>∃i:Nat,i<=ks.length/\T 1=.cptr [I id.act,I id.item,I id.n,I kind,S lab,.list 4 (A0g hd) .no,.list 4 (A0g ws) .no,.list 8 (A0O ks) .no]/\T 4=I i/\M1=M/\∃d:Nat,T 3=I d/\1+A0V ks=d+A0V (ks.drop i)) ?_ ?_
  .exact⟨0,by omega,by simp,by simp,rfl,1,by simp,by simp⟩
  .rintro T M1 ⟨i,i1,t1,t4,rfl,d,t3,ho⟩;by_cases hi:i<ks.length
   ·(have b:(i:Int)<ks.length:=by omega);have w1:=A1i (i:=i) (by omega)
    have a:ks[i]∈ks:=Z0v hi;rw[B5Z hi]at ho;have q:=A3Q a;simp -dsimp -implicitDefEqProofs[t1,t3,t4,hi,b];have:=A0b.kid_lt (u:=.mk id kind lab hd ws ks) a;refine A0i func187 (B8A ks[i] M1 (c _ a) (by omega)) ?_;generalize A0x ks[i]=dk at*;have w2:=D8I (i:=d) (j:=dk) (by omega);obtain⟨e,he⟩:∃e,e=d+dk:=⟨_,rfl⟩;rw[<-he]at w2;simp -dsimp -implicitDefEqProofs[t1,t3,t4,w1,w2];exact⟨⟨i+1,by clear w1;omega,rfl,e,rfl,by omega⟩,by clear w1;omega⟩
   ·(have b:¬(i:Int)<ks.length:=by omega);rw[show ks.drop i=[]from Z0n (by omega),A0V,Z0V]at ho
    rw[ho];simp -dsimp -implicitDefEqProofs[t1,t3,t4,b]
termination_by u=>SizeOf.sizeOf u
end
section
variable (gl:Nat->AV) (M:Mem)
def B8q(p k:Int):A0e (WC gl) 230 [I p,I k] M (λv M'=>v=B (A1w p k)/\M'=M):=by
 refine A0k hB func230 ?_;by_cases h0:p=0
 .subst h0;have e:A1w 0 k=(decide (k=1)||decide (k=2)):=by simp[A1w,A3D]
  rw[e];by_cases k1:k=1
  .simp -dsimp -implicitDefEqProofs[k1]
  .simp -dsimp -implicitDefEqProofs[k1];rfl
 by_cases h1:p=1
 .subst h1;have e:A1w 1 k=decide (k=2):=by simp[A1w,A3D]
  rw[e];simp -dsimp -implicitDefEqProofs;rfl
 by_cases h2:p=2
 .subst h2;have e:A1w 2 k=(decide (k=3)||decide (k=4)||decide (k=7)):=by simp[A1w,A3D,Z3T]
  rw[e];by_cases k1:k=3
  .simp -dsimp -implicitDefEqProofs[k1]
  .by_cases k2:k=4
   .simp -dsimp -implicitDefEqProofs[k1,k2]
   .simp -dsimp -implicitDefEqProofs[k1,k2];rfl
 by_cases h3:p=3
 .subst h3;have e:A1w 3 k=(decide (k=3)||decide (k=4)||decide (k=7)):=by simp[A1w,A3D,Z3T]
  rw[e];by_cases k1:k=3
  .simp -dsimp -implicitDefEqProofs[k1]
  .by_cases k2:k=4
   .simp -dsimp -implicitDefEqProofs[k1,k2]
   .simp -dsimp -implicitDefEqProofs[k1,k2];rfl
 by_cases h4:p=4
 .subst h4;have e:A1w 4 k=decide (k=5):=by simp[A1w,A3D]
  rw[e];simp -dsimp -implicitDefEqProofs;rfl
 by_cases h5:p=5
 .subst h5;have e:A1w 5 k=decide (k=6):=by simp[A1w,A3D]
  rw[e];simp -dsimp -implicitDefEqProofs;rfl
 .have e:A1w p k=false:=by
   by_cases q:0<=p/\p<8
   ·(have:p=6\/p=7:=by omega);rcases this with rfl|rfl<;>simp[A1w,A3D]
   .simp only[A1w,Z2A,Z1n];omega
  simp -dsimp -implicitDefEqProofs[h0,h1,h2,h3,h4,h5,e]
def C9N(s:ByteArray)(hs:s.size<=maxLen):A0e (WC gl) 349 [S s] M (λv M'=>v=B (A2H s)/\M'=M):=by
 have hs:s.size<=9223372036854775807:=hs;refine A0k hB func349 ?_;have hw:A2H s=(decide (1<=s.size)&&decide (s.size<=24)&&decide (A1y (A0U 33 126) s s.size 0<0)):=rfl;simp -dsimp -implicitDefEqProofs;refine A0s hB s.size 3 (λT M1=>∃i:Nat,i<=s.size/\M1=M/\T 0=S s/\T 3=I i/\A1y (A0U 33 126) s s.size 0=A1y (A0U 33 126) s (s.size-i) i) ?_ ?_
 .exact⟨0,by omega,rfl,by simp,by simp,by simp⟩
 rintro T M1 ⟨i,i1,rfl,t0,t3,ho⟩;by_cases hi:i<s.size
 .have a:(i:Int)<s.size:=by omega
  have w1:IntKind.i64.wrap ((i:Int)+1)=(i+1:Nat):=by rw[A0H (by omega) (by omega)];omega
  rw[B3i _ _ hi]at ho;generalize hc:A0T s i=c at*;by_cases c1:c<33
  ·(have hp:A0U 33 126 c=true:=by simp[A0U,c1]);rw[hp,Z0d rfl]at ho
   (have hn:¬A1y (A0U 33 126) s s.size 0<0:=by rw[ho];omega);rw[Z0k hn,Z1H]at hw
   simp -dsimp -implicitDefEqProofs[t0,t3,hi,a,hc,c1,hw]
  .by_cases c2:c>126
   ·(have hp:A0U 33 126 c=true:=by simp[A0U];omega);rw[hp,Z0d rfl]at ho
    (have hn:¬A1y (A0U 33 126) s s.size 0<0:=by rw[ho];omega);rw[Z0k hn,Z1H]at hw
    have b:126<c:=c2;simp -dsimp -implicitDefEqProofs[t0,t3,hi,a,hc,c1,c2,b,hw]
   ·(have hp:A0U 33 126 c=false:=by simp[A0U];omega);rw[hp,Z0e (by simp)]at ho
    have b:¬126<c:=c2;simp -dsimp -implicitDefEqProofs[t0,t3,hi,a,hc,c1,c2,b,w1];exact⟨⟨i+1,by clear w1;omega,rfl,ho⟩,by clear w1;omega⟩
 .have a:¬(i:Int)<s.size:=by omega
  rw[show s.size-i=0 by omega]at ho;have hn:A1y (A0U 33 126) s s.size 0<0:=by rw[ho,A1y];omega
  rw[Z0p hn,Z2p]at hw;by_cases h1:1<=s.size
  ·(have d:(1:Int)<=s.size:=by omega);rw[Z0p h1,Z0s]at hw
   simp -dsimp -implicitDefEqProofs[t0,t3,a,d,hw];omega
  ·(have d:¬(1:Int)<=s.size:=by omega);rw[Z0k h1,Z0q]at hw
   simp -dsimp -implicitDefEqProofs[t0,t3,a,d,hw]
def C5k(ws:List A0G)(hl:ws.length<=100000000)(hs:∀w∈ws,w.text.size<=maxLen):A0e (WC gl) 279 [.list 4 (A0g ws) .no] M (λv M'=>v=B (A3l ws)/\M'=M):=by
 refine A0k hB func279 ?_;have hw:A3l ws=(decide (ws.length<=256)&&ws.all λw=>A2H w.text):=rfl;simp -dsimp -implicitDefEqProofs;refine A0s hB ws.length 3 (λT M1=>∃i:Nat,i<=ws.length/\M1=M/\T 0=.list 4 (A0g ws) .no/\T 3=I i/\(ws.all λw=>A2H w.text)=(ws.drop i).all λw=>A2H w.text) ?_ ?_
 .exact⟨0,by omega,rfl,by simp,by simp,by simp⟩
 rintro T M1 ⟨i,i1,rfl,t0,t3,ho⟩;by_cases hi:i<ws.length
 .have a:(i:Int)<ws.length:=by omega
  have w1:IntKind.i64.wrap ((i:Int)+1)=(i+1:Nat):=by rw[A0H (by omega) (by omega)];omega
  have hd:ws.drop i=ws[i]::ws.drop (i+1):=Z0h hi;rw[hd,Z1k]at ho;simp -dsimp -implicitDefEqProofs[t0,t3,hi,a,A0G.row];refine A0i func349 (C9N gl _ ws[i].text (hs _ (Z0v hi))) ?_;cases hp:A2H ws[i].text
  .rw[hp,Z0q]at ho;rw[ho,Z1H]at hw;simp -dsimp -implicitDefEqProofs[t0,t3,hw]
  .rw[hp,Z0s]at ho;simp -dsimp -implicitDefEqProofs[t0,t3,w1];exact⟨⟨i+1,by clear w1;omega,rfl,ho⟩,by clear w1;omega⟩
 .have a:¬(i:Int)<ws.length:=by omega
  rw[show ws.drop i=[]from Z0n (by omega)]at ho;rw[ho]at hw;simp -dsimp -implicitDefEqProofs[t0,t3,a,hw];omega
def B6Y(u:A0b)(hg:u.good)(hl:u.lim):A0e (WC gl) 229 [.agg u.row] M (λv M'=>v=B (A7Y u)/\M'=M):=by
 obtain⟨_,_,g,_,d,_,f,_,l⟩:=(A0b.good_iff _).1 hg;obtain⟨h,i,k,j⟩:=hl;obtain⟨R,hR⟩:∃R,R=A7Y u:=⟨_,rfl⟩;have a:R=if u.kind=0 then decide (u.label.size=0)&&decide (u.head.length=0)&&decide (u.words.length=0)else decide (0<u.kind/\u.kind<=7)&&A0K u.label&&A3l u.head&&A3l u.words:=hR;rw[<-hR,u.row_eq];clear hR;refine A0k hB func229 ?_;by_cases k0:u.kind=0
 .rw[Z0d k0]at a;by_cases h1:u.label=⟨#[]⟩
  .rw[Z0p (A4G.1 h1),Z0s]at a;by_cases h2:u.head.length=0
   ·(have b:(u.head.length:Int)=0:=by omega);rw[Z0p h2,Z0s]at a
    by_cases h5:u.words.length=0
    ·(have c:(u.words.length:Int)=0:=by omega);rw[Z0p h5]at a
     simp -dsimp -implicitDefEqProofs[Z0J k0,Z0J h1,Z0J b,Z0J h2,Z0J h5,Z0J c,a]
    ·(have c:¬(u.words.length:Int)=0:=by omega);rw[Z0k h5]at a
     simp -dsimp -implicitDefEqProofs[Z0J k0,Z0J h1,Z0J b,Z0J h2,h5,c,a]
   ·(have b:¬(u.head.length:Int)=0:=by omega);rw[Z0k h2,Z0q]at a
    simp -dsimp -implicitDefEqProofs[Z0J k0,Z0J h1,b,h2,a]
  .rw[Z0k (λe=>h1 (A4G.2 e)),Z0q,Z0q]at a;simp -dsimp -implicitDefEqProofs[Z0J k0,h1,a]
 rw[Z0e k0]at a;by_cases a1:0<u.kind;case neg=>rw[Z0k (show¬(0<u.kind/\u.kind<=7)by omega)]at a;simp only[Z0q]at a;simp -dsimp -implicitDefEqProofs[k0,a1,a]
 by_cases a2:u.kind<=7;case neg=>rw[Z0k (show¬(0<u.kind/\u.kind<=7)by omega)]at a;simp only[Z0q]at a;simp -dsimp -implicitDefEqProofs[k0,a1,a2,a]
 rw[Z0p (show 0<u.kind/\u.kind<=7 by omega),Z0s]at a;simp -dsimp -implicitDefEqProofs[k0,a1,a2];refine A0i func105 (A7E gl M u.label g) ?_;cases h1:A0K u.label;case false=>rw[h1]at a;simp only[Z0q]at a;simp -dsimp -implicitDefEqProofs[a]
 rw[h1,Z0s]at a;simp -dsimp -implicitDefEqProofs;refine A0i func279 (C5k gl M u.head h (λw hw=>(d w hw).1)) ?_;cases h3:A3l u.head;case false=>rw[h3,Z0q]at a;simp -dsimp -implicitDefEqProofs[a]
 rw[h3,Z0s]at a;simp -dsimp -implicitDefEqProofs;refine A0i func279 (C5k gl M u.words i (λw hw=>(f w hw).1)) ?_;simp -dsimp -implicitDefEqProofs[a]
end
section
variable (gl:Nat->AV)
set_option maxHeartbeats 1000000 in
def B3p:∀(u:A0b) (d:Nat) (M:Mem),u.good->u.lims->d<=9->A0e (WC gl) 186 [.agg u.row,I d] M (λv M'=>v=B (B0F d u)/\M'=M)
 |.mk id kind lab hd ws ks,d,M,hg,hl,hdn=>by
  have ai:=hg;obtain⟨_,_,ah,_,af,_,ag,_,a7⟩:=(A0b.good_iff _).1 hg;have a7:∀k∈ks,k.good:=a7;rw[A0b.lims]at hl;obtain⟨a9,a6⟩:=hl;have a6:=A7d.1 a6;have aj:ks.length<=1000:=a9.2.2.1;have ae:(A0b.mk id kind lab hd ws ks).row=[I id.act,I id.item,I id.n,I kind,S lab,.list 4 (A0g hd) .no,.list 4 (A0g ws) .no,.list 8 (A0O ks) .no]:=by rw[A0b.row]
  have aa:=λM=>B6Y gl M (.mk id kind lab hd ws ks) hg a9;obtain⟨R,hR⟩:∃R,R=B0F d (.mk id kind lab hd ws ks):=⟨_,rfl⟩;have b:R=(!decide (8<d)&&!(decide (0<d)&&decide (kind=0))&&A7Y (.mk id kind lab hd ws ks)&&decide (ks.length<=64)&&A6G kind d ks []):=by rw[hR,B0F]
  rw[<-hR];rw[ae]at aa|-;clear hR;refine A0e.dataX ?_;refine A0k hB func186 ?_;by_cases a1:8<d
  ·(have r:(8:Int)<d:=by omega);have a5:(d:Int)>8:=r
   rw[Z0p a1]at b;simp only[Z1s,Z0q]at b;simp -dsimp -implicitDefEqProofs[r,a5,b];exact⟨A0c.refl _ _,.same trivial .nil⟩
  have r:¬(8:Int)<d:=by omega
  have a5:¬(d:Int)>8:=r;rw[Z0k a1,Z1j,Z0s]at b;by_cases a2:0<d
  ·(have a0:(0:Int)<d:=by omega);have a8:(d:Int)>0:=a0
   by_cases a3:kind=0
   .rw[Z0p a2,Z0p a3]at b;simp only[Z3U,Z1s,Z0q]at b;simp -dsimp -implicitDefEqProofs[r,a5,a2,a0,a8,Z0J a3,b];exact⟨A0c.refl _ _,.same trivial .nil⟩
   rw[Z0p a2,Z0k a3,Z1H,Z1j,Z0s]at b;simp -dsimp -implicitDefEqProofs[r,a5,a2,a0,a8,a3];refine A0i func229 (aa M) ?_;cases ha:A7Y (.mk id kind lab hd ws ks);(case false=>rw[ha]at b;simp only[Z0q,Z1H]at b;simp -dsimp -implicitDefEqProofs[a3,b];exact⟨A0c.refl _ _,.same trivial .nil⟩);by_cases a4:ks.length<=64;case neg=>
    (have g:(64:Int)<ks.length:=by omega);have y:(ks.length:Int)>64:=g
    rw[Z0k a4]at b;simp only[Z0q,Z1H]at b;simp -dsimp -implicitDefEqProofs[a3,g,y,b];exact⟨A0c.refl _ _,.same trivial .nil⟩
   (have g:¬(64:Int)<ks.length:=by omega);have y:¬(ks.length:Int)>64:=g
   rw[ha,Z0p a4,Z0s,Z0s]at b;simp -dsimp -implicitDefEqProofs[a3,g,y];refine A0s hB ks.length 5 (λT M1=>∃i:Nat,i<=ks.length/\T 1=I d/\T 2=.cptr [I id.act,I id.item,I id.n,I kind,S lab,.list 4 (A0g hd) .no,.list 4 (A0g ws) .no,.list 8 (A0O ks) .no]/\T 5=I i/\Grow M M1/\A6G kind d ks []=A6G kind d (ks.drop i) (ks.take i)) ?_ ?_
   .exact⟨0,by omega,by simp,by simp,by simp,A0c.refl _ _,by simp⟩
   rintro T M1 ⟨i,i1,t1,t2,t5,s,ho⟩;by_cases hi:i<ks.length;case neg=>
    (have f:¬(i:Int)<ks.length:=by omega);rw[show ks.drop i=[]from Z0n (by omega),A6G]at ho
    rw[ho]at b;simp -dsimp -implicitDefEqProofs[t1,t2,t5,f,b];exact⟨s,.same trivial .nil⟩
   (have f:(i:Int)<ks.length:=by omega);have w1:=A1i (i:=i) (by omega)
   have w3:=A1i (i:=d) (by omega);have l:ks[i]∈ks:=Z0v hi;have ac:ks.drop i=ks[i]::ks.drop (i+1):=Z0h hi;rw[ac,A6G]at ho;(have ad:ks.take i++[ks[i]]=ks.take (i+1):=by rw[Z2f,Z0m hi,Z2P]);rw[ad]at ho;obtain⟨X,hX⟩:∃X,X=ks[i]:=⟨_,rfl⟩;(have h:ks[i].row=[I X.id.act,I X.id.item,I X.id.n,I X.kind,S X.label,.list 4 (A0g X.head) .no,.list 4 (A0g X.words) .no,.list 8 (A0O X.kids) .no]:=by rw[<-hX];exact X.row_eq);rw[<-hX]at ho;have m:=λM=>B3p ks[i] (d+1) M (a7 _ l) (a6 _ l) (by omega);simp only[h]at m;rw[<-hX]at m;obtain⟨M2,p⟩:∃M2,M2=M1++[A0p.cells 27 [I X.id.act,I X.id.item,I X.id.n,I X.kind,S X.label,.list 4 (A0g X.head) .no,.list 4 (A0g X.words) .no,.list 8 (A0O X.kids) .no]]:=⟨_,rfl⟩;(have c:M2[M1.length]?=some (.cells 27 [I X.id.act,I X.id.item,I X.id.n,I X.kind,S X.label,.list 4 (A0g X.head) .no,.list 4 (A0g X.words) .no,.list 8 (A0O X.kids) .no]):=by rw[p];simp);(have e:Grow M M2:=by rw[p];exact s.trans (A0c.app none _ _));obtain⟨q,hq⟩:∃q,q=M1.length:=⟨_,rfl⟩;simp -dsimp -implicitDefEqProofs[t1,t2,t5,hi,f,h,A0o,A0l,A0d,AV.storable,AV.cells];rw[<-p,<-hq];rw[<-hq]at c;clear p s hq;simp -dsimp -implicitDefEqProofs[t1,t2,t5,A0a c];refine A0i func230 (B8q gl M2 kind X.kind) ?_;cases hn:A1w kind X.kind;(case false=>rw[hn]at ho;simp only[Z0q]at ho;rw[ho]at b;simp -dsimp -implicitDefEqProofs[t1,t2,t5,b];exact⟨e,.same trivial .nil⟩);rw[hn,Z0s]at ho;have:=A0b.kid_lt (u:=.mk id kind lab hd ws ks) l;simp -dsimp -implicitDefEqProofs[t1,t2,t5,A0a c,w3];refine A0i func186 (m M2) ?_;cases hrt:B0F (d+1) X;(case false=>rw[hrt]at ho;simp only[Z0q]at ho;rw[ho]at b;simp -dsimp -implicitDefEqProofs[t1,t2,t5,b];exact⟨e,.same trivial .nil⟩);rw[hrt,Z0s]at ho;simp -dsimp -implicitDefEqProofs[t1,t2,t5];refine A2o hB (λT2 M3=>∃j:Nat,j<=i/\T2 1=I d/\T2 2=.cptr [I id.act,I id.item,I id.n,I kind,S lab,.list 4 (A0g hd) .no,.list 4 (A0g ws) .no,.list 8 (A0O ks) .no]/\T2 5=I i/\T2 6=.ptr q 0/\T2 7=I j/\M3=M2/\((ks.take i).any λa=>A2M a X)=(((ks.take i).drop j).any λa=>A2M a X)) (λT M1=>match T 7 with|.val (.int _ j)=>i-j.toNat|_=>0) (by kernel_rfl) ?_ ?_
   .exact⟨0,by omega,by simp[t1],by simp[t2],by simp[t5],by simp,by simp,rfl,by simp⟩
   rintro T2 M3 ⟨j,j1,u1,u2,u5,u6,u7,rfl,hb⟩;by_cases hj:j<i;case neg=>
    (have z:¬(j:Int)<i:=by omega);rw[show(ks.take i).drop j=[]from Z0n (by simp;omega),Z2J]at hb
    rw[hb,Z1j,Z0s]at ho;simp -dsimp -implicitDefEqProofs[u1,u2,u5,u7,z,w1,t5];exact⟨⟨i+1,by clear w1;omega,rfl,e,ho⟩,by clear w1;omega⟩
   (have z:(j:Int)<i:=by omega);have t:j<ks.length:=by omega
   (have o:(j:Int)<ks.length:=by omega);have w2:=A1i (i:=j) (by omega)
   (have ab:(ks.take i).drop j=ks[j]::(ks.take i).drop (j+1):=by rw[Z0h (by simp;omega)];simp);rw[ab,Z1V]at hb
   obtain⟨Y,hY⟩:∃Y,Y=ks[j]:=⟨_,rfl⟩;(have w:ks[j].row=[I Y.id.act,I Y.id.item,I Y.id.n,I Y.kind,S Y.label,.list 4 (A0g Y.head) .no,.list 4 (A0g Y.words) .no,.list 8 (A0O Y.kids) .no]:=by rw[<-hY];exact Y.row_eq);rw[<-hY]at hb;simp -dsimp -implicitDefEqProofs[u1,u2,u5,u7,z];refine A2E hB (A0w gl) (λk=>if k=7\/k=17 then 1 else 0) (λ_=>q) (λ_=>false) [q] (by intros;simp) (by rfl) (by kernel_rfl) ?_;by_cases c1:Y.kind=X.kind
   .by_cases c2:Y.label=X.label
    ·(have hs:A2M Y X=true:=by simp[A2M,c1,c2]);rw[hs,Z1F]at hb
     rw[hb,Z1s,Z0q]at ho;rw[ho]at b;simp -dsimp -implicitDefEqProofs[u1,u2,u5,u6,u7,hi,f,t,o,h,w,Z0J c1,Z0J c2,A0y,A4e,A0a c,b];exact⟨e,.same trivial .nil⟩
    ·(have hs:A2M Y X=false:=by simp[A2M,c2]);rw[hs,Z0X]at hb
     simp -dsimp -implicitDefEqProofs[u1,u2,u5,u6,u7,hi,f,t,o,h,w,Z0J c1,c2,A0y,A4e,A0a c,w2];exact⟨⟨j+1,by clear w2;omega,rfl,hb⟩,by clear w2;omega⟩
   ·(have hs:A2M Y X=false:=by simp[A2M,c1]);rw[hs,Z0X]at hb
    simp -dsimp -implicitDefEqProofs[u1,u2,u5,u6,u7,hi,f,t,o,h,w,c1,A0y,A4e,A0a c,w2];exact⟨⟨j+1,by clear w2;omega,rfl,hb⟩,by clear w2;omega⟩
  have a0:¬(0:Int)<d:=by omega
  have a8:¬(d:Int)>0:=a0;rw[Z0k a2,Z0q,Z1j,Z0s]at b;simp -dsimp -implicitDefEqProofs[r,a5,a2,a0,a8];refine A0i func229 (aa M) ?_;cases ha:A7Y (.mk id kind lab hd ws ks);case false=>rw[ha]at b;simp only[Z0q,Z1H]at b;simp -dsimp -implicitDefEqProofs[b];exact⟨A0c.refl _ _,.same trivial .nil⟩
  by_cases a4:ks.length<=64;case neg=>
   (have g:(64:Int)<ks.length:=by omega);have y:(ks.length:Int)>64:=g
   rw[Z0k a4]at b;simp only[Z0q,Z1H]at b;simp -dsimp -implicitDefEqProofs[g,y,b];exact⟨A0c.refl _ _,.same trivial .nil⟩
  have g:¬(64:Int)<ks.length:=by omega
  have y:¬(ks.length:Int)>64:=g;rw[ha,Z0p a4,Z0s,Z0s]at b;simp -dsimp -implicitDefEqProofs[g,y];refine A0s hB ks.length 5 (λT M1=>∃i:Nat,i<=ks.length/\T 1=I d/\T 2=.cptr [I id.act,I id.item,I id.n,I kind,S lab,.list 4 (A0g hd) .no,.list 4 (A0g ws) .no,.list 8 (A0O ks) .no]/\T 5=I i/\Grow M M1/\A6G kind d ks []=A6G kind d (ks.drop i) (ks.take i)) ?_ ?_
  .exact⟨0,by omega,by simp,by simp,by simp,A0c.refl _ _,by simp⟩
  rintro T M1 ⟨i,i1,t1,t2,t5,s,ho⟩;by_cases hi:i<ks.length;case neg=>
   (have f:¬(i:Int)<ks.length:=by omega);rw[show ks.drop i=[]from Z0n (by omega),A6G]at ho
   rw[ho]at b;simp -dsimp -implicitDefEqProofs[t1,t2,t5,f,b];exact⟨s,.same trivial .nil⟩
  have f:(i:Int)<ks.length:=by omega
  have w1:=A1i (i:=i) (by omega);have w3:=A1i (i:=d) (by omega);have l:ks[i]∈ks:=Z0v hi;have ac:ks.drop i=ks[i]::ks.drop (i+1):=Z0h hi;rw[ac,A6G]at ho;have ad:ks.take i++[ks[i]]=ks.take (i+1):=by rw[Z2f,Z0m hi,Z2P]
  rw[ad]at ho;obtain⟨X,hX⟩:∃X,X=ks[i]:=⟨_,rfl⟩;have h:ks[i].row=[I X.id.act,I X.id.item,I X.id.n,I X.kind,S X.label,.list 4 (A0g X.head) .no,.list 4 (A0g X.words) .no,.list 8 (A0O X.kids) .no]:=by rw[<-hX];exact X.row_eq
  rw[<-hX]at ho;have m:=λM=>B3p ks[i] (d+1) M (a7 _ l) (a6 _ l) (by omega);simp only[h]at m;rw[<-hX]at m;obtain⟨M2,p⟩:∃M2,M2=M1++[A0p.cells 27 [I X.id.act,I X.id.item,I X.id.n,I X.kind,S X.label,.list 4 (A0g X.head) .no,.list 4 (A0g X.words) .no,.list 8 (A0O X.kids) .no]]:=⟨_,rfl⟩;have c:M2[M1.length]?=some (.cells 27 [I X.id.act,I X.id.item,I X.id.n,I X.kind,S X.label,.list 4 (A0g X.head) .no,.list 4 (A0g X.words) .no,.list 8 (A0O X.kids) .no]):=by rw[p];simp
  have e:Grow M M2:=by rw[p];exact s.trans (A0c.app none _ _)
  obtain⟨q,hq⟩:∃q,q=M1.length:=⟨_,rfl⟩;simp -dsimp -implicitDefEqProofs[t1,t2,t5,hi,f,h,A0o,A0l,A0d,AV.storable,AV.cells];rw[<-p,<-hq];rw[<-hq]at c;clear p s hq;simp -dsimp -implicitDefEqProofs[t1,t2,t5,A0a c];refine A0i func230 (B8q gl M2 kind X.kind) ?_;cases hn:A1w kind X.kind;case false=>rw[hn]at ho;simp only[Z0q]at ho;rw[ho]at b;simp -dsimp -implicitDefEqProofs[t1,t2,t5,b];exact⟨e,.same trivial .nil⟩
  rw[hn,Z0s]at ho;have:=A0b.kid_lt (u:=.mk id kind lab hd ws ks) l;simp -dsimp -implicitDefEqProofs[t1,t2,t5,A0a c,w3];refine A0i func186 (m M2) ?_;cases hrt:B0F (d+1) X;case false=>rw[hrt]at ho;simp only[Z0q]at ho;rw[ho]at b;simp -dsimp -implicitDefEqProofs[t1,t2,t5,b];exact⟨e,.same trivial .nil⟩
  rw[hrt,Z0s]at ho;simp -dsimp -implicitDefEqProofs[t1,t2,t5];refine A2o hB (λT2 M3=>∃j:Nat,j<=i/\T2 1=I d/\T2 2=.cptr [I id.act,I id.item,I id.n,I kind,S lab,.list 4 (A0g hd) .no,.list 4 (A0g ws) .no,.list 8 (A0O ks) .no]/\T2 5=I i/\T2 6=.ptr q 0/\T2 7=I j/\M3=M2/\((ks.take i).any λa=>A2M a X)=(((ks.take i).drop j).any λa=>A2M a X)) (λT M1=>match T 7 with|.val (.int _ j)=>i-j.toNat|_=>0) (by kernel_rfl) ?_ ?_
  .exact⟨0,by omega,by simp[t1],by simp[t2],by simp[t5],by simp,by simp,rfl,by simp⟩
  rintro T2 M3 ⟨j,j1,u1,u2,u5,u6,u7,rfl,hb⟩;by_cases hj:j<i;case neg=>
   (have z:¬(j:Int)<i:=by omega);rw[show(ks.take i).drop j=[]from Z0n (by simp;omega),Z2J]at hb
   rw[hb,Z1j,Z0s]at ho;simp -dsimp -implicitDefEqProofs[u1,u2,u5,u7,z,w1,t5];exact⟨⟨i+1,by clear w1;omega,rfl,e,ho⟩,by clear w1;omega⟩
  have z:(j:Int)<i:=by omega
  have t:j<ks.length:=by omega
  have o:(j:Int)<ks.length:=by omega
  have w2:=A1i (i:=j) (by omega);have ab:(ks.take i).drop j=ks[j]::(ks.take i).drop (j+1):=by rw[Z0h (by simp;omega)];simp
  rw[ab,Z1V]at hb;obtain⟨Y,hY⟩:∃Y,Y=ks[j]:=⟨_,rfl⟩;have w:ks[j].row=[I Y.id.act,I Y.id.item,I Y.id.n,I Y.kind,S Y.label,.list 4 (A0g Y.head) .no,.list 4 (A0g Y.words) .no,.list 8 (A0O Y.kids) .no]:=by rw[<-hY];exact Y.row_eq
  rw[<-hY]at hb;simp -dsimp -implicitDefEqProofs[u1,u2,u5,u7,z];refine A2E hB (A0w gl) (λk=>if k=7\/k=17 then 1 else 0) (λ_=>q) (λ_=>false) [q] (by intros;simp) (by rfl) (by kernel_rfl) ?_;by_cases c1:Y.kind=X.kind
  .by_cases c2:Y.label=X.label
   ·(have hs:A2M Y X=true:=by simp[A2M,c1,c2]);rw[hs,Z1F]at hb
    rw[hb,Z1s,Z0q]at ho;rw[ho]at b;simp -dsimp -implicitDefEqProofs[u1,u2,u5,u6,u7,hi,f,t,o,h,w,Z0J c1,Z0J c2,A0y,A4e,A0a c,b];exact⟨e,.same trivial .nil⟩
   ·(have hs:A2M Y X=false:=by simp[A2M,c2]);rw[hs,Z0X]at hb
    simp -dsimp -implicitDefEqProofs[u1,u2,u5,u6,u7,hi,f,t,o,h,w,Z0J c1,c2,A0y,A4e,A0a c,w2];exact⟨⟨j+1,by clear w2;omega,rfl,hb⟩,by clear w2;omega⟩
  ·(have hs:A2M Y X=false:=by simp[A2M,c1]);rw[hs,Z0X]at hb
   simp -dsimp -implicitDefEqProofs[u1,u2,u5,u6,u7,hi,f,t,o,h,w,c1,A0y,A4e,A0a c,w2];exact⟨⟨j+1,by clear w2;omega,rfl,hb⟩,by clear w2;omega⟩
termination_by u=>SizeOf.sizeOf u
end
def D5I(s:ByteArray):s++⟨#[]⟩=s:=by apply Z4y;simp[Z4t]
def C2n(s:ByteArray)(ws:List A0G):s++A5r ⟨#[]⟩ ws=A5r s ws:=by rw[<-D1T,D5I]
section
variable (gl:Nat->AV)
def B5H(u:A0b)(M:Mem)(hf:Fit u):A0e (WC gl) 130 [.agg u.row] M (λv M'=>v=B (A7u u)/\M'=M):=by
 obtain⟨hg,hl,hc⟩:=hf;have hs:=λM=>B3p gl u 0 M hg hl (by omega);have hn:=λM=>B8A gl u M hg hc;have hR:=D1C u;have h3:A0x u<=1024:=by omega
 have a:(A0x u:Int)<=1024:=by omega
 rw[Z0p h3,Z2p]at hR;rw[hR]at hs;clear hR;rw[u.row_eq]at hs hn|-;refine A0k hB func130 ?_;simp -dsimp -implicitDefEqProofs;refine A0i func186 (hs M) ?_;cases hfm:A7u u
 .simp -dsimp -implicitDefEqProofs
 .simp -dsimp -implicitDefEqProofs;refine A0i func187 (hn M) ?_;simp -dsimp -implicitDefEqProofs[a]
def C6t(M:Mem):A0e (WC gl) 280 [] M (λv M'=>v=.list 1 (A0F A4n) .full/\M'=M):=by refine A0k hB func280 ?_;simp -dsimp -implicitDefEqProofs[A0h,A0J,AV.storable,AV.cells];rfl
def C5Y(ws:List A0G)(M:Mem)(hl:ws.length<=1000000)(hw:∀w∈ws,1<=w.text.size/\w.text.size<=24):A0e (WC gl) 281 [.list 4 (A0g ws) .no] M (λv M'=>v=S (A5r ⟨#[]⟩ ws)/\M'=M):=by
 refine A0k hB func281 ?_
 simp -dsimp -implicitDefEqProofs
 refine A0s hB ws.length 4 (λT M1=>∃i:Nat,i<=ws.length/\M1=M/\T 0=.list 4 (A0g ws) .no/\T 3=S (A5r ⟨#[]⟩ (ws.take i))/\T 4=I i) ?_ ?_
 .exact⟨0,by omega,rfl,by simp,by simp[A5r],by simp⟩
 rintro T M1 ⟨i,i1,rfl,t0,t3,t4⟩
 by_cases hi:i<ws.length
 case neg=>
  have a:¬(i:Int)<ws.length:=by omega
  rw[Z0l (by omega)]at t3;simp -dsimp -implicitDefEqProofs[t0,t3,t4,a]
 have a:(i:Int)<ws.length:=by omega
 have w1:=A1i (i:=i) (by omega)
 have hp:A5r ⟨#[]⟩ (ws.take (i+1))=A5r ⟨#[]⟩ (ws.take i)++⟨#[32]⟩++B0M ws[i].text:=by rw[Z0A hi,A5r,Z2n];rfl
 obtain⟨h1,h2⟩:=hw _ (Z0v hi)
 obtain⟨p,d⟩:∃p,p=A5r ⟨#[]⟩ (ws.take i):=⟨_,rfl⟩
 have e:p.size<=27000000:=by have:=A6m (ws.take i) ⟨#[]⟩ λw h=>(hw w (Z1r h)).2;rw[<-d]at this;have e0:(⟨#[]⟩:ByteArray).size=0:=rfl;rw[e0]at this;simp at this;omega
 have c:(⟨#[32]⟩:ByteArray).size=1:=rfl
 have b:(⟨#[92]⟩:ByteArray).size=1:=rfl
 have b0:¬(9223372036854775807:Int)<1+ws[i].text.size:=by omega
 have b1:¬(9223372036854775807:Int)<p.size+1:=by omega
 have b3:¬(9223372036854775807:Int)<p.size+1+ws[i].text.size:=by omega
 have b4:¬(9223372036854775807:Int)<p.size+1+(1+ws[i].text.size):=by omega
 have b5:0<ws[i].text.size:=h1
 rw[<-d]at t3 hp
 by_cases c1:A0T ws[i].text 0=124
 .have he:B0M ws[i].text=⟨#[92]⟩++ws[i].text:=by rw[B0M,Z0d (.inl c1)]
  rw[he]at hp;simp -dsimp -implicitDefEqProofs[t0,t3,t4,a,hi,A0G.row,c,b,Z0x,b0,b1,b3,b4,b5,c1,w1];exact⟨⟨i+1,by clear w1;omega,by rw[hp],rfl⟩,by clear w1;omega⟩
 by_cases c2:A0T ws[i].text 0=92
 .have he:B0M ws[i].text=⟨#[92]⟩++ws[i].text:=by rw[B0M,Z0d (.inr c2)]
  rw[he]at hp;simp -dsimp -implicitDefEqProofs[t0,t3,t4,a,hi,A0G.row,c,b,Z0x,b0,b1,b3,b4,b5,c1,c2,w1];exact⟨⟨i+1,by clear w1;omega,by rw[hp],rfl⟩,by clear w1;omega⟩
 have he:B0M ws[i].text=ws[i].text:=by rw[B0M,Z0e (by simp[c1,c2])]
 rw[he]at hp
 simp -dsimp -implicitDefEqProofs[t0,t3,t4,a,hi,A0G.row,c,b,Z0x,b0,b1,b3,b4,b5,c1,c2,w1]
 exact⟨⟨i+1,by clear w1;omega,by rw[hp],rfl⟩,by clear w1;omega⟩
end
section
variable (gl:Nat->AV)
def C8O(u:A0b)(d:Nat)(M:Mem)(hf:Fit u)(ha:A4t u=true)(hd:d<=8):A0e (WC gl) 231 [.agg u.row,I d] M (λv M'=>v=S (A3w u d)/\M'=M):=by
 obtain⟨hk,hh,hw⟩:=A8Y ha
 obtain⟨z,s⟩:=A7D hh
 obtain⟨o,m⟩:=A7D hw
 have l:=(A7B u hf.2.1).1
 have a7:=l.2.2.2
 have p:=λM=>B6Y gl M u hf.1 l
 have a4:A7Y u=true:=by rw[C5E,Z0f]at ha;exact ha.1
 rw[a4]at p
 have j:(⟨#[32]⟩:ByteArray).size=1:=rfl
 have e:(⟨#[58]⟩:ByteArray).size=1:=rfl
 have e3:(⟨#[32,124]⟩:ByteArray).size=2:=rfl
 have e2:(⟨#[32,32]⟩:ByteArray).size=2:=rfl
 have ab:=A8E d
 have key:∀n:Fin 8,(A4n.getD n.val ⟨#[]⟩).size<=9:=by decide
 have a3:=key ⟨u.kind.toNat,by omega⟩
 have y:A7F u d=A8D d++A4n.getD u.kind.toNat ⟨#[]⟩:=rfl
 simp only at a3
 have b1:¬(9223372036854775807:Int)<(A8D d).size+(A4n.getD u.kind.toNat ⟨#[]⟩).size:=by omega
 have aa:(A7F u d).size<=2*d+9:=by rw[y,Z0x];omega
 have ad:(A5m u d).size<=2*d+1010:=by
  unfold A5m;split
  .omega
  .rw[Z0x,Z0x,j];omega
 have e0:(⟨#[]⟩:ByteArray).size=0:=rfl
 have a0:∀ws:List A0G,ws.length<=256->(∀w∈ws,1<=w.text.size/\w.text.size<=24)->(A5r ⟨#[]⟩ ws).size<=6656:=λws h1 h2=>by have:=A6m ws ⟨#[]⟩ λw h=>(h2 w h).2;rw[e0]at this;omega
 have ph:=a0 u.head z s
 have pw:=a0 u.words o m
 have a9:(A4a u d).size<=2*d+7700:=by
  unfold A4a;split
  .omega
  .have:=A6m u.head (A5m u d++⟨#[58]⟩) (λw h=>(s w h).2);rw[Z0x,e]at this;omega
 have b2:¬(9223372036854775807:Int)<(A7F u d).size+1:=by omega
 have b3:¬(9223372036854775807:Int)<(A7F u d).size+1+u.label.size:=by omega
 have b4:¬(9223372036854775807:Int)<(A5m u d).size+1:=by omega
 have b5:¬(9223372036854775807:Int)<(A4a u d).size+2:=by omega
 have b6:¬(9223372036854775807:Int)<(A5m u d).size+1+(A5r ⟨#[]⟩ u.head).size:=by omega
 have b7:¬(9223372036854775807:Int)<(A4a u d).size+2+(A5r ⟨#[]⟩ u.words).size:=by omega
 have a:∀ws:List A0G,ws.length<=256->(∀w∈ws,1<=w.text.size/\w.text.size<=24)->∀M,A0e (WC gl) 281 [.list 4 (A0g ws) .no] M (λv M'=>v=S (A5r ⟨#[]⟩ ws)/\M'=M):=λws h1 h2 M=>C5Y gl ws M (by omega) h2
 have d1:¬(d:Int)<0:=by omega
 have d2:¬(8:Int)<d:=by omega
 have d3:¬(d:Int)>8:=d2
 rw[u.row_eq]at p|-
 refine A0k hB func231 ?_
 simp -dsimp -implicitDefEqProofs[d1,d2,d3]
 refine A0i func229 (p M) ?_
 simp -dsimp -implicitDefEqProofs
 refine A0s hB d 6 (λT M1=>∃i:Nat,i<=d/\T 1=I d/\T 2=.cptr [I u.id.act,I u.id.item,I u.id.n,I u.kind,S u.label,.list 4 (A0g u.head) .no,.list 4 (A0g u.words) .no,.list 8 (A0O u.kids) .no]/\T 5=S (A8D i)/\T 6=I i/\M1=M) ?_ ?_
 .exact⟨0,by omega,by simp,by simp,by simp;rfl,by simp,rfl⟩
 rintro T M1 ⟨i,i1,t1,t2,t5,t6,rfl⟩
 by_cases hi:i<d
 .have r:(i:Int)<d:=by omega
  have w1:=A1i (i:=i) (by omega);have ac:=A8E i;have b0:¬(9223372036854775807:Int)<(A8D i).size+2:=by omega
  simp -dsimp -implicitDefEqProofs[t1,t2,t5,t6,hi,r,e2,b0,w1];exact⟨⟨i+1,by clear w1;omega,by rw[A8D],rfl⟩,by clear w1;omega⟩
 have r:¬(i:Int)<d:=by omega
 have a2:i=d:=by omega
 subst a2
 obtain⟨kn,g⟩:∃kn:Nat,u.kind=kn:=⟨u.kind.toNat,by omega⟩
 have b:kn<8:=by omega
 have a5:u.kind.toNat=kn:=by omega
 have c:(kn:Int)<8:=by omega
 have hN:kn<A4n.length:=b
 have a6:A4n[kn]'(by show kn<8;exact b)=A4n.getD u.kind.toNat ⟨#[]⟩:=by rw[a5,Z1d,Z0m (by show kn<8;exact b)];rfl
 have q1:A8D i++A4n.getD u.kind.toNat ⟨#[]⟩=A7F u i:=y.symm
 rw[<-a6]at q1 b1
 simp -dsimp -implicitDefEqProofs[t1,t2,t5,t6,r]
 refine A1h hB (A0w gl) (λ_=>0) (λ_=>0) (by rfl) (by kernel_rfl) ?_
 simp -dsimp -implicitDefEqProofs[t1,t2,t5,t6]
 refine A1j func280 (λM=>(C6t gl M)) ?_
 have a8:=C2n
 by_cases k0:u.kind=0
 .have f:kn=0:=by omega
  subst f;have k:=ha;unfold A4t at k;simp only[k0,Z0G,Z0f,Z0o]at k;have z1:u.head.length=0:=k.2.1.2;have z2:u.words.length=0:=k.2.2;have q:A3w u i=A7F u i:=by rw[A3w,Z0d z2,A4a,Z0d z1,A5m,Z0d k0]
  simp -dsimp -implicitDefEqProofs[t1,t2,t5,t6,k0,hN,b,c,b1,q1,z1,z2,q]
 have f:¬kn=0:=by omega
 have q2:A7F u i++⟨#[32]⟩++u.label=A5m u i:=by rw[A5m,Z0e k0,A9T]
 by_cases z1:u.head.length=0
 .have q3:A5m u i=A4a u i:=by rw[A4a,Z0d z1]
  by_cases z2:u.words.length=0
  ·(have q4:A4a u i=A3w u i:=by rw[A3w,Z0d z2]);simp -dsimp -implicitDefEqProofs[t1,t2,t5,t6,g,hN,b,c,b1,f,q1,q2,z1,z2,j,e,e3,Z0x,b2,b3,q3,q4]
  ·(have t:0<u.words.length:=by omega);have q4:A3w u i=(A4a u i++⟨#[32,124]⟩)++A5r ⟨#[]⟩ u.words:=by rw[A3w,Z0e z2,C2n]
   simp -dsimp -implicitDefEqProofs[t1,t2,t5,t6,g,hN,b,c,b1,f,q1,q2,z1,t,j,e,e3,Z0x,b2,b3,b5,q3];refine A0i func281 (a u.words o m M1) ?_;simp -dsimp -implicitDefEqProofs[Z0x,e3,b7,q4]
 have a1:0<u.head.length:=by omega
 have q3:A4a u i=(A5m u i++⟨#[58]⟩)++A5r ⟨#[]⟩ u.head:=by rw[A4a,Z0e z1,C2n]
 simp -dsimp -implicitDefEqProofs[t1,t2,t5,t6,g,hN,b,c,b1,f,q1,q2,a1,j,e,e3,Z0x,b2,b3,b4]
 refine A0i func281 (a u.head z s M1) ?_
 by_cases z2:u.words.length=0
 .have q4:A4a u i=A3w u i:=by rw[A3w,Z0d z2]
  simp -dsimp -implicitDefEqProofs[t2,g,z2,Z0x,e,b6,<-q3,q4]
 .have t:0<u.words.length:=by omega
  have q4:A3w u i=(A4a u i++⟨#[32,124]⟩)++A5r ⟨#[]⟩ u.words:=by rw[A3w,Z0e z2,C2n]
  simp -dsimp -implicitDefEqProofs[t2,g,t,Z0x,e,b6,<-q3,e3,b5];refine A0i func281 (a u.words o m _) ?_;simp -dsimp -implicitDefEqProofs[Z0x,e3,b7,q4]
end
section
variable (gl:Nat->AV)
def B9p:∀(N:Nat) (u:A0b) (d:Nat) (M:Mem),A0x u<=N->Fit u->A2T u=true->d+A2f u<=8->
 A0e (WC gl) 188 [.agg u.row,I d] M (λv M'=>v=.list 1 (A0F (A4c d u)) .no/\M'=M)
 |0,u,d,M,hN,hf,hr,hdep=>by have:=A3R u;omega
 |N+1,u,d,M,hN,hf,hr,hdep=>by
  obtain⟨ks,c⟩:∃ks,u.kids=ks:=⟨_,rfl⟩;have ha:=A9a hr;have b:=λM=>C8O gl u d M hf ha (by omega);have o:=A4J u;rw[c]at o;have hc:=hf.2.2;refine A0e.dataX ?_;refine A0k (hQ [10,27]) func188 ?_;rw[u.row_eq]at b|-;simp -dsimp -implicitDefEqProofs;refine A0i func231 (b M) ?_;simp -dsimp -implicitDefEqProofs[A1v,A0J,AV.storable,AV.cells];have m:Arr 9 1 A4p M.length (M++[.vec 9 1 [S (A3w u d)] 0 [(0,1)]]) (.vref M.length 0 1 0 1) [A3w u d]:=⟨.inr ⟨M.length,0,[(0,1)],by simp,by simp[A4p],by simp[List.lookup]⟩,λf hf=>by simp at hf;omega⟩;refine A0s (hQ [10,27]) ks.length 6 (λT M5=>∃i:Nat,i<=ks.length/\T 1=I d/\T 2=.cptr [I u.id.act,I u.id.item,I u.id.n,I u.kind,S u.label,.list 4 (A0g u.head) .no,.list 4 (A0g u.words) .no,.list 8 (A0O u.kids) .no]/\T 6=I i/\Grow M M5/\Arr 9 1 A4p M.length M5 (T 5) (A3w u d::A5e (d+1) (ks.take i))) ?_ ?_
  .refine⟨0,by omega,by simp,by simp,by simp,A0c.app none M _,?_⟩;simp -dsimp -implicitDefEqProofs[A5e];exact m
  clear m;rintro T M5 ⟨i,i1,t1,t2,t6,h,hv⟩;generalize j:T 5=ov at*;by_cases hi:i<ks.length;case neg=>
   (have k:¬(i:Int)<ks.length:=by omega);rw[Z0l (by omega)]at hv
   (have hL:A4c d u=A3w u d::A5e (d+1) ks:=by rw[<-c];cases u;rw[A4c];rfl);simp -dsimp -implicitDefEqProofs[t1,t2,t6,j,c,k]
   rw[<-hL]at hv;exact⟨h,B6p hv.own hv.lat .nil⟩
  have k:(i:Int)<ks.length:=by omega
  have w1:=A1i (i:=i) (by have:=A2t ks;omega);have w2:=A1i (i:=d) (by omega);have l:ks[i]∈ks:=Z0v hi;have a:ks[i]∈u.kids:=by rw[c];exact l
  have p:=C0z _ a;have q:=B5O hi;have g:=B9p N ks[i] (d+1) M5 (by omega) (C7W hf _ a) (B5l hr _ a) (by omega);simp -dsimp -implicitDefEqProofs[t1,t2,t6,j,c,hi,k,w2];refine A0i func188 g ?_;simp -dsimp -implicitDefEqProofs[t1,t2,t6,j];refine A3E (C:=WC gl) (enc:=A4p) (e:=9) (sz:=1) (news:=A4c (d+1) ks[i]) A4X A6S B0K (λ_=>rfl) hv.own (by simp[A0B,A0F,List.flatMap]) (by simp[A8a,A7T];omega) rfl ?_;intro v' M7 q1 q2 q3 _;simp -dsimp -implicitDefEqProofs[t1,t2,t6,w1];refine⟨⟨i+1,by clear w1;omega,rfl,hv.grow h q2,?_⟩,by clear w1;omega⟩;rw[B6g hi];exact⟨q1,hv.later h.1 q3⟩
def C3K(u:A0b)(M:Mem)(hf:Fit u)(a:A7u u=true):A0e (WC gl) 131 [.agg u.row] M (λv M'=>v=.list 1 (A0F (A4c 0 u)) .no/\M'=M):=by
 have hs:=λM=>B5H gl u M hf
 rw[a]at hs
 simp only[A7u,Z0f,Z0o]at a
 have hl:=λM=>B9p gl _ u 0 M (Z0u _) hf a.1.1 (by omega)
 rw[u.row_eq]at hs hl|-
 refine A0k hB func131 ?_
 simp -dsimp -implicitDefEqProofs
 refine A0i func130 (hs M) ?_
 simp -dsimp -implicitDefEqProofs
 refine A0i func188 (hl M) ?_
 simp -dsimp -implicitDefEqProofs
def A8V(l:List ByteArray):ByteArray:=l.foldl (λs t=>s++t++⟨#[10]⟩) ⟨#[]⟩
def C9o(l:List ByteArray):∀s:ByteArray,(l.foldl (λs t=>s++t++⟨#[10]⟩) s).size=s.size+A4O l:=by
 induction l with
 |nil=>intro s;simp
 |cons a l ih=>intro s;have e:(⟨#[10]⟩:ByteArray).size=1:=rfl;rw[Z2M,ih,A7A];simp only[Z0x,e];omega
def C9P(u:A0b)(M:Mem)(hf:Fit u):A0e (WC gl) 76 [.agg u.row] M (λv M'=>(∃t,v=.tuple [S t,I (B5e u)])/\M'=M):=by
 have hs:=λM=>B5H gl u M hf
 refine A0k hB func76 ?_
 cases hfm:A7u u
 .rw[hfm]at hs;have hE:B5e u=1:=by simp[B5e,hfm]
  rw[u.row_eq]at hs|-;simp -dsimp -implicitDefEqProofs;refine A0i func130 (hs M) ?_;simp -dsimp -implicitDefEqProofs[hE]
 rw[hfm]at hs
 have hL:=λM=>C3K gl u M hf hfm
 have c:=hfm
 simp only[A7u,Z0f,Z0o]at c
 obtain⟨L,e⟩:∃L,L=A4c 0 u:=⟨_,rfl⟩
 have f:=B1f u 0 c.1.1 hf.2.1 (by omega)
 have g:=A7T 0 u
 have hE:B5e u=if 16384<A4O (A4c 0 u)then 6 else 0:=by simp[B5e,hfm]
 rw[<-e]at hL f g hE
 have h:=hf.2.2
 have d:(⟨#[10]⟩:ByteArray).size=1:=rfl
 rw[u.row_eq]at hs hL|-
 simp -dsimp -implicitDefEqProofs
 refine A0i func130 (hs M) ?_
 simp -dsimp -implicitDefEqProofs
 refine A0i func131 (hL M) ?_
 simp -dsimp -implicitDefEqProofs
 refine A0s hB L.length 6 (λT M5=>∃i:Nat,i<=L.length/\M5=M/\T 4=.list 1 (A0F L) .no/\T 5=S (A8V (L.take i))/\T 6=I i) ?_ ?_
 .exact⟨0,by omega,rfl,by simp,by simp[A8V],by simp⟩
 rintro T M5 ⟨i,i1,rfl,t4,t5,t6⟩
 have b:(A8V (L.take i)).size+A4O (L.drop i)=A4O L:=by have h1:=C9o (L.take i) ⟨#[]⟩;have h2:=B8w (L.take i) (L.drop i);rw[Z1o]at h2;have e0:(⟨#[]⟩:ByteArray).size=0:=rfl;rw[e0]at h1;unfold A8V;omega
 by_cases hi:i<L.length
 case neg=>
  have a:¬(i:Int)<L.length:=by omega
  rw[Z0l (by omega)]at t5 b;rw[Z0n (by omega)]at b;simp only[C6o]at b;by_cases hbig:16384<A4O L
  ·(have h2:(16384:Int)<(A8V L).size:=by omega);have h3:((A8V L).size:Int)>16384:=h2
   rw[Z0d hbig]at hE;simp -dsimp -implicitDefEqProofs[t4,t5,t6,a,h2,h3,hE]
  ·(have h2:¬(16384:Int)<(A8V L).size:=by omega);have h3:¬((A8V L).size:Int)>16384:=h2
   rw[Z0e hbig]at hE;simp -dsimp -implicitDefEqProofs[t4,t5,t6,a,h2,h3,hE]
 have a:(i:Int)<L.length:=by omega
 have w1:=A1i (i:=i) (by omega)
 rw[Z0h hi,A7A]at b
 have b1:¬(9223372036854775807:Int)<(A8V (L.take i)).size+L[i].size:=by omega
 have b2:¬(9223372036854775807:Int)<(A8V (L.take i)).size+L[i].size+1:=by omega
 have hp:A8V (L.take (i+1))=A8V (L.take i)++L[i]++⟨#[10]⟩:=by rw[Z0A hi,A8V,Z2n];rfl
 generalize A8V (L.take i)=p at*
 simp -dsimp -implicitDefEqProofs[t4,t5,t6,hi,a,d,Z0x,b1,b2,w1]
 exact⟨⟨i+1,by clear w1;omega,by rw[hp],rfl⟩,by clear w1;omega⟩
end
open Go.Proofs TryTypes
section
def B6s{E:Nat->Int}:∀(r i:Nat),A7b E r i=0->∀j,i<=j->j<i+r->E j=0
 |0,i,_,j,h1,h2=>by omega
 |r+1,i,h,j,h1,h2=>by
  rw[A7b]at h;by_cases c:E i=0
  .rw[Z0d c]at h;rcases Z3y i j with h3|h3
   .exact B6s r (i+1) h j h3 (by omega)
   .rw[show j=i by omega];exact c
  .rw[Z0e c]at h;exact absurd h c
mutual
def C8x(P:A0b->Prop)(hk:∀u,P u->∀k∈u.kids,P k):∀u:A0b,P u->∀v∈B2D u,P v
 |.mk a b c d e ks,h,v,hv=>by
  rw[B2D]at hv;rcases Z0F.1 hv with rfl|hv
  .exact h
  .exact C4l P hk ks (λk hm=>hk _ h k hm) v hv
def C4l(P:A0b->Prop)(hk:∀u,P u->∀k∈u.kids,P k):∀ks:List A0b,(∀k∈ks,P k)->∀v∈B4H ks,P v
 |[],_,v,hv=>by rw[B4H]at hv;simp at hv
 |k::ks,h,v,hv=>by
  rw[B4H]at hv;rcases Z1b.1 hv with hv|hv
  .exact C8x P hk k (h k (by simp)) v hv
  .exact C4l P hk ks (λq hq=>h q (by simp[hq])) v hv
end
def B3K{u v}{x}(h:A1O x u=some v):v.id=x/\v∈B2D u:=by rw[B5x]at h;refine⟨?_,Z3f h⟩;have:=List.find?_some h;simpa using this
structure B6b (u:A0b) (l:List A0L):Prop where
 ord:∀j,j<l.length->A8I l j
 fd:∀n (h:n<l.length),∃x,A1O l[n].id u=some x/\x.good/\x.words.length<=300/\x.head.length<=300
 lab:∀n (h:n<l.length),l[n].label.size<=7
 nd:(l.map A0L.id).Nodup
 nu:(A0X u).Nodup
 mem:∀x∈l,x.id∈(A0X u).tail
 len:l.length=(A0X u).tail.length
def B9i{u}{l}(hf:Fit u)(h:A9A (λx=>A1O x u) u l=0):B6b u l:=by
 unfold A9A at h;split at h
 .simp at h
 rename_i hb;simp only[Z1U,Z3X]at hb;split at h;case isFalse m=>exact absurd h m
 rename_i hfe;split at h;case isFalse=>simp at h
 rename_i hlen;have he:=λn (hn:n<l.length)=>B6s _ _ hfe n (Z3N _) (by omega);simp only[B2N,C6U,Z0f,Z0o]at hb;obtain⟨⟨t,⟨⟨hr,s⟩,hc⟩,r⟩,g⟩:=hb;have p:(A0X u).Nodup:=by have:=B1n (A0X u) [] List.nodup_nil g;simpa using this
 have key:∀n (h:n<l.length),(∃x,A1O l[n].id u=some x)/\l[n].id≠u.id/\(∀j (hj:j<n),(l[j]'(by omega)).id≠l[n].id)/\A0K l[n].label=true:=by
  intro n hn;have h:=he n hn;simp only[B2A,Z0m hn]at h;split at h
  .simp at h
  rename_i h1;split at h
  .simp at h
  rename_i h2;split at h
  .simp at h
  split at h
  .simp at h
  rename_i h4;simp only[Z1O,Z1U,Z0o,Z2H,Z3X]at h1;refine⟨Z4d.1 h1.1,h1.2,λj hj e=>?_,by simpa using h4⟩;refine h2 (Z2I.2 ⟨l[j]'(by omega),?_,by simpa using e⟩);exact List.mem_take_iff_getElem.2 ⟨j,by omega,rfl⟩
 have o:=A4D u;refine⟨B8P he,λn hn=>?_,λn hn=>B6t (key n hn).2.2.2,?_,p,λy hy=>?_,?_⟩
 .obtain⟨x,hx⟩:=(key n hn).1;obtain⟨h1,h2⟩:=B3K hx;have h3:=C8x (λv=>v.good/\A2T v=true) (λv hv k hm=>⟨((A0b.good_iff _).1 hv.1).2.2.2.2.2.2.2.2 k hm,B5l hv.2 k hm⟩) u ⟨hf.1,hr⟩ x h2;obtain⟨_,hh,hw⟩:=A8Y (A9a h3.2);exact⟨x,hx,h3.1,by have:=(A7D hw).1;omega,by have:=(A7D hh).1;omega⟩
 .rw[List.Nodup,Z4a];intro i j hi hj q;simp only[Z2w];exact(key j (by simpa using hj)).2.2.1 i q
 .obtain⟨n,hn,rfl⟩:=List.getElem_of_mem hy;obtain⟨⟨x,hx⟩,m,_⟩:=key n hn;obtain⟨h1,h2⟩:=B3K hx;have h3:l[n].id∈A0X u:=by rw[<-B1K,<-h1];exact Z0W.2 ⟨x,h2,rfl⟩
  obtain⟨a,b,c,d,e,f⟩:=u;rw[A0X]at h3|-;rcases Z0F.1 h3 with h3|h3
  .exact absurd h3 m
  .exact h3
 .rw[List.length_tail,o];omega
section
variable {F:IdD->Option A0b} {l:List A0L} {s:List A2k}
def C3u{x}(hl:l.length<=1000)(f:∀s∈l,s.good)(ht:∀m∈s,m.to.length<=40)(hx:x.good)(b:x.words.length<=300):(A5I F l s x).1.length<=100000000/\∀t∈(A5I F l s x).1,t.size<=maxLen:=by
 have c:(A1o x.words).length<=300:=by simpa[A1o]using b
 have a:∀t∈A1o x.words,t.size<=maxLen:=by intro t h;obtain⟨w,hw,rfl⟩:=Z0W.1 h;exact(((A0b.good_iff _).1 hx).2.2.2.2.2.2.1 w hw).1
 unfold A5I;simp only;generalize A1o x.words=xs at*;have d:(A2z xs 0).length<=xs.length:=A7z xs _ _;have e:=A8l (A2z xs 0) (λn:Nat=>A2G F l s x.id n) (λi=>A8X ht) (A2z xs 0).length;obtain⟨s1,s2⟩:=A6t (old:=A6d (A2z xs 0) (λn:Nat=>A2G F l s x.id n) (A2z xs 0).length) (names:=A7C (λn:Nat=>A2G F l s x.id n) (A2z xs 0).length) (B:=maxLen) (by simp[maxLen]) a;have:(A6d (A2z xs 0) (λn:Nat=>A2G F l s x.id n) (A2z xs 0).length).length*(xs.length+19)<=12000*400:=Z3b (by omega) (by omega);exact⟨by omega,s1⟩
def B8d{t}(h:t.size<=maxLen):(A3v t).good:=by refine⟨h,?_⟩;simp[A3v,inI]
def C0p(a:∀j,j<l.length->A8I l j){n k:Nat}(hk:k∈A2a l n l.length):n<k/\k<l.length:=by
 simp only[A2a,Z1G,Z1D,Z0o]at hk;have:=(a k hk.1 k hk.1 (Z0u _)).2;have h2:A4s l k=l[k].parent:=by simp[A4s,hk.1]
 rw[<-h2,hk.2]at this;omega
def B8H{g:Nat->A0b×List IdD×Int}:∀K:List Nat,(∀k∈K,A0x (g k).1=(g k).2.1.length)->A0V ((K.map g).map (·.1))=((K.map g).flatMap (·.2.1)).length
 |[],_=>by rw[Z1P,Z1P,A0V];rfl
 |k::K,h=>by have h1:=B8H K λq hq=>h q (by simp[hq]);have h2:=h k (by simp);simp only[Z0C,A0V,Z1v,Z0z,h1,h2]
def B5I(a:∀j,j<l.length->A8I l j):∀f n,n<l.length->l.length<=f+n->A0x (A1N F l s f n).1=(A1N F l s f n).2.1.length
 |0,n,h1,h2=>by omega
 |f+1,n,h1,h2=>by
  have:=B8H (g:=A1N F l s f) (A2a l n l.length) λk hk=>by obtain⟨h3,h4⟩:=C0p a hk;exact B5I a f k h4 (by omega)
  rw[A1N];simp only;rw[A0x,this,Z0B];omega
def B8b(hl:l.length<=1000)(g:∀s∈l,s.good)(ht:∀m∈s,m.to.length<=40)(c:∀j,j<l.length->A8I l j)(b:∀n (h:n<l.length),l[n].label.size<=7)
 (d:∀n (h:n<l.length),∃x,F l[n].id=some x/\x.good/\x.words.length<=300/\x.head.length<=300):∀f n,n<l.length->l.length<=f+n->(A1N F l s f n).1.good/\(A1N F l s f n).1.lims
 |0,n,h1,h2=>by omega
 |f+1,n,h1,h2=>by
  obtain⟨x,hx,e,o,r⟩:=d n h1;have p:A9D F l n=x:=by simp[A9D,h1,hx]
  have i:B0W l n=l[n].label:=by simp[B0W,h1]
  have q:=b n h1;have hb:=A6H l n l.length;obtain⟨w1,w2⟩:=C3u (F:=F) (l:=l) (s:=s) hl g ht e o;obtain⟨_,gk,_,_,gh,_,_,_,_⟩:=(A0b.good_iff _).1 e;have a:∀k∈((A2a l n l.length).map (A1N F l s f)).map (·.1),k.good/\k.lims:=by intro k hk;rw[Z1L]at hk;obtain⟨y,hy,rfl⟩:=Z0W.1 hk;obtain⟨h3,h4⟩:=C0p c hy;exact B8b hl g ht c b d f y h4 (by omega)
  rw[A1N];simp only;rw[p,i];have hm:∀n:Nat,n<=100000000->n<=maxLen:=λn h=>by show n<=9223372036854775807;omega
  refine⟨(A0b.good_iff _).2 ⟨by simp[A0b.id,IdD.good,idZ,inI],gk,hm _ (by show l[n].label.size<=_;omega),hm _ (by show(x.head.map _).length<=_;rw[Z0L];omega),?_,hm _ (by simpa[A0b.words]using w1),?_,hm _ (by simp[A0b.kids];omega),λk hk=>(a k hk).1⟩,?_⟩
  .intro w hw;obtain⟨h,hh,rfl⟩:=Z0W.1 hw;exact B8d (gh h hh).1
  .intro w hw;obtain⟨t,ht,rfl⟩:=Z0W.1 hw;exact B8d (w2 t ht)
  .rw[A0b.lims];refine⟨⟨by show(x.head.map _).length<=_;rw[Z0L];omega,by simpa[A0b.words]using w1,by simp[A0b.kids];omega,by show l[n].label.size<=_;omega⟩,A7d.2 λk hk=>(a k hk).2⟩
def B5v{u}(hS:B6b u l)(hl:l.length<=1000)(a:∀s∈l,s.good)(ht:∀m∈s,m.to.length<=40){f n}(h1:n<l.length)(h2:l.length<=f+n):Fit (A1N (λy=>A1O y u) l s f n).1:=by obtain⟨g1,g2⟩:=B8b (F:=λy=>A1O y u) (s:=s) hl a ht hS.ord hS.lab hS.fd f n h1 h2;refine⟨g1,g2,?_⟩;rw[B5I hS.ord f n h1 h2];have:=A9H (F:=λy=>A1O y u) (s:=s) hS.ord f n h1 h2;omega
end
end
inductive A1Y where
 |rep (p:List A0u)
 |ins (u:A0b)
abbrev eS:AV:=S ⟨#[]⟩
def A1Y.row:A1Y->List AV
 |.rep p=>[I 1,A5G p,A0Z,I 0,I 0,I 0,I 0,I 0,I 0,eS,A0Z,A0Z,A0Z,A0Z,A0Z,eS,eS,I 0,I 0,eS,I 0,I 0,I 0,eS,A0Z]
 |.ins u=>[I 0,A0Z,A0Z,I 1,I 0,I u.id.act,I u.id.item,I u.id.n,I u.kind,S u.label,.list 4 (A0g u.head) .no,.list 4 (A0g u.words) .no,.list 8 (A0O u.kids) .no,A0Z,A0Z,eS,eS,I 0,I 0,eS,I 0,I 0,I 0,eS,A0Z]
@[simp] def A1Y.row_len(x:A1Y):x.row.length=25:=by cases x<;>rfl
def B0Z:ByteArray:=⟨#[99,111,100,105,102,105,99,97,116,105,111,110]⟩
def A5o:AV:=.agg [I 0,eS,I 0,I 0,I 0,eS,A0Z]
def C2V(number day:Int)(items:List A1Y):AV:=.agg [I number,S B0Z,I day,I 1,I day,eS,.list 25 (items.map A1Y.row) .no]
def A3y(x:IdD×IdD):List AV:=[I x.1.act,I x.1.item,I x.1.n,I x.2.act,I x.2.item,I x.2.n]
abbrev B5V:=A0b×List IdD×Int
def C0b(t:B5V):Int:=if B5e t.1=0 then t.2.2 else 6
def A4k(ts:List B5V)(e:Int):Int:=ts.foldl (λe t=>A4r e (C0b t)) e
def A1Z(u:A0b):List A1Y:=u.kids.map λk=>.rep ((A8y u k.id).getD [])
def A3p(ts:List B5V):List A1Y:=ts.map λt=>.ins t.1
def B1c(number:Int)(u:A0b)(ts:List B5V):List (IdD×IdD):=A3Z number (ts.map (·.2.1)) u.kids.length
def B5w(number:Int)(u:A0b)(ts:List B5V):List (IdD×IdD):=(A0X u).tail.flatMap λx=>(B1c number u ts).filter λy=>decide (y.1=x)
def B5z(number day:Int):Bool:=decide (number<1)||decide (1048576<number)||decide (day<0)||decide (1048576<day)
def B9Z(u:A0b)(ts:List B5V):Int:=if 32<u.kids.length+ts.length then 6 else A4k ts 0
def A2W(e:Int):AV:=.tuple [A5o,A0Z,I e]
def C6a(u:A0b)(l:List A0L)(s:List A2k)(number day:Int):AV:=
 let F:=λx=>A1O x u
 let ts:=A2N F l s
 if A9A F u l≠0 then A2W (A9A F u l)
 else if B5z number day=true then A2W 1
 else if((A0X u).tail.any λx=>decide (x.act=number))=true then A2W 5
 else if B9Z u ts≠0 then A2W (B9Z u ts)
 else .tuple [C2V number day (A1Z u++A3p ts),.list 6 ((B5w number u ts).map A3y) .no,I 0]
def B5i(c:Int):∀(a b:List (List IdD)) (j:Nat),A3Z c (a++b) j=A3Z c a j++A3Z c b (j+a.length)
 |[],b,j=>by simp[A3Z]
 |x::a,b,j=>by rw[Z1R,A3Z,A3Z,B5i c a b (j+1),Z0O,Z0B];congr 3;omega
def C5p{K V:Type}[DecidableEq K]:∀(W:List (K×V)),(W.map (·.1)).Nodup->∀y∈W,A1B W y.1=some y.2
 |[],_,y,hy=>by simp at hy
 |(k,v)::W,hn,y,hy=>by
  simp only[Z0C,Z2z]at hn;rw[A1B];rcases Z0F.1 hy with rfl|hy
  .simp
  .have:y.1≠k:=λe=>hn.1 (e▸Z0W.2 ⟨y,hy,rfl⟩);rw[Z0e this];exact C5p W hn.2 y hy
section
variable {u:A0b} {l:List A0L} {s:List A2k}
def C7s(a:Int)(ts:List B5V):(B1c a u ts).map (·.1)=ts.flatMap (·.2.1):=by rw[B1c,B3B,Z3w];rfl
def C1h(hS:B6b u l):((A2N (λy=>A1O y u) l s).flatMap (·.2.1)).Nodup/\∀x,x∈(A2N (λy=>A1O y u) l s).flatMap (·.2.1)<->x∈(A0X u).tail:=by
 refine D0f (λj hj=>?_) (λk hk=>?_) hS.nd hS.nu hS.mem hS.len
 .have:=hS.ord j hj j hj (Z0u _);simpa[A4s,hj]using this
 .obtain⟨x,hx,_⟩:=hS.fd k hk;have:A9D (λy=>A1O y u) l k=x:=by simp[A9D,hk,hx]
  rw[this];exact(B3K hx).1
def B7f(hS:B6b u l)(a:Int):B5w a u (A2N (λy=>A1O y u) l s)=(A0X u).tail.map λx=>(x,(A1B (B1c a u (A2N (λy=>A1O y u) l s)) x).getD idZ):=by
 obtain⟨h1,h2⟩:=C1h (s:=s) hS;have hk:=C7s (u:=u) a (A2N (λy=>A1O y u) l s);refine C9n (by rw[hk];exact h1) (λy hy=>?_) (λx hx=>?_)
 .rw[C5p _ (by rw[hk];exact h1) y hy];rfl
 .rw[hk];exact(h2 x).2 hx
def C4y:(A2N (λy=>A1O y u) l s).length<=l.length:=by unfold A2N B6M;rw[Z0L];exact A6H _ _ _
def B6i(hS:B6b u l)(hl:l.length<=1000):∀t∈A2N (λy=>A1O y u) l s,t.2.1.length<=1000:=by intro t ht;obtain⟨n,hn,rfl⟩:=Z0W.1 ht;have:=A9H (F:=λy=>A1O y u) (s:=s) hS.ord l.length n (B2b hn) (by omega);omega
end
section
variable (gl:Nat->AV)
def D2j(x:IdD)(n:Int)(M:Mem):A0e (WC gl) 69 [.agg x.row,.cptr [I n]] M (λv M'=>v=B (decide (x.act=n))/\M'=M):=by refine A0k hB func69 ?_;simp -dsimp -implicitDefEqProofs[IdD.row];rfl
def D3Y(s:List IdD)(o:Own)(n:Int)(M:Mem)(hl:s.length<=1000):A0e (WC gl) 123 [.list 3 (A4L s) o,.func (.func 69) [] [.cptr [I n]]] M (λv M'=>v=I (A6g (λx:IdD=>decide (x.act=n)) s 0)/\M'=M):=by
 refine A0k hB func123 ?_;simp -dsimp -implicitDefEqProofs;refine A0s hB s.length 8 (λT M1=>∃i:Nat,M1=M/\i<=s.length/\T 0=.list 3 (A4L s) o/\T 1=.func (.func 69) [] [.cptr [I n]]/\T 7=I s.length/\T 8=I i/\A6g (λx:IdD=>decide (x.act=n)) s 0=A6g (λx:IdD=>decide (x.act=n)) (s.drop i) i) ?_ ?_
 .exact⟨0,rfl,by omega,by simp,by simp,by simp,by simp,by simp⟩
 rintro T M1 ⟨i,rfl,h1,t0,t1,t7,t8,h2⟩;by_cases hi:i<s.length
 .have a:(i:Int)<s.length:=by omega
  have w1:=A1i (i:=i) (by omega);have h3:=C1u hi h2;have hm:=D2j gl s[i] n M1;simp only[IdD.row]at hm;simp -dsimp -implicitDefEqProofs[t0,t1,t7,t8,hi,a,IdD.row];refine A0i func69 hm ?_;by_cases c:s[i].act=n
  .rw[Z0d (by simpa using c)]at h3;simp -dsimp -implicitDefEqProofs[t0,t1,t7,t8,Z0p c,c,h3]
  .rw[Z0e (by simpa using c)]at h3;simp -dsimp -implicitDefEqProofs[t0,t1,t7,t8,Z0k c,c,w1];exact⟨⟨i+1,by clear w1;omega,rfl,h3⟩,by clear w1;omega⟩
 .have a:¬(i:Int)<s.length:=by omega
  rw[Z0n (by omega)]at h2;simp -dsimp -implicitDefEqProofs[t0,t1,t7,t8,a,h2,A6g]
def C0V(s:List IdD)(o:Own)(n:Int)(M:Mem)(hl:s.length<=1000):A0e (WC gl) 68 [.list 3 (A4L s) o,.func (.func 69) [] [.cptr [I n]]] M (λv M'=>v=B (s.any λx=>decide (x.act=n))/\M'=M):=by refine A0k hB func68 ?_;have he:=B4u (λx:IdD=>decide (x.act=n)) s 0;simp -dsimp -implicitDefEqProofs;refine A0i func123 (D3Y gl s o n M hl) ?_;generalize A6g (λx:IdD=>decide (x.act=n)) s 0=k at*;simp -dsimp -implicitDefEqProofs[<-he]
end
end Go.Abs
