/- The texts CbS, CbN, CbO, CbP, CbQ, CbR, CbV, CbW, CbY, CbX0, CbX1, CeN, CeO, CeP, CeQ, CeR, CfA. -/
import Derived.Test.YtmpdkagfplajjaaGreatDoorGG33
import Derived.Test.YtmpdkagfplajjaaGreatDoorGG08
import Derived.Test.YtmpdkagfplajjaaGreatDoorGG31
import Derived.Test.YtmpdkagfplajjaaGreatDoorGG34
import Derived.Test.YtmpdkagfplajjaaGreatDoorGG30
import Derived.Test.YtmpdkagfplajjaaGreatDoorGG35
set_option linter.all false
set_option maxRecDepth 100000
namespace Go.Abs
open Go.Proofs TryTypes Tryz
def B3s{C}{G}{M}{w}(hi:Inv C G M w):∀(l:List ByteArray) (b off:Nat),A0D G 1 (A1d l) b off->∀(j:Nat) x,l[j]?=some x->w.cell? ⟨b,off+j,none⟩=some (.string x)
 |[],_,_,_,j,x,hx=>by simp at hx
 |s::l,b,off,h,j,x,hx=>by
  simp only[A1d,Z0s,A0D,A0S]at h;obtain⟨⟨_,⟨v,hv,_,hr⟩,_⟩,h2⟩:=h;cases j with
  |zero=>simp at hx;subst hx;simp only[Rep]at hr;subst hr;exact hi.st _ _ _ hv
  |succ j=>have:=B3s hi l b (off+1) h2 j x (by simpa using hx);rw[show off+(j+1)=off+1+j by omega];exact this
def C4z(l:List UInt8):ByteArray:=⟨l.toArray⟩
def C1F(l:List ByteArray)(sep:ByteArray):ByteArray:=C4z (Lib.join (l.map (·.data.toList)) sep.data.toList)
section
variable (gl:Nat->AV) (M:Mem)
def D8p(l:List ByteArray)(o:Own)(d:ByteArray)(hN:l.length<=140737488355328)(g:(Lib.join (l.map (·.data.toList)) d.data.toList).length<=140737488355328):A0c (WC gl) 127 [.list 1 (A1d l) o,S d] M (λv M'=>v=S (C1F l d)/\M'=M):=by
 refine B1w λG w vs hi hr=>?_
 simp only[A0u]at hr
 obtain⟨y,_,rfl,hy,z,_,rfl,hz,rfl⟩:=hr
 simp only[Rep]at hy hz
 obtain⟨base,cap,rfl,hc,hm,hb,ho⟩:=hy
 subst hz
 rw[B5Z]at hc
 have c:∀a,l=[]->Calls prog 127 #[.slice a l.length cap,.string d] w λe w'=>e=.returned (.string (C1F l d))/\RowKit.Below w.heap.size w w':=by rintro a rfl;exact Z2x (strings_Join_none a cap d w) λe w' ⟨he,hw⟩=>⟨he,hw▸RowKit.Below.refl _ _⟩
 show Calls prog 127 #[.slice base (A1d l).length cap,.string d] w _
 rw[B5Z]
 cases base with
 |none=>
  have:l=[]:=by simpa[A1d]using hb.1
  exact c _ this
 |some a=>
  by_cases hl:l=[]
  .exact c _ hl
  .have hs:=hb.1 (by simpa[A1d]using hl);obtain⟨b,off,spot⟩:=a;subst hs;have f:=B3s hi l b off hb.2;have h:b<w.heap.size:=by
    cases l with
    |nil=>exact absurd rfl hl
    |cons s l=>exact Z2D w ⟨b,off+0,none⟩ (f 0 s rfl)
   exact strings_Join b off cap l d w f h hN hc g
def D2u(s:ByteArray)(c:Nat)(hc:c<=9223372036854775807)(a:s.size*c<=140737488355328):A0c (WC gl) 226 [S s,I c] M (λv M'=>v=S (C4z (Lib.repeatL s.data.toList c))/\M'=M):=by
 refine B1w λG w vs hi hr=>?_
 simp only[A0u]at hr
 obtain⟨y,_,rfl,hy,z,_,rfl,hz,rfl⟩:=hr
 simp only[Rep]at hy hz
 subst hy
 subst hz
 exact strings_Repeat s c w hc a
end
def C5g:∀d:Fin 9,C4z (Lib.repeatL [32,32] d.val)=B5d d.val:=by decide
def B6J:∀r:List ByteArray,A6M r=r.length+Lib.lens (r.map (·.data.toList))
 |[]=>rfl
 |a::r=>by rw[B2i,B6J r];simp only[Lib.lens,Z0s,List.sum_cons,Z0x];have:a.data.toList.length=a.size:=rfl;omega
def D5i(b:List UInt8)(hs:b.length=1):∀l:List ByteArray,l≠[]->(Lib.join (l.map (·.data.toList)) b).length+1=A6M l
 |[],h=>absurd rfl h
 |a::r,_=>by rw[Z0s,Lib.join_cons,Z0r,Lib.joinTail_length,hs,B2i,B6J,Z0K];have:a.data.toList.length=a.size:=rfl;omega
def A0a.lims_noKids{u}(h:u.lims):(A6S u).lims:=by obtain⟨a,b,c,d,e,f⟩:=u;rw[A0a.lims]at h;rw[A6S,A0a.lims];exact⟨⟨h.1.1,h.1.2.1,by simp[A0a.kids],h.1.2.2.2⟩,by rw[A5s];trivial⟩
def B0G{u}(h:Fit u):Fit (A6S u):=by
 obtain⟨h1,h2,h3⟩:=h;refine⟨?_,A0a.lims_noKids h2,?_⟩
 .obtain⟨a,b,c,d,e,f⟩:=u;obtain⟨g1,g2,g3,g4,g5,g6,g7,g8,g9⟩:=(A0a.good_iff _).1 h1;exact(A0a.good_iff _).2 ⟨by simp[A6S,A0a.id,IdD.good,idZ,inI],g2,g3,g4,g5,g6,g7,by simp[A6S,A0a.kids],by simp[A6S,A0a.kids]⟩
 .obtain⟨a,b,c,d,e,f⟩:=u;rw[A6S,A0j,A0f];omega
def B6V{u}(h:A3n u):A3n (A6S u):=by obtain⟨a,b,c,d,e,f⟩:=u;obtain⟨h0,h1,h2,h3⟩:=(A7u _).1 h;exact(A7u _).2 ⟨rfl,h1,h2,by simp[A6S,A0a.kids]⟩
def hMy:A2r:=⟨λd=>d !=2,λ_=>false,λ_=>false⟩
@[simp] def E5m:hMy.imm=λd=>d !=2:=rfl
section
variable (gl:Nat->AV)
def E0p(l:gl 0=A2h)(c:gl 1=A2s)(u:A0a)(d:Nat)(M:Mem)(hf:Fit u)(hb:A3n u)(ha:A3W u=true)(hd:d<=8):A0c (WC gl) 225 [.agg u.row,I d] M (λv M'=>v=B true/\M'=M):=by
 have hS:=λM=>B9X gl (A6S u) A0x M (.inr ⟨by cases u;rfl,rfl⟩) (B0G hf).1 (B0G hf).2.1 (B0G hf).2.2 (B6V hb)
 have hV:=λM=>B4V gl l c (A6S u) M (B0G hf)
 rw[B4e (B6V hb),D1v ha]at hV
 refine A0c.dataX ?_
 refine A0o hMy func225 ?_
 have k:A6V (A6S u) A0x=[I 0,I 0,I 0,I u.kind,S u.label,.list 4 (A0g u.head) .no,.list 4 (A0g u.words) .no,A0x]:=by cases u;rfl
 rw[k]at hS
 have m:u.id=idZ:=((A7u u).1 hb).1
 have h1:(0:Int)<=d:=by omega
 have h2:(d:Int)<=8:=by omega
 obtain⟨b,hb⟩:∃b,b=M.length:=⟨_,rfl⟩
 have h:u.row=[I 0,I 0,I 0,I u.kind,S u.label,.list 4 (A0g u.head) .no,.list 4 (A0g u.words) .no,.list 8 (A0q u.kids) .no]:=by rw[u.row_eq,m];rfl
 obtain⟨M1,f⟩:∃M1,M1=M++[A0p.cells 27 u.row]:=⟨_,rfl⟩
 have c:Grow M M1:=by rw[f];exact A0d.app none _ _
 have hX:M1[b]?=some (A0p.cells 27 u.row):=by rw[f,hb];simp
 have i:b<M1.length:=(Z0a.1 hX).1
 obtain⟨M2,a⟩:∃M2,M2=M1.set b (.cells 27 [I 0,I 0,I 0,I u.kind,S u.label,.list 4 (A0g u.head) .no,.list 4 (A0g u.words) .no,A0x]):=⟨_,rfl⟩
 have e:M2[b]?=some (.cells 27 [I 0,I 0,I 0,I u.kind,S u.label,.list 4 (A0g u.head) .no,.list 4 (A0g u.words) .no,A0x]):=by rw[a];simp[i]
 have n:Grow M M2:=⟨by rw[a];simpa using c.1,λj hj _=>by rw[a,Z0e (by omega)];exact c.2 j hj (by simp)⟩
 rw[h]at hX
 have g:M1.set b (.cells 27 [I 0,I 0,I 0,I u.kind,S u.label,.list 4 (A0g u.head) .no,.list 4 (A0g u.words) .no,.list 8 (A0q u.kids) .no])=M1:=List.set_eq_of_getElem? hX
 simp -dsimp -implicitDefEqProofs[A0l]
 rw[<-f,<-hb]
 simp -dsimp -implicitDefEqProofs[D0w,A0h hX,g]
 rw[<-a]
 simp -dsimp -implicitDefEqProofs[h1,h2,A0b e]
 refine A0i func180 (hS M2) ?_
 simp -dsimp -implicitDefEqProofs[h1,h2,A0b e]
 refine A0i func109 (hV _) ?_
 simp -dsimp -implicitDefEqProofs[h1,h2,A0b e]
 exact⟨n,.same trivial .nil⟩
def E0a(s:ByteArray)(ws:List A0H)(M:Mem)(hs:s.size<=1000000)(hl:ws.length<=1000000)(hw:∀w∈ws,1<=w.text.size/\w.text.size<=24):A0c (WC gl) 227 [S s,.list 4 (A0g ws) .no] M (λv M'=>v=S (B1G s ws)/\M'=M):=by
 refine A0c.dataX ?_
 refine A0o hB func227 ?_
 simp -dsimp -implicitDefEqProofs
 refine A0y hB ws.length 9 (λT M1=>∃i:Nat,i<=ws.length/\T 0=S (B1G s (ws.take i))/\T 7=.list 4 (A0g ws) .no/\T 8=I ws.length/\T 9=I i/\Grow M M1) ?_ ?_
 .refine⟨0,by omega,by simp[B1G],by simp,by simp,by simp,A0d.refl _ _⟩
 rintro T M1 ⟨i,i1,t0,t7,t8,t9,hg⟩
 by_cases hi:i<ws.length
 case neg=>
  have a:¬(i:Int)<ws.length:=by omega
  rw[Z0k (by omega)]at t0;simp -dsimp -implicitDefEqProofs[t0,t7,t8,t9,a,hg];exact .same trivial .nil
 have a:(i:Int)<ws.length:=by omega
 have w1:=A1E (i:=i) (by omega)
 have h1:=hw _ (Z0q hi)
 have hp:B1G s (ws.take (i+1))=B1G s (ws.take i)++⟨#[32]⟩++B7G ws[i].text:=by rw[Z0D hi,B1G,Z3Y];rfl
 obtain⟨p,e⟩:∃p,p=B1G s (ws.take i):=⟨_,rfl⟩
 obtain⟨h1,h2⟩:=h1
 have f:p.size<=27000000:=by have:=B0c (ws.take i) s λw h=>(hw w (Z1n h)).2;rw[<-e]at this;simp at this;omega
 have d:(⟨#[32]⟩:ByteArray).size=1:=rfl
 have c:(⟨#[92]⟩:ByteArray).size=1:=rfl
 have b1:¬(9223372036854775807:Int)<p.size+1:=by omega
 have b2:¬(9223372036854775807:Int)<p.size+1+1:=by omega
 have b3:¬(9223372036854775807:Int)<p.size+1+ws[i].text.size:=by omega
 have b4:¬(9223372036854775807:Int)<p.size+1+1+ws[i].text.size:=by omega
 have b5:0<ws[i].text.size:=h1
 obtain⟨t,ht⟩:∃t,t=ws[i].text:=⟨_,rfl⟩
 rw[<-e]at t0 hp
 have b:Grow M (M1++[A0p.cells 152 ws[i].row]):=hg.trans (A0d.app none _ _)
 have hX:(M1++[A0p.cells 152 [S ws[i].text,I ws[i].act,I ws[i].item,I ws[i].at_]])[M1.length]?=some (.cells 152 [S ws[i].text,I ws[i].act,I ws[i].item,I ws[i].at_]):=by simp
 have b:Grow M (M1++[A0p.cells 152 [S ws[i].text,I ws[i].act,I ws[i].item,I ws[i].at_]]):=b
 by_cases c1:A0L ws[i].text 0=124
 .have he:B7G ws[i].text=⟨#[92]⟩++ws[i].text:=by rw[B7G,Z0d (.inl c1)]
  rw[he]at hp;simp -dsimp -implicitDefEqProofs[t0,t7,t8,t9,a,hi,A0l,A0m,A0e,AV.storable,AV.cells,A0H.row,d,c,Z0H,b1,b2,b3,b4,b5,c1,w1,A0b hX];refine⟨⟨i+1,by clear w1;omega,?_,rfl,b⟩,by clear w1;omega⟩;rw[hp];simp only[C5Q]
 by_cases c2:A0L ws[i].text 0=92
 .have he:B7G ws[i].text=⟨#[92]⟩++ws[i].text:=by rw[B7G,Z0d (.inr c2)]
  rw[he]at hp;simp -dsimp -implicitDefEqProofs[t0,t7,t8,t9,a,hi,A0l,A0m,A0e,AV.storable,AV.cells,A0H.row,d,c,Z0H,b1,b2,b3,b4,b5,c1,c2,w1,A0b hX];refine⟨⟨i+1,by clear w1;omega,?_,rfl,b⟩,by clear w1;omega⟩;rw[hp];simp only[C5Q]
 have he:B7G ws[i].text=ws[i].text:=by rw[B7G,Z0c (by simp[c1,c2])]
 rw[he]at hp
 simp -dsimp -implicitDefEqProofs[t0,t7,t8,t9,a,hi,A0l,A0m,A0e,AV.storable,AV.cells,A0H.row,d,c,Z0H,b1,b2,b3,b4,b5,c1,c2,w1,A0b hX]
 exact⟨⟨i+1,by clear w1;omega,by rw[hp],rfl,b⟩,by clear w1;omega⟩
def A7H{l}(h:A4h l=true):l.length<=256/\∀w∈l,1<=w.text.size/\w.text.size<=24:=by simp only[A4h,Z0g,Z0l,Z0u]at h;refine⟨h.1,λw hw=>?_⟩;have:=h.2 w hw;simp only[A3L,Z0g,Z0l]at this;exact this.1
def A9f{u}(h:A3W u=true):(0<=u.kind/\u.kind<=7)/\A4h u.head=true/\A4h u.words=true:=by unfold A3W at h;simp only[Z0g,Z0l]at h;exact⟨h.1.1.1.1,h.1.1.2,h.1.2⟩
def C6D{k}(h:0<=k/\k<=7):A4N k=A9V.getD k.toNat ⟨#[]⟩:=by
 have key:∀n:Fin 8,A9I.getD n.val .empty=A9V.getD n.val ⟨#[]⟩:=by decide
 have:=key ⟨k.toNat,by omega⟩;rw[A4N,Z0d (by omega),this]
def D7z(t:gl 0=A2h)(l:gl 1=A2s)(u:A0a)(d:Nat)(M:Mem)(hf:Fit u)(hb:A3n u)(ha:A3W u=true)(hd:d<=8):A0c (WC gl) 182 [.agg u.row,I d] M (λv M'=>v=S (A6W u d)/\M'=M):=by
 obtain⟨hk,hh,hw⟩:=A9f ha
 obtain⟨r,k⟩:=A7H hh
 obtain⟨o,j⟩:=A7H hw
 have x:=((A3t u hf.2.1).1).2.2.2
 have c:(⟨#[32]⟩:ByteArray).size=1:=rfl
 have a:(⟨#[58]⟩:ByteArray).size=1:=rfl
 have e3:(⟨#[32,124]⟩:ByteArray).size=2:=rfl
 have f:=λM=>D2u gl M ⟨#[32,32]⟩ d (by omega) (by show 2*d<=_;omega)
 have hdr:C4z (Lib.repeatL (⟨#[32,32]⟩:ByteArray).data.toList d)=B5d d:=C5g ⟨d,by omega⟩
 rw[hdr]at f
 have z:=B3O d
 have hn:=C6D hk
 have key:∀n:Fin 8,(A9V.getD n.val ⟨#[]⟩).size<=9:=by decide
 have m:=key ⟨u.kind.toNat,by omega⟩
 have g:B3q u d=B5d d++A9V.getD u.kind.toNat ⟨#[]⟩:=rfl
 simp only at m
 rw[<-hn]at g m
 have b1:¬(9223372036854775807:Int)<(B5d d).size+(A4N u.kind).size:=by omega
 have a0:(B3q u d).size<=2*d+9:=by rw[g,Z0H];omega
 have a1:(A9a u d).size<=2*d+1010:=by
  unfold A9a;split
  .omega
  .rw[Z0H,Z0H,c];omega
 have y:(A7C u d).size<=2*d+7700:=by
  unfold A7C;split
  .omega
  .have:=B0c u.head (A9a u d++⟨#[58]⟩) (λw h=>(k w h).2);rw[Z0H,a]at this;omega
 have b2:¬(9223372036854775807:Int)<1+u.label.size:=by omega
 have b3:¬(9223372036854775807:Int)<(B3q u d).size+(1+u.label.size):=by omega
 have b4:¬(9223372036854775807:Int)<(A9a u d).size+1:=by omega
 have b5:¬(9223372036854775807:Int)<(A7C u d).size+2:=by omega
 refine A0o hB func182 ?_
 simp -dsimp -implicitDefEqProofs[u.row_eq]
 refine A0i func225 (u.row_eq▸E0p gl t l u d M hf hb ha hd) ?_
 simp -dsimp -implicitDefEqProofs
 refine A0X hB (A0t gl) (λ_=>0) (λ_=>0) (by rfl) (by kernel_rfl) ?_
 simp -dsimp -implicitDefEqProofs
 refine A1G func226 f ?_
 simp -dsimp -implicitDefEqProofs
 refine A1G func207 (λM=>(B1O gl M l _)) ?_
 have q1:B5d d++A4N u.kind=B3q u d:=g.symm
 have b:∀ws:List A0H,ws.length<=256->(∀w∈ws,1<=w.text.size/\w.text.size<=24)->∀s,s.size<=1000000->∀M,A0c (WC gl) 227 [S s,.list 4 (A0g ws) .no] M (λv M'=>v=S (B1G s ws)/\M'=M):=λws h1 h2 s h3 M=>E0a gl s ws M h3 (by omega) h2
 by_cases k0:u.kind=0
 .have e:=ha;unfold A3W at e;simp only[k0,Z0M,Z0g,Z0l]at e;have z1:u.head.length=0:=e.2.1.2;have z2:u.words.length=0:=e.2.2;have q:A6W u d=B3q u d:=by rw[A6W,Z0d z2,A7C,Z0d z1,A9a,Z0d k0]
  rw[k0]at b1 q1|-;simp -dsimp -implicitDefEqProofs[b1,k0,q1,z1,z2,q]
 have q2:B3q u d++(⟨#[32]⟩++u.label)=A9a u d:=by rw[A9a,Z0c k0]
 by_cases z1:u.head.length=0
 .have q3:A9a u d=A7C u d:=by rw[A7C,Z0d z1]
  by_cases z2:u.words.length=0
  ·(have q4:A7C u d=A6W u d:=by rw[A6W,Z0d z2]);simp -dsimp -implicitDefEqProofs[b1,k0,q1,q2,z1,z2,c,a,e3,Z0H,b2,b3,q3,q4]
  ·(have i:0<u.words.length:=by omega);have q4:A6W u d=B1G (A7C u d++⟨#[32,124]⟩) u.words:=by rw[A6W,Z0c z2]
   simp -dsimp -implicitDefEqProofs[b1,k0,q1,q2,z1,i,c,a,e3,Z0H,b2,b3,b5,q3];refine A0s func227 (b u.words o j _ (by rw[Z0H,e3];omega) M) ?_;rintro _ M ⟨rfl,rfl⟩;simp -dsimp -implicitDefEqProofs[q4]
 have p:0<u.head.length:=by omega
 have q3:A7C u d=B1G (A9a u d++⟨#[58]⟩) u.head:=by rw[A7C,Z0c z1]
 simp -dsimp -implicitDefEqProofs[b1,k0,q1,q2,p,c,a,e3,Z0H,b2,b3,b4]
 refine A0s func227 (b u.head r k _ (by rw[Z0H,a];omega) M) ?_
 rintro _ M ⟨rfl,rfl⟩
 rw[<-q3]
 by_cases z2:u.words.length=0
 .have q4:A7C u d=A6W u d:=by rw[A6W,Z0d z2]
  simp -dsimp -implicitDefEqProofs[z2,q4]
 .have i:0<u.words.length:=by omega
  have q4:A6W u d=B1G (A7C u d++⟨#[32,124]⟩) u.words:=by rw[A6W,Z0c z2]
  simp -dsimp -implicitDefEqProofs[i,e3,b5];refine A0s func227 (b u.words o j _ (by rw[Z0H,e3];omega) M) ?_;rintro _ M ⟨rfl,rfl⟩;simp -dsimp -implicitDefEqProofs[q4]
end
section
structure B6U (n:Nat) (M0 M:Mem) (xs:List ByteArray):Prop where
 low:A1c n M0 M
 len:n+2<=M.length
 fn:M[n+1]?=some (.cells 100 [.func (.func 181) [] [.ptr n 0,.ptr (n+1) 0]])
 arr:∃v,M[n]?=some (.cells 37 [v])/\A1b 9 1 A6U M v xs/\A1g (n+2) v
def B6U.app{n}{M0 M}{xs}(h:B6U n M0 M xs)(X:Mem):B6U n M0 (M++X) xs:=by
 obtain⟨h1,h2,h3,v,h4,h5,h6⟩:=h;have hl:∀j Y,M[j]?=some Y->(M++X)[j]?=some Y:=λj Y h=>by rw[Z0h (Z0a.1 h).1];exact h
 refine⟨⟨by simp;have:=h1.1;omega,λj hj=>?_⟩,by simp;omega,hl _ _ h3,v,hl _ _ h4,h5.keep (A0d.app none M X) (by simp),h6⟩;rw[Z0h (by omega)];exact h1.2 j hj
mutual
def B4H:∀(d:Nat) (u:A0a),(A6d d u).length=A0j u
 |d,.mk _ _ _ _ _ ks=>by rw[A6d,A0j,Z0x,B0U (d+1) ks];omega
def B0U:∀(d:Nat) (ks:List A0a),(A6h d ks).length=A0f ks
 |d,[]=>by rw[A6h,A0f];rfl
 |d,k::ks=>by rw[A6h,A0f,Z0r,B4H d k,B0U d ks]
end
def C8m{d:Nat}{ks:List A0a}{i:Nat}(h:i<ks.length):A6h d (ks.take (i+1))=A6h d (ks.take i)++A6d d ks[i]:=by
 induction ks generalizing i with
 |nil=>simp at h
 |cons k ks ih=>
  cases i with
  |zero=>simp[A6h]
  |succ i=>simp only[Z0C,A6h,Z3b];rw[ih (by simpa using h),Z0T]
def A7B{u}(h:A2c u=true):A3W u=true:=by obtain⟨a,b,c,d,e,f⟩:=u;rw[A2c,Z0g]at h;exact h.1
def B9Z{p}:∀{ks b:List A0a},A4x p ks b=true->∀k∈ks,A2c k=true
 |[],_,_,k,hk=>by simp at hk
 |a::ks,b,h,k,hk=>by
  rw[A4x]at h;simp only[Z0g]at h;rcases Z0t.1 hk with rfl|hk
  .exact h.1.1.2
  .exact B9Z h.2 k hk
def B5C{u}(h:A2c u=true):∀k∈u.kids,A2c k=true:=by obtain⟨a,b,c,d,e,f⟩:=u;rw[A2c,Z0g]at h;exact B9Z h.2
def C1d:∀{ks:List A0a},∀k∈ks,1+A1D k<=A2I ks
 |[],k,hk=>by simp at hk
 |a::ks,k,hk=>by
  rw[A2I];rcases Z0t.1 hk with rfl|hk
  .omega
  .have:=C1d k hk;omega
def D2Q{u}:∀k∈u.kids,1+A1D k<=A1D u:=by obtain⟨a,b,c,d,e,f⟩:=u;intro k hk;rw[A1D];exact C1d k hk
def D7X{u}(h:Fit u):∀k∈u.kids,Fit k:=by obtain⟨h1,h2,h3⟩:=h;intro k hk;have:=A2u hk;rw[A7E]at h3;exact⟨((A0a.good_iff _).1 h1).2.2.2.2.2.2.2.2 k hk,A3g.1 (A3t u h2).2 k hk,by omega⟩
def D3X{u}(h:A3n u):∀k∈u.kids,A3n k:=((A7u u).1 h).2.2.2
def C7f{ks}{i}(h:i<ks.length):A0f (ks.take i)+A0j ks[i]<=A0f ks:=by
 induction ks generalizing i with
 |nil=>simp at h
 |cons k ks ih=>
  cases i with
  |zero=>simp[A0f]
  |succ i=>have:=ih (i:=i) (by simpa using h);simp only[Z0C,A0f,Z3b];omega
@[simp] def E5v:A2k prog 100=some false:=by kernel_rfl
@[simp] def E8r:A1t prog 100=some 1:=by kernel_rfl
@[simp] def E4x:A0F prog 100=some [.nilFunc]:=by kernel_rfl
def hLn:A2r:=⟨λ_=>true,λ_=>false,λd=>d==13⟩
@[simp] def E6d:hLn.imm=λ_=>true:=rfl
@[simp] def E6X:hLn.own=λ_=>false:=rfl
@[simp] def E6M:hLn.vec=λd=>d==13:=rfl
section
variable (gl:Nat->AV)
set_option maxHeartbeats 1000000 in
def C2I(a5:gl 0=A2h)(a3:gl 1=A2s):∀(N:Nat) (U:A0a) (d n:Nat) (M0 M:Mem) (xs:List ByteArray),A0j U<=N->Fit U->A3n U->A2c U=true->d+A1D U<=8->B6U n M0 M xs->xs.length+A0j U<=1000->
 A0c (WC gl) 181 [.agg U.row,I d,.ptr n 0,.ptr (n+1) 0] M (λv M'=>B6U n M0 M' (xs++A6d d U))
 |0,U,d,n,M0,M,xs,hN,hf,hb,hr,hdep,ho,hc=>by have:=A3X U;omega
 |N+1,U,d,n,M0,M,xs,hN,hf,hb,hr,hdep,ho,hc=>by
  obtain⟨ks,g⟩:∃ks,U.kids=ks:=⟨_,rfl⟩;have ha:=A7B hr;have b:=λM=>D7z gl a5 a3 U d M hf hb ha (by omega);refine A0o hLn func181 ?_;obtain⟨v0,c,a1,l⟩:=ho.arr;have a8:n<M.length:=(Z0a.1 c).1;rw[U.row_eq]at b;simp -dsimp -implicitDefEqProofs[U.row_eq];refine B8z hLn (A0t gl) (λk=>if k=0 then 1 else if k=5\/k=6 then 2 else 0) (λ_=>n) (λ_ k=>k==6) (λk=>if k=6 then[]else[n]) (by intro i k _ h;have:k≠6:=(by simpa using h);simp[this]) (by rfl) (by kernel_rfl) ?_;simp -dsimp -implicitDefEqProofs[A0b c,A1a,A5n];refine A1G func182 b ?_;simp -dsimp -implicitDefEqProofs[A0n,A0W,AV.storable,AV.cells];have a9:=A7E U;rw[g]at a9;refine A3p (C:=WC gl) (enc:=A6U) (e:=9) (sz:=1) (news:=[A6W U d]) A8Q B1E B9w (λ_=>rfl) a1 (by simp[A0A]) (by simp;omega) rfl ?_;intro v1 M2 p1 p2 p3 _;have s:M2[n]?=some (.cells 37 [v0]):=p2.get c (λe=>by have:=l n e;omega);have a6:M2[n+1]?=some (.cells 100 [.func (.func 181) [] [.ptr n 0,.ptr (n+1) 0]]):=p2.get ho.fn (λe=>by have:=l _ e;omega);have t:n<M2.length:=(Z0a.1 s).1;have y:A1g (n+2) v1:=λf hf=>by
   rcases p3 with e|e
   .exact l f (e▸hf)
   .have:=e f hf;have:=ho.len;omega
  have a2:n+2<=M2.length:=Z0X ho.len p2.1;have u:B6U n M0 (M2.set n (.cells 37 [v1])) (xs++[A6W U d]):=by
   refine⟨⟨by have:=ho.low.1;have:=p2.1;simp;omega,λj hj=>?_⟩,by simpa using a2,?_,v1,?_,?_,y⟩
   .rw[Z0e (by omega),p2.2 j (by omega) (λe=>by have:=l _ e;omega)];exact ho.low.2 j hj
   .rw[Z0e (by omega)];exact a6
   .simp[t]
   .exact p1.keep ⟨by simp,λj hj h=>by rw[Z0e];rintro rfl;exact h rfl⟩ (o:=some n) (λf hf e=>by simp at e;have:=y f hf;omega)
  have w:A0m (some 1) M2 (.ptr n 0) v1=some (M2.set n (.cells 37 [v1])):=by rw[A0h s,p1.cells,Z0d ⟨p1.store,by simp,rfl⟩];rfl
  obtain⟨M3,a0⟩:∃M3,M3=M2.set n (.cells 37 [v1]):=⟨_,rfl⟩;rw[<-a0]at u w;have a4:M2[n]?=M[n]?:=by rw[s,c]
  simp -dsimp -implicitDefEqProofs[w,a4];clear w a0 a2 y t a6 s p1 p2 p3 a4 c a1 l a8 b;refine A0y hLn ks.length 17 (λT M5=>∃i:Nat,i<=ks.length/\T 1=I d/\T 2=.ptr n 0/\T 3=.ptr (n+1) 0/\T 15=.list 8 (A0q ks) .no/\T 16=I ks.length/\T 17=I i/\B6U n M0 M5 (xs++[A6W U d]++A6h (d+1) (ks.take i))) ?_ ?_
  .exact⟨0,by omega,by simp,by simp,by simp,by simp[g],by simp[g],by simp,by simpa[A6h]using u⟩
  clear u;rintro T M5 ⟨i,i1,t1,t2,t3,r,p,q,h5⟩;by_cases hi:i<ks.length;case neg=>
   (have x:¬(i:Int)<ks.length:=by omega);rw[Z0k (by omega)]at h5
   (have hL:A6d d U=A6W U d::A6h (d+1) ks:=by rw[<-g];cases U;rw[A6d];rfl);simp -dsimp -implicitDefEqProofs[t1,t2,t3,r,p,q,x]
   rw[hL];simpa using h5
  have x:(i:Int)<ks.length:=by omega
  have w1:=A1E (i:=i) (by have:=A1Q ks;have:=hf.2.2;omega);have w2:=A1E (i:=d) (by omega);have a7:ks[i]∈ks:=Z0q hi;have a:ks[i]∈U.kids:=by rw[g];exact a7
  have ab:=D2Q _ a;have ac:A0f (ks.take i)+A0j ks[i]<=A0f ks:=C7f hi;have h6:=h5.app [A0p.cells 27 ks[i].row];have m:=C2I a5 a3 N ks[i] (d+1) n M0 _ _ (by omega) (D7X hf _ a) (D3X hb _ a) (B5C hr _ a) (by omega) h6 (by simp[B0U];omega);obtain⟨M6,z⟩:∃M6,M6=M5++[A0p.cells 27 ks[i].row]:=⟨_,rfl⟩;have aa:M6[M5.length]?=some (A0p.cells 27 ks[i].row):=by rw[z];simp
  rw[<-z]at m h6;simp -dsimp -implicitDefEqProofs[t1,t2,t3,r,p,q,hi,x,A0l,A0m,A0e,AV.storable,AV.cells];rw[<-z];simp -dsimp -implicitDefEqProofs[t1,t2,t3,r,p,q,A0b aa,A0b h6.fn,w2];refine A0s func181 m ?_;intro _ M7 h7;simp -dsimp -implicitDefEqProofs[t1,t2,t3,r,p,q,w1];refine⟨⟨i+1,by clear w1;omega,rfl,?_⟩,by clear w1;omega⟩;rw[C8m hi];simpa using h7
def C5Y{n}{M}{v}{l}(h:A1b 9 1 A6U M v l)(hl:A1g n v){cs ds}(hr:Still M n (bdd n) cs ds):Still M n (bdd n) (v::cs) (.list 1 (A1d l) .no::ds):=Still.append (a:=[v]) (b:=[.list 1 (A1d l) .no]) (A3i (λ_=>rfl) C0T h hl) hr
def D4J(b:gl 0=A2h)(d:gl 1=A2s)(u:A0a)(M:Mem)(hf:Fit u)(hb:A3n u):A0c (WC gl) 126 [.agg u.row] M (λv M'=>v=(if B1s u=true then .list 1 (A1d (A6d 0 u)) .no else A0x)/\M'=M):=by
 have hS:=λM=>B9X gl u (.list 8 (A0q u.kids) .no) M (.inl rfl) hf.1 hf.2.1 hf.2.2 hb
 have hV:=λM=>B4V gl b d u M hf
 rw[B4e hb]at hV
 rw[show A6V u (.list 8 (A0q u.kids) .no)=u.row from u.row_eq.symm]at hS
 refine A0c.dataX ?_
 refine A0o hLn func126 ?_
 cases hfm:B1s u
 .rw[hfm]at hV;rw[u.row_eq]at hS hV|-;simp -dsimp -implicitDefEqProofs;refine A0i func180 (hS M) ?_;simp -dsimp -implicitDefEqProofs;refine A0i func109 (hV M) ?_;simp -dsimp -implicitDefEqProofs;exact⟨Grow.refl _,.same (by simp[bdd]) .nil⟩
 rw[hfm]at hV
 have c:=hfm
 simp only[B1s,Z0g,Z0l]at c
 have ho:B6U M.length M (M++[.cells 37 [A0x],.cells 100 [.func (.func 181) [] [.ptr M.length 0,.ptr (M.length+1) 0]]]) []:=by refine⟨⟨by simp,λj hj=>by rw[Z0h hj]⟩,by simp,by simp[Z0Z],A0x,by simp,.nil,λf hf=>by simp at hf⟩
 have a:=C2I gl b d _ u 0 M.length M _ [] (Z0n _) hf hb c.1.1 (by omega) ho (by have:=hf.2.2;simp;omega)
 have hX:=ho.fn
 have e:A0m (some 1) (M++[.cells 37 [A0x],.cells 100 [.val .nilFunc]]) (.ptr (M.length+1) 0) (.func (.func 181) [] [.ptr M.length 0,.ptr (M.length+1) 0])=some (M++[.cells 37 [A0x],.cells 100 [.func (.func 181) [] [.ptr M.length 0,.ptr (M.length+1) 0]]]):=by rw[A0h (bt:=100) (cs:=[.val .nilFunc]) (by simp[Z0Z])];simp[List.set_append,A0e,AV.storable,AV.cells]
 rw[u.row_eq]at hS hV a|-
 simp -dsimp -implicitDefEqProofs
 refine A0i func180 (hS M) ?_
 simp -dsimp -implicitDefEqProofs
 refine A0i func109 (hV M) ?_
 simp -dsimp -implicitDefEqProofs[A0l,e,A0b hX]
 refine A0s func181 a ?_
 rintro _ M2 ⟨h1,h2,h3,v,h4,h5,h6⟩
 simp -dsimp -implicitDefEqProofs[A0b h4]
 refine⟨h1.grow (Grow.refl _) (Z0n _),?_⟩
 exact C5Y h5 (λf hf=>by have:=h6 f hf;omega) .nil
end
end
section
def D2i(u:A0a)(d:Nat)(ha:A3W u=true)(g:u.label.size<=1000):(A6W u d).size<=2*d+15000:=by
 obtain⟨hk,hh,hw⟩:=A9f ha;obtain⟨o,f⟩:=A7H hh;obtain⟨m,c⟩:=A7H hw;have e:(⟨#[32]⟩:ByteArray).size=1:=rfl;have b:(⟨#[58]⟩:ByteArray).size=1:=rfl;have e3:(⟨#[32,124]⟩:ByteArray).size=2:=rfl;have k:=B3O d;have key:∀n:Fin 8,(A9V.getD n.val ⟨#[]⟩).size<=9:=by decide
 have a:=key ⟨u.kind.toNat,by omega⟩;simp only at a;have i:(B3q u d).size<=2*d+9:=by rw[B3q,Z0H];omega
 have l:(A9a u d).size<=2*d+1010:=by
  unfold A9a;split
  .omega
  .rw[Z0H,Z0H,e];omega
 have j:(A7C u d).size<=2*d+7700:=by
  unfold A7C;split
  .omega
  .have:=B0c u.head (A9a u d++⟨#[58]⟩) (λw h=>(f w h).2);rw[Z0H,b]at this;omega
 unfold A6W;split
 .omega
 .have:=B0c u.words (A7C u d++⟨#[32,124]⟩) (λw h=>(c w h).2);rw[Z0H,e3]at this;omega
mutual
def B6O:∀(u:A0a) (d:Nat),A2c u=true->u.lims->d+A1D u<=8->A6M (A6d d u)<=A0j u*15020
 |.mk a b c e f ks,d,hr,hl,hd=>by have h1:=D2i _ d (A7B hr) (A3t _ hl).1.2.2.2;rw[A0a.lims]at hl;rw[A2c,Z0g]at hr;rw[A1D]at hd;have h2:=B6t ks (d+1) b [] hr.2 hl.2 (λh=>by omega);rw[A6d,B2i,A0j];omega
def B6t:∀(ks:List A0a) (d:Nat) (p:Int) (bf:List A0a),A4x p ks bf=true->A5s ks->(ks≠[]->d+A2I ks<=9)->A6M (A6h d ks)<=A0f ks*15020
 |[],d,p,bf,_,_,_=>by rw[A6h,A0f];simp
 |k::ks,d,p,bf,hr,hl,hd=>by rw[A4x]at hr;simp only[Z0g]at hr;rw[A5s]at hl;have hd:=hd (by simp);rw[A2I]at hd;have h1:=B6O k d hr.1.1.2 hl.1 (by omega);have h2:=B6t ks d p _ hr.2 hl.2 (λ_=>by omega);rw[A6h,C8U,A0f];omega
end
def D3A(d:Nat)(u:A0a):A6d d u≠[]:=by cases u;rw[A6d];simp
section
variable (gl:Nat->AV)
def C1R(f:gl 0=A2h)(e:gl 1=A2s)(u:A0a)(M:Mem)(hf:Fit u)(hb:A3n u):A0c (WC gl) 72 [.agg u.row] M (λv M'=>(∃t,v=.tuple [S t,I (B0R u)])/\M'=M):=by
 refine A0o hB func72 ?_
 have hL:=D4J gl f e u M hf hb
 cases hfm:B1s u
 .rw[hfm,Z0c (by simp)]at hL;have hE:B0R u=1:=by simp[B0R,hfm]
  rw[u.row_eq]at hL|-;simp -dsimp -implicitDefEqProofs;refine A0i func126 hL ?_;simp -dsimp -implicitDefEqProofs[hE]
 rw[hfm,Z0d rfl]at hL
 have c:=hfm
 simp only[B1s,Z0g,Z0l]at c
 obtain⟨L,j⟩:∃L,L=A6d 0 u:=⟨_,rfl⟩
 have k:=B6O u 0 c.1.1 hf.2.1 (by omega)
 have a:=D3A 0 u
 have i:=B4H 0 u
 have hE:B0R u=if 16384<A6M (A6d 0 u)then 6 else 0:=by simp[B0R,hfm]
 rw[<-j]at hL k a i hE
 have l:=hf.2.2
 have h:=D5i [10] rfl L a
 have g:0<L.length:=by rcases L with _|_<;>simp at a|-
 have b:¬(L.length:Int)=0:=by omega
 have m:(C1F L ⟨#[10]⟩).size+1=A6M L:=h
 have hj:=λM=>D8p gl M L .no ⟨#[10]⟩ (by omega) (by show(Lib.join _ [10]).length<=_;omega)
 rw[u.row_eq]at hL|-
 simp -dsimp -implicitDefEqProofs
 refine A0i func126 hL ?_
 simp -dsimp -implicitDefEqProofs[B5Z,b,g,a]
 refine A0i func127 (hj M) ?_
 have d:(⟨#[10]⟩:ByteArray).size=1:=rfl
 have b1:¬(9223372036854775807:Int)<(C1F L ⟨#[10]⟩).size+1:=by omega
 by_cases hbig:16384<A6M L
 .have h2:(16384:Int)<(C1F L ⟨#[10]⟩).size+1:=by omega
  rw[Z0d hbig]at hE;simp -dsimp -implicitDefEqProofs[d,b1,Z0H,h2,hE]
 .have h2:¬(16384:Int)<(C1F L ⟨#[10]⟩).size+1:=by omega
  rw[Z0c hbig]at hE;simp -dsimp -implicitDefEqProofs[d,b1,Z0H,h2,hE]
end
end
open Go.Proofs TryTypes
section
variable (gl:Nat->AV)
end
section
variable (gl:Nat->AV) (M:Mem)
end
section
variable (gl:Nat->AV)
end
section
variable (gl:Nat->AV)
end
section
variable (gl:Nat->AV)
end
section
variable (gl:Nat->AV)
end
section
def B2q{E:Nat->Int}:∀(r i:Nat),A7O E r i=0->∀j,i<=j->j<i+r->E j=0
 |0,i,_,j,h1,h2=>by omega
 |r+1,i,h,j,h1,h2=>by
  rw[A7O]at h;by_cases c:E i=0
  .rw[Z0d c]at h;rcases Z3G i j with h3|h3
   .exact B2q r (i+1) h j h3 (by omega)
   .rw[show j=i by omega];exact c
  .rw[Z0c c]at h;exact absurd h c
mutual
def D0M(P:A0a->Prop)(hk:∀u,P u->∀k∈u.kids,P k):∀u:A0a,P u->∀v∈A5m u,P v
 |.mk a b c d e ks,h,v,hv=>by
  rw[A5m]at hv;rcases Z0t.1 hv with rfl|hv
  .exact h
  .exact C6l P hk ks (λk hm=>hk _ h k hm) v hv
def C6l(P:A0a->Prop)(hk:∀u,P u->∀k∈u.kids,P k):∀ks:List A0a,(∀k∈ks,P k)->∀v∈A4Q ks,P v
 |[],_,v,hv=>by rw[A4Q]at hv;simp at hv
 |k::ks,h,v,hv=>by
  rw[A4Q]at hv;rcases Z0P.1 hv with hv|hv
  .exact D0M P hk k (h k (by simp)) v hv
  .exact C6l P hk ks (λq hq=>h q (by simp[hq])) v hv
end
def B1n{u v}{x}(h:A1i x u=some v):v.id=x/\v∈A5m u:=by rw[B0a]at h;refine⟨?_,Z3m h⟩;have:=List.find?_some h;simpa using this
structure A7D (u:A0a) (l:List A0C):Prop where
 ord:∀j,j<l.length->B3j l j
 fd:∀n (h:n<l.length),∃x,A1i l[n].id u=some x/\x.good/\x.words.length<=300/\x.head.length<=300
 lab:∀n (h:n<l.length),l[n].label.size<=7
 nd:(l.map A0C.id).Nodup
 nu:(A0T u).Nodup
 mem:∀x∈l,x.id∈(A0T u).tail
 len:l.length=(A0T u).tail.length
def C5K{u}{l}(hf:Fit u)(h:A6i (λx=>A1i x u) u l=0):A7D u l:=by
 unfold A6i at h;split at h
 .simp at h
 rename_i hb;simp only[Z1T,Z3X]at hb;split at h;case isFalse m=>exact absurd h m
 rename_i hfe;split at h;case isFalse=>simp at h
 rename_i hlen;have he:=λn (hn:n<l.length)=>B2q _ _ hfe n (Z2S _) (by omega);simp only[A3E,C0F,Z0g,Z0l]at hb;obtain⟨⟨s,⟨⟨hr,t⟩,hc⟩,r⟩,g⟩:=hb;have q:(A0T u).Nodup:=by have:=A7J (A0T u) [] Z4A g;simpa using this
 have key:∀n (h:n<l.length),(∃x,A1i l[n].id u=some x)/\l[n].id≠u.id/\(∀j (hj:j<n),(l[j]'(by omega)).id≠l[n].id)/\A0B l[n].label=true:=by
  intro n hn;have h:=he n hn;simp only[B3K,Z0m hn]at h;split at h
  .simp at h
  rename_i h1;split at h
  .simp at h
  rename_i h2;split at h
  .simp at h
  split at h
  .simp at h
  rename_i h4;simp only[Z1z,Z1T,Z0l,Z3a,Z3X]at h1;refine⟨Z4g.1 h1.1,h1.2,λj hj e=>?_,by simpa using h4⟩;refine h2 (Z2r.2 ⟨l[j]'(by omega),?_,by simpa using e⟩);exact List.mem_take_iff_getElem.2 ⟨j,by omega,rfl⟩
 have o:=A5a u;refine⟨C8g he,λn hn=>?_,λn hn=>B7s (key n hn).2.2.2,?_,q,λy hy=>?_,?_⟩
 .obtain⟨x,hx⟩:=(key n hn).1;obtain⟨h1,h2⟩:=B1n hx;have h3:=D0M (λv=>v.good/\A2c v=true) (λv hv k hm=>⟨((A0a.good_iff _).1 hv.1).2.2.2.2.2.2.2.2 k hm,B5C hv.2 k hm⟩) u ⟨hf.1,hr⟩ x h2;obtain⟨_,hh,hw⟩:=A9f (A7B h3.2);exact⟨x,hx,h3.1,by have:=(A7H hw).1;omega,by have:=(A7H hh).1;omega⟩
 .rw[List.Nodup,Z1O];intro i j hi hj p;simp only[Z1R];exact(key j (by simpa using hj)).2.2.1 i p
 .obtain⟨n,hn,rfl⟩:=Z3l hy;obtain⟨⟨x,hx⟩,m,_⟩:=key n hn;obtain⟨h1,h2⟩:=B1n hx;have h3:l[n].id∈A0T u:=by rw[<-A6E,<-h1];exact Z0G.2 ⟨x,h2,rfl⟩
  obtain⟨a,b,c,d,e,f⟩:=u;rw[A0T]at h3|-;rcases Z0t.1 h3 with h3|h3
  .exact absurd h3 m
  .exact h3
 .rw[List.length_tail,o];omega
section
variable {F:IdD->Option A0a} {l:List A0C} {s:List A2m}
def C7X{x}(hl:l.length<=1000)(f:∀s∈l,s.good)(ht:∀m∈s,m.to.length<=40)(hx:x.good)(b:x.words.length<=300):(A7o F l s x).1.length<=100000000/\∀t∈(A7o F l s x).1,t.size<=maxLen:=by
 have c:(A0N x.words).length<=300:=by simpa[A0N]using b
 have a:∀t∈A0N x.words,t.size<=maxLen:=by intro t h;obtain⟨w,hw,rfl⟩:=Z0G.1 h;exact(((A0a.good_iff _).1 hx).2.2.2.2.2.2.1 w hw).1
 unfold A7o;simp only;generalize A0N x.words=xs at*;have e:(A3o xs 0).length<=xs.length:=B0r xs _ _;have d:=B1Q (A3o xs 0) (λn:Nat=>A2F F l s x.id n) (λi=>B2F ht) (A3o xs 0).length;obtain⟨s1,s2⟩:=A8D (old:=A8e (A3o xs 0) (λn:Nat=>A2F F l s x.id n) (A3o xs 0).length) (names:=A9S (λn:Nat=>A2F F l s x.id n) (A3o xs 0).length) (B:=maxLen) (by simp[maxLen]) a;have:(A8e (A3o xs 0) (λn:Nat=>A2F F l s x.id n) (A3o xs 0).length).length*(xs.length+19)<=12000*400:=Z4z (by omega) (by omega);exact⟨by omega,s1⟩
def B1o{t}(h:t.size<=maxLen):(A1O t).good:=by refine⟨h,?_⟩;simp[A1O,inI]
def B6a(a:∀j,j<l.length->B3j l j){n k:Nat}(hk:k∈A2T l n l.length):n<k/\k<l.length:=by
 simp only[A2T,Z1G,Z1q,Z0l]at hk;have:=(a k hk.1 k hk.1 (Z0n _)).2;have h2:A2t l k=l[k].parent:=by simp[A2t,hk.1]
 rw[<-h2,hk.2]at this;omega
def B8T{g:Nat->A0a×List IdD×Int}:∀K:List Nat,(∀k∈K,A0j (g k).1=(g k).2.1.length)->A0f ((K.map g).map (·.1))=((K.map g).flatMap (·.2.1)).length
 |[],_=>by rw[Z2c,Z2c,A0f];rfl
 |k::K,h=>by have h1:=B8T K λq hq=>h q (by simp[hq]);have h2:=h k (by simp);simp only[Z0s,A0f,Z0W,Z0r,h1,h2]
def B2o(a:∀j,j<l.length->B3j l j):∀f n,n<l.length->l.length<=f+n->A0j (A2M F l s f n).1=(A2M F l s f n).2.1.length
 |0,n,h1,h2=>by omega
 |f+1,n,h1,h2=>by
  have:=B8T (g:=A2M F l s f) (A2T l n l.length) λk hk=>by obtain⟨h3,h4⟩:=B6a a hk;exact B2o a f k h4 (by omega)
  rw[A2M];simp only;rw[A0j,this,Z0x];omega
def B8O(hl:l.length<=1000)(e:∀s∈l,s.good)(ht:∀m∈s,m.to.length<=40)(a:∀j,j<l.length->B3j l j)(c:∀n (h:n<l.length),l[n].label.size<=7)
 (g:∀n (h:n<l.length),∃x,F l[n].id=some x/\x.good/\x.words.length<=300/\x.head.length<=300):∀f n,n<l.length->l.length<=f+n->(A2M F l s f n).1.good/\(A2M F l s f n).1.lims
 |0,n,h1,h2=>by omega
 |f+1,n,h1,h2=>by
  obtain⟨x,hx,d,i,q⟩:=g n h1;have o:A6k F l n=x:=by simp[A6k,h1,hx]
  have p:A8V l n=l[n].label:=by simp[A8V,h1]
  have r:=c n h1;have hb:=B1B l n l.length;obtain⟨w1,w2⟩:=C7X (F:=F) (l:=l) (s:=s) hl e ht d i;obtain⟨_,gk,_,_,gh,_,_,_,_⟩:=(A0a.good_iff _).1 d;have b:∀k∈((A2T l n l.length).map (A2M F l s f)).map (·.1),k.good/\k.lims:=by intro k hk;rw[Z1s]at hk;obtain⟨y,hy,rfl⟩:=Z0G.1 hk;obtain⟨h3,h4⟩:=B6a a hy;exact B8O hl e ht a c g f y h4 (by omega)
  rw[A2M];simp only;rw[o,p];have hm:∀n:Nat,n<=100000000->n<=maxLen:=λn h=>by show n<=9223372036854775807;omega
  refine⟨(A0a.good_iff _).2 ⟨by simp[A0a.id,IdD.good,idZ,inI],gk,hm _ (by show l[n].label.size<=_;omega),hm _ (by show(x.head.map _).length<=_;rw[Z0K];omega),?_,hm _ (by simpa[A0a.words]using w1),?_,hm _ (by simp[A0a.kids];omega),λk hk=>(b k hk).1⟩,?_⟩
  .intro w hw;obtain⟨h,hh,rfl⟩:=Z0G.1 hw;exact B1o (gh h hh).1
  .intro w hw;obtain⟨t,ht,rfl⟩:=Z0G.1 hw;exact B1o (w2 t ht)
  .rw[A0a.lims];refine⟨⟨by show(x.head.map _).length<=_;rw[Z0K];omega,by simpa[A0a.words]using w1,by simp[A0a.kids];omega,by show l[n].label.size<=_;omega⟩,A3g.2 λk hk=>(b k hk).2⟩
def B5t{u}(hS:A7D u l)(hl:l.length<=1000)(a:∀s∈l,s.good)(ht:∀m∈s,m.to.length<=40){f n}(h1:n<l.length)(h2:l.length<=f+n):Fit (A2M (λy=>A1i y u) l s f n).1:=by obtain⟨g1,g2⟩:=B8O (F:=λy=>A1i y u) (s:=s) hl a ht hS.ord hS.lab hS.fd f n h1 h2;refine⟨g1,g2,?_⟩;rw[B2o hS.ord f n h1 h2];have:=B5N (F:=λy=>A1i y u) (s:=s) hS.ord f n h1 h2;omega
end
end
inductive A1L where
 |rep (p:List A0M)
 |ins (u:A0a)
abbrev eS:AV:=S ⟨#[]⟩
def A1L.row:A1L->List AV
 |.rep p=>[I 1,A9r p,A0x,I 0,I 0,I 0,I 0,I 0,I 0,eS,A0x,A0x,A0x,A0x,A0x,eS,eS,I 0,I 0,eS,I 0,I 0,I 0,eS,A0x]
 |.ins u=>[I 0,A0x,A0x,I 1,I 0,I u.id.act,I u.id.item,I u.id.n,I u.kind,S u.label,.list 4 (A0g u.head) .no,.list 4 (A0g u.words) .no,.list 8 (A0q u.kids) .no,A0x,A0x,eS,eS,I 0,I 0,eS,I 0,I 0,I 0,eS,A0x]
@[simp] def A1L.row_len(x:A1L):x.row.length=25:=by cases x<;>rfl
def A9K:ByteArray:=⟨#[99,111,100,105,102,105,99,97,116,105,111,110]⟩
def B0F:AV:=.agg [I 0,eS,I 0,I 0,I 0,eS,A0x]
def C7M(number day:Int)(items:List A1L):AV:=.agg [I number,S A9K,I day,I 1,I day,eS,.list 25 (items.map A1L.row) .no]
def A5b(x:IdD×IdD):List AV:=[I x.1.act,I x.1.item,I x.1.n,I x.2.act,I x.2.item,I x.2.n]
abbrev A4Z:=A0a×List IdD×Int
def C5e(t:A4Z):Int:=if B0R t.1=0 then t.2.2 else 6
def A6X(ts:List A4Z)(e:Int):Int:=ts.foldl (λe t=>A5I e (C5e t)) e
def A2E(u:A0a):List A1L:=u.kids.map λk=>.rep ((A6A u k.id).getD [])
def A3j(ts:List A4Z):List A1L:=ts.map λt=>.ins t.1
def A7Q(number:Int)(u:A0a)(ts:List A4Z):List (IdD×IdD):=A4G number (ts.map (·.2.1)) u.kids.length
def A5F(number:Int)(u:A0a)(ts:List A4Z):List (IdD×IdD):=(A0T u).tail.flatMap λx=>(A7Q number u ts).filter λy=>decide (y.1=x)
def C3O(number day:Int):Bool:=decide (number<1)||decide (1048576<number)||decide (day<0)||decide (1048576<day)
def C4a(u:A0a)(ts:List A4Z):Int:=if 32<u.kids.length+ts.length then 6 else A6X ts 0
def A5N(e:Int):AV:=.tuple [B0F,A0x,I e]
def D8K(u:A0a)(l:List A0C)(s:List A2m)(number day:Int):AV:=
 let F:=λx=>A1i x u
 let ts:=A2o F l s
 if A6i F u l≠0 then A5N (A6i F u l)
 else if C3O number day=true then A5N 1
 else if((A0T u).tail.any λx=>decide (x.act=number))=true then A5N 5
 else if C4a u ts≠0 then A5N (C4a u ts)
 else .tuple [C7M number day (A2E u++A3j ts),.list 6 ((A5F number u ts).map A5b) .no,I 0]
def C1B(c:Int):∀(a b:List (List IdD)) (j:Nat),A4G c (a++b) j=A4G c a j++A4G c b (j+a.length)
 |[],b,j=>by simp[A4G]
 |x::a,b,j=>by rw[Z1a,A4G,A4G,C1B c a b (j+1),Z0T,Z0x];congr 3;omega
def B9d{K V:Type}[DecidableEq K]:∀(W:List (K×V)),(W.map (·.1)).Nodup->∀y∈W,A1V W y.1=some y.2
 |[],_,y,hy=>by simp at hy
 |(k,v)::W,hn,y,hy=>by
  simp only[Z0s,Z1A]at hn;rw[A1V];rcases Z0t.1 hy with rfl|hy
  .simp
  .have:y.1≠k:=λe=>hn.1 (e▸Z0G.2 ⟨y,hy,rfl⟩);rw[Z0c this];exact B9d W hn.2 y hy
section
variable {u:A0a} {l:List A0C} {s:List A2m}
def B3Y(a:Int)(ts:List A4Z):(A7Q a u ts).map (·.1)=ts.flatMap (·.2.1):=by rw[A7Q,A8p,Z2s];rfl
def B2U(hS:A7D u l):((A2o (λy=>A1i y u) l s).flatMap (·.2.1)).Nodup/\∀x,x∈(A2o (λy=>A1i y u) l s).flatMap (·.2.1)<->x∈(A0T u).tail:=by
 refine D1N (λj hj=>?_) (λk hk=>?_) hS.nd hS.nu hS.mem hS.len
 .have:=hS.ord j hj j hj (Z0n _);simpa[A2t,hj]using this
 .obtain⟨x,hx,_⟩:=hS.fd k hk;have:A6k (λy=>A1i y u) l k=x:=by simp[A6k,hk,hx]
  rw[this];exact(B1n hx).1
def C0O(hS:A7D u l)(a:Int):A5F a u (A2o (λy=>A1i y u) l s)=(A0T u).tail.map λx=>(x,(A1V (A7Q a u (A2o (λy=>A1i y u) l s)) x).getD idZ):=by
 obtain⟨h1,h2⟩:=B2U (s:=s) hS;have hk:=B3Y (u:=u) a (A2o (λy=>A1i y u) l s);refine D3a (by rw[hk];exact h1) (λy hy=>?_) (λx hx=>?_)
 .rw[B9d _ (by rw[hk];exact h1) y hy];rfl
 .rw[hk];exact(h2 x).2 hx
def C5G(hS:A7D u l)(hl:l.length<=1000):∀t∈A2o (λy=>A1i y u) l s,t.2.1.length<=1000:=by intro t ht;obtain⟨n,hn,rfl⟩:=Z0G.1 ht;have:=B5N (F:=λy=>A1i y u) (s:=s) hS.ord l.length n (A7A hn) (by omega);omega
end
section
variable (gl:Nat->AV) (M:Mem)
def B1M(k:Int):A0c (WC gl) 132 [I k] M (λv M'=>v=B (decide (0<=k)&&decide (k<=6))/\M'=M):=by
 refine A0o hB func132 ?_;by_cases h1:0<=k
 .by_cases h2:k<=6
  .simp -dsimp -implicitDefEqProofs[h1,h2]
  .simp -dsimp -implicitDefEqProofs[h1,h2]
 .simp -dsimp -implicitDefEqProofs[h1]
def C1w(k:Int):A0c (WC gl) 351 [I k] M (λv M'=>v=B (decide (0<=k)&&decide (k<=3))/\M'=M):=by
 refine A0o hB func351 ?_;by_cases h1:0<=k
 .by_cases h2:k<=3
  .simp -dsimp -implicitDefEqProofs[h1,h2]
  .simp -dsimp -implicitDefEqProofs[h1,h2]
 .simp -dsimp -implicitDefEqProofs[h1]
def C4V(k a b:Int):A0c (WC gl) 320 [I k,I a,I b] M (λv M'=>v=B (decide (a<=k)&&decide (k<=b))/\M'=M):=by
 refine A0o hB func320 ?_;by_cases h1:a<=k
 .by_cases h2:k<=b
  .simp -dsimp -implicitDefEqProofs[h1,h2]
  .simp -dsimp -implicitDefEqProofs[h1,h2]
 .simp -dsimp -implicitDefEqProofs[h1]
def C7v(k:Int):A0c (WC gl) 302 [I k] M (λv M'=>v=B (decide (0<=k)&&decide (k<=3))/\M'=M):=by refine A0o hB func302 ?_;simp -dsimp -implicitDefEqProofs;refine A0i func320 (C4V gl M k 0 3) ?_;simp -dsimp -implicitDefEqProofs
def D4a(k:Int):A0c (WC gl) 403 [I k] M (λv M'=>v=I k/\M'=M):=by refine A0o hB func403 ?_;simp -dsimp -implicitDefEqProofs
def B4m:A0c (WC gl) 242 [.agg [I 0,I 0,eS]] M (λv M'=>v=B true/\M'=M):=by refine A0o hB func242 ?_;simp -dsimp -implicitDefEqProofs
def D2m(x:A1L):A0c (WC gl) 305 [.agg x.row] M (λv M'=>v=B true/\M'=M):=by refine A0o hB func305 ?_;simp -dsimp -implicitDefEqProofs
end
def A9y:List AV:=[I 0,A0x,A0x,I 0,I 0,I 0,I 0,I 0,I 0,eS,A0x,A0x,A0x,A0x,A0x,eS,eS,I 0,I 0,eS,I 0,I 0,I 0,eS,A0x]
@[simp] def E0c:A9y.length=25:=rfl
def D1B(u:A0a):List AV:=[I 0,A0x,A0x,I 1,I 0,I u.id.act,I u.id.item,I u.id.n,I u.kind,S u.label,.list 4 (A0g u.head) .no,.list 4 (A0g u.words) .no,.list 8 (A0q u.kids) .no,A0x,A0x,eS,eS,I 0,I 0,eS,I 0,I 0,I 0,eS,A0x]
@[simp] def E3s(u:A0a):(D1B u).length=25:=rfl
def C8S:A0w prog 128 []=some (.agg A9y):=by simp[A0w,A1e,A9y]
section
variable (gl:Nat->AV) (M:Mem)
def D2N(x:A1L):A0c (WC gl) 304 [.agg x.row] M (λv M'=>v=.agg A9y/\M'=M):=by
 refine A0c.dataX ?_;obtain⟨Ma,a⟩:∃Ma,Ma=M++[A0p.cells 128 A9y]:=⟨_,rfl⟩;have d:Grow M Ma:=by rw[a];exact A0d.app none _ _
 have b:Ma[M.length]?=some (A0p.cells 128 A9y):=by rw[a];simp
 have c:M.length<Ma.length:=(Z0a.1 b).1;refine A0o hB func304 ?_;simp -dsimp -implicitDefEqProofs[A0l,C8S];rw[show M++[A0p.cells 128 [I 0,A0x,A0x,I 0,I 0,I 0,I 0,I 0,I 0,eS,A0x,A0x,A0x,A0x,A0x,eS,eS,I 0,I 0,eS,I 0,I 0,I 0,eS,A0x]]=Ma by rw[a];rfl];simp -dsimp -implicitDefEqProofs[A0h b,A0K,A0I,A0z c,A0k];exact⟨A1o d (Z0n _),.same (by simp[bdd,A1Y,A9y]) .nil⟩
def D1J(u:A0a):A0c (WC gl) 300 [.agg (A1L.ins u).row] M (λv M'=>v=.agg (D1B u)/\M'=M):=by
 refine A0c.dataX ?_;obtain⟨Ma,a⟩:∃Ma,Ma=M++[A0p.cells 128 A9y]:=⟨_,rfl⟩;have e:Grow M Ma:=by rw[a];exact A0d.app none _ _
 have b:Ma[M.length]?=some (A0p.cells 128 A9y):=by rw[a];simp
 have c:M.length<Ma.length:=(Z0a.1 b).1;have d:A0w prog 128 [(3,I 1),(5,.agg [I u.id.act,I u.id.item,I u.id.n,I u.kind,S u.label,.list 4 (A0g u.head) .no,.list 4 (A0g u.words) .no,.list 8 (A0q u.kids) .no])]=some (.agg (D1B u)):=by simp[A0w,A1e,A1r,A0e,AV.cells,AV.storable,D1B]
 refine A0o hB func300 ?_;simp -dsimp -implicitDefEqProofs[A1L.row,A0l,d];rw[show M++[A0p.cells 128 [I 0,A0x,A0x,I 0,I 0,I 0,I 0,I 0,I 0,eS,A0x,A0x,A0x,A0x,A0x,eS,eS,I 0,I 0,eS,I 0,I 0,I 0,eS,A0x]]=Ma by rw[a];rfl];simp -dsimp -implicitDefEqProofs[A0h b,A0K,A0I,A0z c,A0k];have hb:=A2U M.length u;rw[u.row_eq]at hb;exact⟨A1o e (Z0n _),.same (by simp[bdd,A1Y,D1B]at hb|-;exact hb) .nil⟩
end
def D7A:A1z prog .neq 150 (.agg [I 0,I 0,I 0]) (.agg [I 0,I 0,I 0])=some (B false):=by kernel_rfl
def E4K:A1z prog .eql 23 (.agg [I 0,I 0,I 0]) (.agg [I 0,I 0,I 0])=some (B true):=by kernel_rfl
section
variable (gl:Nat->AV) (M:Mem)
def C3H(w:A0H)(h:B1z w):A0c (WC gl) 390 [.agg w.row] M (λv M'=>v=B false/\M'=M):=by rw[C2t h];refine A0o hB func390 ?_;simp -dsimp -implicitDefEqProofs[C6n,D7A]
def D2v(l:List A0H)(o:Own)(hl:l.length<=100000000)(hb:∀w∈l,B1z w):A0c (WC gl) 408 [.list 4 (A0g l) o,.func (.func 390) [] []] M (λv M'=>v=I (-1)/\M'=M):=by
 refine A0o hB func408 ?_;simp -dsimp -implicitDefEqProofs;refine A0y hB l.length 8 (λT M1=>∃i:Nat,i<=l.length/\M1=M/\T 0=.list 4 (A0g l) o/\T 1=.func (.func 390) [] []/\T 7=I l.length/\T 8=I i) ?_ ?_
 .exact⟨0,by omega,rfl,by simp,by simp,by simp,by simp⟩
 .rintro T M1 ⟨i,i1,rfl,t0,t1,t7,t8⟩;by_cases hi:i<l.length
  ·(have a:(i:Int)<l.length:=by omega);have w1:IntKind.i64.wrap ((i:Int)+1)=(i+1:Nat):=by rw[A0J (by omega) (by omega)];omega
   simp -dsimp -implicitDefEqProofs[t0,t1,t7,t8,hi,a,A0H.row];refine A0i func390 (C3H gl _ l[i] (hb _ (Z0q hi))) ?_;simp -dsimp -implicitDefEqProofs[t0,t1,t7,t8,w1];exact⟨⟨i+1,by clear w1;omega,rfl⟩,by clear w1;omega⟩
  ·(have a:¬(i:Int)<l.length:=by omega);simp -dsimp -implicitDefEqProofs[t0,t1,t7,t8,a]
def C2F(l:List A0H)(o:Own)(hl:l.length<=100000000)(hb:∀w∈l,B1z w):A0c (WC gl) 391 [.list 4 (A0g l) o,.func (.func 390) [] []] M (λv M'=>v=B false/\M'=M):=by refine A0o hB func391 ?_;simp -dsimp -implicitDefEqProofs;refine A0i func408 (D2v gl M l o hl hb) ?_;simp -dsimp -implicitDefEqProofs
def D0o(u:A0a)(h:A3n u)(hl:u.lims):A0c (WC gl) 389 [.agg u.row] M (λv M'=>v=B true/\M'=M):=by obtain⟨h0,h1,h2,_⟩:=(A7u u).1 h;obtain⟨⟨l1,l2,-,-⟩,-⟩:=A3t _ hl;rw[u.row_eq,h0];refine A0o hB func389 ?_;simp -dsimp -implicitDefEqProofs[idZ,E4K];refine A0i func391 (C2F gl M u.head .no l1 h1) ?_;simp -dsimp -implicitDefEqProofs;refine A0i func391 (C2F gl M u.words .no l2 h2) ?_;simp -dsimp -implicitDefEqProofs
end
def C5F{M:Mem}{n f g m:Nat}{ok:AV->Prop}{e g':Nat}{cs:List AV}{a:List (Nat×Nat)}{l:List A0a}(hf:n<=f)(hm:M[f]?=some (.vec e 8 cs g' a))(hl:a.lookup g=some m)(h:l.length<=m)(b:cs.take (l.length*8)=l.flatMap A0a.row) (d:∀x:A0a,∀c∈x.row,ok c):Still M n ok [.vref f g 8 0 l.length] [.list 8 (A0q l) .no]:=by
 refine .vec hf hm hl h (B3a l) (λr hr=>?_) ?_ .nil
 .rw[A3T]at hr;obtain⟨x,_,rfl⟩:=Z0G.1 hr;exact x.row_len
 .rw[b,B0D];exact Still.refl λc hc=>by obtain⟨x,_,hx⟩:=Z2W.1 hc;exact d x c hx
def D2B(a b:List AV):(A0e a 0 b).take b.length=b:=by unfold A0e;simp
def C8x(a c:List AV)(n:Nat)(h:n<=a.length):(A0e a n c).take n=a.take n:=by unfold A0e;rw[Z0T,Z2h (by simp;omega),Z2t,Nat.min_self]
section
variable (gl:Nat->AV)
set_option maxHeartbeats 1000000 in
def D1C(k:A0a)(ks:List A0a)(f g g':Nat)(a:List (Nat×Nat))(M:Mem)(y:ks.length<=1000)(hm:M[f]?=some (.vec 27 8 ((k::ks).flatMap A0a.row) g' a))(hl:a.lookup g=some (ks.length+1)):∃cs hist',cs.take (ks.length*8)=ks.flatMap A0a.row/\hist'.lookup g=some (ks.length+1)/\A0c (WC gl) 360 [.vref f g 8 0 (ks.length+1),I 0,I 1] M (λr M'=>r=.vref f g 8 0 ks.length/\M'=M.set f (.vec 27 8 cs g' hist')):=by
 obtain⟨n,hn⟩:∃n,n=ks.length:=⟨_,rfl⟩
 obtain⟨N,hN⟩:∃N,N=n+1:=⟨_,rfl⟩
 rw[<-hn]at y hl|-
 rw[<-hN]at hl|-
 have u:f<M.length:=(Z0a.1 hm).1
 have s:(ks.flatMap A0a.row).length=n*8:=by rw[A3c A0a.row_len,hn]
 have b:((k::ks).flatMap A0a.row).length=N*8:=by rw[A3c A0a.row_len,hN,hn];rfl
 obtain⟨c0,l⟩:∃c0,c0=(k::ks).flatMap A0a.row:=⟨_,rfl⟩
 have x:c0.drop 8=ks.flatMap A0a.row:=by rw[l,Z0W,Z3h,A0a.row_len,Z4h,Z2d (by rw[A0a.row_len];omega)];rfl
 rw[<-l]at b hm
 have i:A2z prog 25 (.vref f g 8 0 N) (some (I 0)) (some (I 1)) (some (I N))=none:=by
  have:¬N=0:=by omega
  have h1:(1:Int)<=N:=by omega
  simp[A2z,A5t,A9Z,A1K,B1D,this,h1]
 have h:A3w prog 25 M (.vref f g 8 0 N) (some (I 0)) (some (I 1)) (some (I N))=some .poison:=by
  have h1:(1:Int)<=N:=by omega
  simp[A3w,hm,hl,A9Z,A1K,B1D,h1]
 have j:A2z prog 25 (.vref f g 8 0 N) none (some (I 0)) none=some (.vref f g 8 0 0):=by simp[A2z,A5t,A9Z,A1K,B1D]
 have m:A2z prog 25 (.vref f g 8 0 N) (some (I 1)) none none=some (.vref f g 8 1 n):=by
  have h1:(1:Int)<=N:=by omega
  have h2:N-1=n:=by omega
  simp[A2z,A5t,A9Z,A1K,B1D,h1,h2]
 have c:A0A M 8 (.vref f g 8 1 n)=some (ks.flatMap A0a.row,n):=by simp only[A0A,hm,hl];rw[Z0d ⟨trivial,trivial,by omega⟩,Nat.one_mul,x,Z0k (by omega)]
 have t:A0A M 8 (.vref f g 8 0 0)=some ([],0):=by simp only[A0A,hm,hl];rw[Z0d ⟨trivial,trivial,by omega⟩,Z2q];rfl
 have hb:(0+n)*120<=140737488355328:=by omega
 have a0:¬((0:Int)=1):=by omega
 /- behind the append -/
 have tail:∀(c1:List AV) (h1:List (Nat×Nat)) (M1:Mem),c1.length=N*8->c1.take (n*8)=ks.flatMap A0a.row->h1.lookup g=some N->M1[f]?=some (.vec 27 8 c1 g' h1)->
  ∃c2,c2.take (n*8)=ks.flatMap A0a.row/\(A1w 8 g (n*8) h1).lookup g=some N/\A2z prog 25 (.vref f g 8 0 n) (some (I n)) (some (I N)) none=none/\A3w prog 25 M1 (.vref f g 8 0 n) (some (I n)) (some (I N)) none=some (.vref f g 8 n 1)/\A7v prog 25 M1 (.vref f g 8 n 1)=some (.tuple [],M1.set f (.vec 27 8 c2 g' (A1w 8 g (n*8) h1))):=by
  intro c1 h1 M1 a1 w hh p
  refine⟨A0e c1 (n*8) zU,?_,?_,?_,?_,?_⟩
  .rw[C8x _ _ _ (by omega)];exact w
  .unfold A1w;exact A3m _ hh
  ·(have:¬(N:Int)<=n:=by omega);simp[A2z,A5t,A9Z,A1K,B1D,this]
  ·(have h2:N-n=1:=by omega);have h3:(n:Int)<=N:=by omega
   simp[A3w,p,hh,A5t,A9Z,A1K,B1D,h2,h3]
  ·(have h2:n+1<=N:=by omega);simp[A7v,p,hh,h2,zU]
 refine(?_:∃cs hist',_)
 by_cases h0:ks=[]
 .have d:n=0:=by rw[hn,h0];rfl
  obtain⟨c2,k1,k2,k3,k4,k5⟩:=tail c0 a M b (by rw[d,h0];simp) hl hm;refine⟨c2,A1w 8 g (n*8) a,k1,k2,?_⟩;refine A0o hB func360 ?_;simp -dsimp -implicitDefEqProofs[i,h];refine A0X hB (A0t gl) (λk=>if k=6 then 2 else 0) (λ_=>0) (by rfl) (by kernel_rfl) ?_;simp -dsimp -implicitDefEqProofs[j,m];refine A7t (e:=27) (sz:=8) (bytes:=120) A7P B2g B1T t c hb ?_ ?_
  .simp only[A6B,c,hm,hl];rw[Z0c (by omega)]
  simp only[A7N,c,hm,hl];rw[Z0d ⟨trivial,trivial,trivial,by omega⟩,Z0d d];have e0:((0:Nat):Int)=0:=rfl;rw[d]at k3 k4 k5;rw[e0]at k3 k4;simp -dsimp -implicitDefEqProofs[k3,k4,k5,d]
 .have z:0<n:=by rw[hn];exact Z2p.2 h0
  obtain⟨M1,e1⟩:∃M1,M1=M.set f (.vec 27 8 (A0e c0 0 (ks.flatMap A0a.row)) g' (A1w 8 g 0 a)):=⟨_,rfl⟩;have o:M1[f]?=some (.vec 27 8 (A0e c0 0 (ks.flatMap A0a.row)) g' (A1w 8 g 0 a)):=by rw[e1];simp[u]
  obtain⟨c2,k1,k2,k3,k4,k5⟩:=tail (A0e c0 0 (ks.flatMap A0a.row)) (A1w 8 g 0 a) M1 (by unfold A0e;simp[-List.length_flatMap,s,b];omega) (by rw[<-s];exact D2B _ _) (by unfold A1w;exact A3m _ hl) o;have e2:∀X,M1.set f X=M.set f X:=λX=>by rw[e1,Z2z]
  rw[e2]at k5;refine⟨c2,_,k1,k2,?_⟩;refine A0o hB func360 ?_;simp -dsimp -implicitDefEqProofs[i,h];refine A0X hB (A0t gl) (λk=>if k=6 then 2 else 0) (λ_=>0) (by rfl) (by kernel_rfl) ?_;simp -dsimp -implicitDefEqProofs[j,m];have q:A6B 27 8 (.vref f g 8 0 0) (.vref f g 8 1 n) M=some (.vref f g 8 0 n,M1):=by simp only[A6B,c,hm,hl];rw[Z0d ⟨trivial,trivial,trivial,z,by omega⟩,e1];simp
  refine E3H (e:=27) (sz:=8) (bytes:=120) A7P B2g B1T t c hb q ?_;clear e1 o q;simp -dsimp -implicitDefEqProofs[k3,k4,k5]
def D1M(x:A0a)(ks:List A0a)(v:AV)(o:Own)(M:Mem)(j:ks.length<=1000)(ho:A1b 27 8 A0a.row M v ks):∃v' M',A1b 27 8 A0a.row M' v' (ks++[x])/\A0d (obj v) M M'/\(obj v'=obj v\/A1g M.length v')/\A0c (WC gl) 290 [v,I ks.length,.list 8 [x.row] o] M (λr M1=>r=v'/\M1=M'):=by
 have hx:A0A M 8 (.list 8 [x.row] o)=some (x.row,1):=by simp[A0A]
 rcases ho with⟨rfl,rfl⟩|⟨f,g,d,rfl,hm,hl⟩
 .refine⟨.vref M.length 0 8 0 1,M++[.vec 27 8 x.row 0 [(0,1)]],.inr ⟨M.length,0,[(0,1)],rfl,by simp,by simp[List.lookup]⟩,.app _ _ _,.inr (λf hf=>by simp at hf;omega),?_⟩;have hs:A2z prog 25 (.val (.slice none 0 0)) (some (I 0)) none none=some (.val (.slice none 0 0)):=by kernel_rfl
  refine A0o hV func290 ?_;simp -dsimp -implicitDefEqProofs[hs];refine A7t (e:=27) (sz:=8) (bytes:=120) A7P B2g B1T (by rfl) hx (by omega) (by simp only[A6B,hx]) ?_;simp only[A7N,hx];simp -dsimp -implicitDefEqProofs
 .obtain⟨n,hn⟩:∃n,n=ks.length:=⟨_,rfl⟩;rw[<-hn]at j hl|-;have k:(ks.flatMap A0a.row).length=n*8:=by rw[A3c A0a.row_len,hn]
  have c:f<M.length:=(Z0a.1 hm).1;have hs:A2z prog 25 (.vref f g 8 0 n) (some (I n)) none none=some (.vref f g 8 n 0):=by simp[A2z,A5t,A9Z,A1K,B1D]
  have h:A0A M 8 (.vref f g 8 0 n)=some (ks.flatMap A0a.row,n):=by simp only[A0A,hm,hl];rw[Z0d ⟨trivial,trivial,by omega⟩,Z2q,Z1k,Z0k (by omega)]
  have i:(ks.flatMap A0a.row++x.row)=(ks++[x]).flatMap A0a.row:=by simp[Z1r]
  obtain⟨a,hh⟩:∃a,a=(g+1,n+1)::d.filter (λp:Nat×Nat=>decide (p.2<=n)):=⟨_,rfl⟩;obtain⟨M',b⟩:∃M',M'=M.set f (.vec 27 8 ((ks++[x]).flatMap A0a.row) (g+1) a):=⟨_,rfl⟩;refine⟨.vref f (g+1) 8 0 (n+1),M',.inr ⟨f,g+1,a,by rw[Z0r,<-hn];rfl,?_,?_⟩,by rw[b];exact .set _ f _,.inl rfl,?_⟩
  rotate_left 2
  .refine A0o hV func290 ?_;simp -dsimp -implicitDefEqProofs[hs];refine A7t (e:=27) (sz:=8) (bytes:=120) A7P B2g B1T h hx (by omega) ?_ ?_
   .simp only[A6B,hx,hm,hl];rw[Z0c (by omega)]
   simp only[A7N,hx,hm,hl];rw[Z0d ⟨trivial,trivial,trivial,by omega⟩,Z0c (by omega),Z2q,Z1k,Z0k (by omega),i];simp -dsimp -implicitDefEqProofs[b,hh]
  .rw[b];simp[c]
  .rw[hh];simp[List.lookup,hn]
end
def A8J(M:Mem)(n:Nat)(v:AV)(l:List A0a):Prop:=(v=.val (.slice none 0 0)/\l=[])\/∃f g m cs g' hist,n<=f/\v=.vref f g 8 0 l.length/\M[f]?=some (.vec 27 8 cs g' hist)/\hist.lookup g=some m/\l.length<=m/\cs.take (l.length*8)=l.flatMap A0a.row
def D2e(n:Nat)(x:A0a):∀c∈x.row,bdd n c:=by have h:=A2U n x;rw[x.row_eq]at h|-;simp only[A1Y,Z1M]at h;obtain⟨h1,h2,h3,h4,h5,h6,h7,h8⟩:=h;intro c hc;simp only[Z0t,Z1E,Z2H]at hc;rcases hc with rfl|rfl|rfl|rfl|rfl|rfl|rfl|rfl<;>assumption
section
variable {M M':Mem} {n:Nat} {v:AV} {l:List A0a}
def A8J.still(h:A8J M n v l):Still M n (bdd n) [v] [.list 8 (A0q l) .no]:=by
 rcases h with⟨rfl,rfl⟩|⟨f,g,m,cs,g',a,h1,rfl,h2,h3,h4,h5⟩
 .rw[A0q];exact .nilS .nil
 .exact C5F h1 h2 h3 h4 h5 (D2e n)
def A8J.keep(h:A8J M n v l){o:Option Nat}(hk:A0d o M M')(ho:∀f,obj v=some f->o≠some f):A8J M' n v l:=by
 rcases h with⟨rfl,rfl⟩|⟨f,g,m,cs,g',a,h1,rfl,h2,h3,h4,h5⟩
 .exact .inl ⟨rfl,rfl⟩
 .exact .inr ⟨f,g,m,cs,g',a,h1,rfl,hk.get h2 (ho f rfl),h3,h4,h5⟩
def A8J.vec(h:A8J M n v l){f:Nat}(hf:obj v=some f):n<=f/\∃cs g' a,M[f]?=some (.vec 27 8 cs g' a):=by
 rcases h with⟨rfl,rfl⟩|⟨f',g,m,cs,g',a,h1,rfl,h2,h3,h4,h5⟩
 .simp at hf
 .simp at hf;subst hf;exact⟨h1,cs,g',a,h2⟩
def A8J.of(h:A1b 27 8 A0a.row M v l)(hl:A1g n v):A8J M n v l:=by
 rcases h with⟨rfl,rfl⟩|⟨f,g,a,rfl,hm,hh⟩
 .exact .inl ⟨rfl,rfl⟩
 .exact .inr ⟨f,g,l.length,_,g,a,hl f rfl,rfl,hm,hh,Z0n _,Z0k (by rw[A3c A0a.row_len];exact Z0n _)⟩
end
def A8l(u:A0a)(ks:List A0a):A0a:=.mk u.id u.kind u.label u.head u.words ks
def E1k(gl:Nat->AV)(u:A0a)(M:Mem)(g:FuncId)(cap:List AV)(ks:List A0a):Prop:=∀(b:Nat) (kv:AV) (Mi:Mem),M.length<=b->Grow M Mi->Mi[b]?=some (.cells 27 (A6V u kv))->A1b 27 8 A0a.row Mi kv u.kids->A1g M.length kv->obj kv≠some b->A4A (WC gl) g (.ptr b 0::cap) Mi (λ_ M'=>∃kv',M'[b]?=some (.cells 27 (A6V u kv'))/\A0d (obj kv) (Mi.set b .gone) (M'.set b .gone)/\A8J M' M.length kv' ks)
section
variable (gl:Nat->AV)
def E4p(u k:A0a)(ks:List A0a)(hk:u.kids=k::ks)(y:ks.length<=1000)(q:Nat)(M:Mem)(hq:M[q]?=some (.cells 3 [I 0])):E1k gl u M 359 [.ptr q 0] ks:=by
 intro b kv Mi hb hg l ho m p;have a2:q<M.length:=(Z0a.1 hq).1;have t:=hg.get hq (by simp);rw[hk]at ho;rcases ho with⟨_,h⟩|⟨f,g,n,rfl,hm,hl⟩
 .simp at h
 have a0:f≠b:=λe=>p (by simp[e]);have w:M.length<=f:=m f rfl;obtain⟨cs,a,k1,k2,d⟩:=D1C gl k ks f g g n Mi y hm hl;have z:b<Mi.length:=(Z0a.1 l).1;have s:f<Mi.length:=(Z0a.1 hm).1;refine A0V func359 rfl rfl ?_;obtain⟨M2,c⟩:∃M2,M2=Mi.set f (.vec 27 8 cs g a):=⟨_,rfl⟩;rw[<-c]at d;have o:M2[b]?=some (.cells 27 (A6V u (.vref f g 8 0 (ks.length+1)))):=by rw[c,Z0e (by omega)];exact l
 have r:A0m (some 1) M2 (.ptr b 7) (.vref f g 8 0 ks.length)=some (M2.set b (.cells 27 (A6V u (.vref f g 8 0 ks.length)))):=by rw[A0h o];rfl
 have j:b<M2.length:=(Z0a.1 o).1;have x:A1m prog 25 Mi (.ptr b 7)=some (.vref f g 8 0 (ks.length+1)):=by rw[A0b l];simp[A6V]
 refine A0o hB func359 ?_;simp -dsimp -implicitDefEqProofs;refine A0X hB (A0t gl) (λk=>if k=4\/k=5\/k=6 then 1 else if k=8\/k=11 then 2 else 0) (λk=>if k=4 then b else q) (by rfl) (by kernel_rfl) ?_;simp -dsimp -implicitDefEqProofs[x,A0b t,A1a,A5n];rw[show IntKind.i64.wrap 1=1 by decide];refine A5i (A0V func360 rfl rfl d) ?_;simp -dsimp -implicitDefEqProofs[r];refine⟨.vref f g 8 0 ks.length,by simp[j],⟨by simp[c],λi hi ho=>?_⟩,.inr ⟨f,g,_,cs,g,a,w,rfl,?_,k2,by omega,k1⟩⟩
 .have a1:i≠f:=λe=>ho (by simp[e]);by_cases hib:i=b
  .subst hib;simp at hi;simp[j,hi]
  ·(have e1:b≠i:=by omega);have e2:f≠i:=by omega
   simp only[Z0e e1,c,Z0e e2]
 .rw[Z0e (by omega),c];simp[s]
def E5a(u x:A0a)(y:u.kids.length<=1000)(q p:Nat)(M:Mem)(hq:M[q]?=some (.cells 3 [I u.kids.length]))(hp:M[p]?=some (.cells 27 x.row)):E1k gl u M 289 [.ptr q 0,.ptr p 0] (u.kids++[x]):=by
 intro b kv Mi hb hg d ho l m;have a5:q<M.length:=(Z0a.1 hq).1;have t:=hg.get hq (by simp);have n:=hg.get hp (by simp);have a0:b<Mi.length:=(Z0a.1 d).1;have a4:=ho.len (P:=prog) underlying25;obtain⟨a,M2,a1,a2,a3,g⟩:=D1M gl x u.kids kv .full Mi y ho;have j:A1g M.length a:=λf hf=>by
  rcases a3 with e|h
  .rw[e]at hf;exact l f hf
  .have:=h f hf;have:=hg.1;omega
 have r:M2[b]?=some (.cells 27 (A6V u kv)):=a2.get d m;have c:b<M2.length:=(Z0a.1 r).1;have o:∀f,obj a=some f->f≠b:=λf hf e=>by
  rcases a3 with h|h
  .rw[h]at hf;exact m (by rw[hf,e])
  .have:=h f hf;omega
 have s:A0m (some 1) M2 (.ptr b 7) a=some (M2.set b (.cells 27 (A6V u a))):=by rw[A0h r,a1.cells,Z0d ⟨a1.store,by simp[A6V],rfl⟩];rfl
 have w:A1m prog 25 Mi (.ptr b 7)=some kv:=by rw[A0b d];simp[A6V]
 have z:A1m prog 27 Mi (.ptr p 0)=some (.agg x.row):=by rw[x.row_eq]at n|-;rw[A0b n];simp
 refine A0V func289 rfl rfl ?_;refine A0o hB func289 ?_;simp -dsimp -implicitDefEqProofs;refine A0X hB (A0t gl) (λk=>if k=4\/k=5\/k=6 then 1 else if k=8\/k=11 then 2 else 0) (λk=>if k=4 then b else if k=5 then q else p) (by rfl) (by kernel_rfl) ?_;simp -dsimp -implicitDefEqProofs[w,z,A0b t,A1a,A5n,A0n,A0W,A0K,A0I];refine A5i (A0V func290 rfl rfl g) ?_;simp -dsimp -implicitDefEqProofs[s];refine⟨a,by simp[c],⟨by simpa using a2.1,λi hi ho=>?_⟩,A8J.of (a1.keep (A0d.set _ _ _) (λf hf e=>o f hf (by simpa using e.symm))) j⟩;by_cases hib:i=b
 .subst hib;simp at hi;simp[c,hi]
 .have e1:b≠i:=by omega
  simp only[Z0e e1];exact a2.2 i (by simpa using hi) ho
def B9G(u:A0a)(g:FuncId)(cap:List AV)(ks:List A0a)(M:Mem)(hf:Fit u)(hd:E1k gl u M g cap ks):A0c (WC gl) 288 [.agg u.row,.agg u.id.row,.func (.func g) [] cap] M (λv M'=>v=.agg (A8l u ks).row/\M'=M):=by
 refine A0c.dataX ?_;have hx:u.id.row=[I u.id.act,I u.id.item,I u.id.n]:=rfl;have he:=B3h u.id u.id;rw[Z0v rfl]at he;have a1:=A1Q u.kids;have a3:A0f u.kids<A0j u:=by obtain⟨a,b,c,d,e,f⟩:=u;rw[A0j];show A0f f<_;omega
 have a2:=hf.2.2;obtain⟨b,hb⟩:∃b,b=M.length:=⟨_,rfl⟩;obtain⟨M1,k⟩:∃M1,M1=M++[A0p.cells 27 [I u.id.act,I u.id.item,I u.id.n,I u.kind,S u.label,.list 4 (A0g u.head) .no,.list 4 (A0g u.words) .no,.list 8 (A0q u.kids) .no],z8]:=⟨_,rfl⟩;have h1:M1[b]?=some (A0p.cells 27 [I u.id.act,I u.id.item,I u.id.n,I u.kind,S u.label,.list 4 (A0g u.head) .no,.list 4 (A0g u.words) .no,.list 8 (A0q u.kids) .no]):=by rw[k,hb];simp
 have h2:M1[b+1]?=some z8:=by rw[k,hb];simp[Z0Z]
 have w:Grow M M1:=by rw[k];exact A0d.app none _ _
 rw[u.row_eq,hx];refine A0o hTr func288 ?_;simp -dsimp -implicitDefEqProofs[A0l];rw[<-k,<-hb];simp -dsimp -implicitDefEqProofs[A0b h1,he];refine A0s func52 (C8t gl u.kids M1 (by omega)) ?_;rintro kv M2 ⟨ho,l,h⟩;have h3:=l.get h1 (by simp);have h4:=l.get h2 (by simp);have a5:b+1<M1.length:=(Z0a.1 h2).1;have t:A0m (some 1) M2 (.ptr b 7) kv=some (M2.set b (.cells 27 (A6V u kv))):=by rw[A0h h3,ho.cells,Z0d ⟨ho.store,by simp,rfl⟩];rfl
 simp -dsimp -implicitDefEqProofs[t];have s:b<M2.length:=(Z0a.1 h3).1;have j:Grow M (M2.set b (.cells 27 (A6V u kv))):=A1o (w.trans l) (by omega);refine A1l (hd b kv (M2.set b (.cells 27 (A6V u kv))) (by omega) j (by simp[s]) (ho.keep (A0d.set _ _ _) (λf hf e=>by have:=h f hf;simp at e;omega)) (λf hf=>by have:=h f hf;omega) (λe=>by have:=h b e;omega)) ?_;rintro _ M4 ⟨m,q1,q2,q3⟩;have a4:b<M4.length:=(Z0a.1 q1).1;have p:M4[b+1]?=some z8:=by have z:=l.1;have:=q2.2 (b+1) (by simp;omega) (λe=>by have:=h (b+1) e;omega);rw[Z0e (by omega),Z0e (by omega),Z0e (by omega)]at this;rw[this];exact h4
 have x:Grow M M4:=by refine⟨by have:=q2.1;have:=j.1;simp at this q2;omega,λi hi _=>?_⟩;have h5:=q2.2 i (by have:=j.1;simp at this|-;omega) (λe=>by have:=h i e;omega);rw[Z0e (by omega),Z0e (by omega)]at h5;rw[h5];exact j.2 i hi (by simp)
 have q:b+1<M4.length:=(Z0a.1 p).1;have y:A1m prog 27 M4 (.ptr b 0)=some (.agg (A6V u m)):=by rw[A0b q1];simp[A6V]
 have r:A0m (some 8) M4 (.ptr (b+1) 0) (.agg (A6V u m))=some (M4.set (b+1) (.cells 27 (A6V u m))):=by rw[A0h p];rfl
 simp -dsimp -implicitDefEqProofs[y,r,A0z q,A0k,A6V];refine⟨A1o x (by omega),.agg ?_ .nil⟩;have o:=(q3.keep (A0d.set M4 (b+1) (.cells 27 (A6V u m))) (λf hf e=>by obtain⟨_,cs,g',a0,hv⟩:=q3.vec hf;simp only[Z0b]at e;subst e;rw[p]at hv;simp at hv)).still;rw[A8l,A0a.row];rw[A6V]at o;rw[<-hb]at o;exact .same trivial (.same trivial (.same trivial (.same trivial (.same trivial (.same (by simp only[bdd,Z1M];exact A8f _ _) (.same (by simp only[bdd,Z1M];exact A8f _ _) o))))))
end
def A1q(number:Int):List A4Z->Nat->List A0a
 |[],_=>[]
 |t::ts,j=>A1B number j t.1 0 0::A1q number ts (j+1)
def A3x(u:A0a)(number:Int)(ts:List A4Z):A0a:=.mk u.id u.kind u.label u.head u.words (A1q number ts u.kids.length)
def B6F(a:Int):∀ts j,(A1q a ts j).length=ts.length
 |[],_=>rfl
 |t::ts,j=>by rw[A1q,Z0x,B6F a ts,Z0x]
def B6L(c:Int):∀a b j,A1q c (a++b) j=A1q c a j++A1q c b (j+a.length)
 |[],b,j=>by simp[A1q]
 |t::a,b,j=>by rw[Z1a,A1q,B6L c a b (j+1),A1q,Z1a,Z0x,show j+1+a.length=j+(a.length+1)by omega]
def B4f(a i:Int)(n c:Nat):List IdD:=(List.range' n c).map λm=>⟨a,i,((m+1:Nat):Int)⟩
def C7b(a i:Int)(n c d:Nat):B4f a i n (c+d)=B4f a i n c++B4f a i (n+c) d:=by unfold B4f;rw[<-Z0Q,<-Z2Q]
def D4L(a i:Int)(n c:Nat):B4f a i n (1+c)=⟨a,i,((n+1:Nat):Int)⟩::B4f a i (n+1) c:=by rw[C7b];simp[B4f]
mutual
def A7a(a i:Int):∀(t:A0a) (n w:Nat),A0T (A1B a i t n w)=B4f a i n (A0j t)
 |.mk _ k l h ws ks,n,w=>by rw[A1B,A0T,C0R a i ks,A0j,D4L]
def C0R(a i:Int):∀(ks:List A0a) (n w:Nat),A2a (A1A a i ks n w)=B4f a i n (A0f ks)
 |[],n,w=>by rw[A1A,A2a,A0f];rfl
 |k::ks,n,w=>by rw[A1A,A2a,A0f,A7a a i k,C0R a i ks,C7b]
end
mutual
def A8X(a i:Int):∀(t:A0a) (n w:Nat),A0j (A1B a i t n w)=A0j t
 |.mk _ k l h ws ks,n,w=>by rw[A1B,A0j,B4P a i ks,A0j]
def B4P(a i:Int):∀(ks:List A0a) (n w:Nat),A0f (A1A a i ks n w)=A0f ks
 |[],n,w=>by rw[A1A]
 |k::ks,n,w=>by rw[A1A,A0f,A8X a i k,B4P a i ks,A0f]
end
mutual
def B6R(a i:Int):∀(t:A0a) (n w:Nat),A1D (A1B a i t n w)=A1D t
 |.mk _ k l h ws ks,n,w=>by rw[A1B,A1D,B4r a i ks,A1D]
def B4r(a i:Int):∀(ks:List A0a) (n w:Nat),A2I (A1A a i ks n w)=A2I ks
 |[],n,w=>by rw[A1A]
 |k::ks,n,w=>by rw[A1A,A2I,B6R a i k,B4r a i ks,A2I]
end
def C8M(a i:Int)(n c:Nat):(B4f a i n c).Nodup:=by unfold B4f List.Nodup;rw[Z3x];refine List.Pairwise.imp ?_ (List.nodup_range' (s:=n) (n:=c) (step:=1));intro x y h e;simp only[IdD.mk.injEq,Z2y]at e;omega
def B1H{a i:Int}{n c:Nat}{x:IdD}(h:x∈B4f a i n c):x.act=a/\x.item=i:=by unfold B4f at h;obtain⟨m,_,rfl⟩:=Z0G.1 h;exact⟨rfl,rfl⟩
def A8W(c:Int):∀ts j,(A2a (A1q c ts j)).Nodup/\∀x∈A2a (A1q c ts j),x.act=c/\(j:Int)<=x.item
 |[],j=>by rw[A1q,A2a];simp
 |t::ts,j=>by
  obtain⟨h1,h2⟩:=A8W c ts (j+1);rw[A1q,A2a,A7a];refine⟨Z1J.2 ⟨C8M _ _ _ _,h1,λa ha b hb e=>?_⟩,λx hx=>?_⟩
  .have:=(B1H ha).2;have:=(h2 b hb).2;rw[e]at*;omega
  .rcases Z0P.1 hx with hx|hx
   .have:=B1H hx;exact⟨this.1,by omega⟩
   .have:=h2 x hx;exact⟨this.1,by omega⟩
def A5M(a:Int):∀ts j,A0f (A1q a ts j)=A0f (ts.map (·.1))
 |[],j=>rfl
 |t::ts,j=>by rw[A1q,A0f,A8X,A5M a ts,Z0s,A0f]
def A7K{k v:A0a}(hv:v∈A5m k):∀{ks:List A0a},k∈ks->v∈A4Q ks
 |b::bs,hk=>by
  rw[A4Q];rcases Z0t.1 hk with rfl|hk
  .exact Z1K _ hv
  .exact Z2v _ (A7K hv hk)
section
variable (F:IdD->Option A0a) (l:List A0C) (s:List A2m) (D:Nat->IdD)
end
section
variable {F:IdD->Option A0a} {l:List A0C} {s:List A2m} {D:Nat->IdD}
def D8h(l:List ByteArray):A0N (l.map A1O)=l:=by
 simp only[A0N,Z1s]
 conv=>rhs;rw[<-List.map_id l]
 rfl
end
end Go.Abs
