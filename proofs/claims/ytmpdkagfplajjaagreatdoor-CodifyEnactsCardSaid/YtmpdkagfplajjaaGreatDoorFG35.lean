/- The texts CbS, CbN, CbO, CbP, CbQ, CbR, CbV, CbW, CbY, CbX0, CbX1, CeN, CeO, CeP. -/
import Derived.Test.YtmpdkagfplajjaaGreatDoorFG32
import Derived.Test.YtmpdkagfplajjaaGreatDoorFG08
import Derived.Test.YtmpdkagfplajjaaGreatDoorFG31
import Derived.Test.YtmpdkagfplajjaaGreatDoorFG33
import Derived.Test.YtmpdkagfplajjaaGreatDoorFG30
import Derived.Test.YtmpdkagfplajjaaGreatDoorFG34
set_option linter.all false
set_option maxRecDepth 100000
namespace Go.Abs
open Go.Proofs TryTypes Tryz
def B2M{C}{G}{M}{w}(hi:Inv C G M w):∀(l:List ByteArray) (b off:Nat),A0F G 1 (A1b l) b off->∀(j:Nat) x,l[j]?=some x->w.cell? ⟨b,off+j,none⟩=some (.string x)
 |[],_,_,_,j,x,hx=>by simp at hx
 |s::l,b,off,h,j,x,hx=>by
  simp only[A1b,Z0B,A0F,A0P]at h;obtain⟨⟨_,⟨v,hv,_,hr⟩,_⟩,h2⟩:=h;cases j with
  |zero=>simp at hx;subst hx;simp only[Rep]at hr;subst hr;exact hi.st _ _ _ hv
  |succ j=>have:=B2M hi l b (off+1) h2 j x (by simpa using hx);rw[show off+(j+1)=off+1+j by omega];exact this
def C3Q(l:List UInt8):ByteArray:=⟨l.toArray⟩
def C1b(l:List ByteArray)(sep:ByteArray):ByteArray:=C3Q (Lib.join (l.map (·.data.toList)) sep.data.toList)
section
variable (gl:Nat->AV) (M:Mem)
def D7S(l:List ByteArray)(o:Own)(d:ByteArray)(hN:l.length<=140737488355328)(g:(Lib.join (l.map (·.data.toList)) d.data.toList).length<=140737488355328):A0d (WC gl) 127 [.list 1 (A1b l) o,S d] M (λv M'=>v=S (C1b l d)/\M'=M):=by
 refine B0Y λG w vs hi hr=>?_
 simp only[A0w]at hr
 obtain⟨y,_,rfl,hy,z,_,rfl,hz,rfl⟩:=hr
 simp only[Rep]at hy hz
 obtain⟨base,cap,rfl,hc,hm,hb,ho⟩:=hy
 subst hz
 rw[B5F]at hc
 have c:∀a,l=[]->Calls prog 127 #[.slice a l.length cap,.string d] w λe w'=>e=.returned (.string (C1b l d))/\RowKit.Below w.heap.size w w':=by rintro a rfl;exact Z2H (strings_Join_none a cap d w) λe w' ⟨he,hw⟩=>⟨he,hw▸RowKit.Below.refl _ _⟩
 show Calls prog 127 #[.slice base (A1b l).length cap,.string d] w _
 rw[B5F]
 cases base with
 |none=>
  have:l=[]:=by simpa[A1b]using hb.1
  exact c _ this
 |some a=>
  by_cases hl:l=[]
  .exact c _ hl
  .have hs:=hb.1 (by simpa[A1b]using hl);obtain⟨b,off,spot⟩:=a;subst hs;have f:=B2M hi l b off hb.2;have h:b<w.heap.size:=by
    cases l with
    |nil=>exact absurd rfl hl
    |cons s l=>exact Z2z w ⟨b,off+0,none⟩ (f 0 s rfl)
   exact strings_Join b off cap l d w f h hN hc g
def D2o(s:ByteArray)(c:Nat)(hc:c<=9223372036854775807)(a:s.size*c<=140737488355328):A0d (WC gl) 226 [S s,I c] M (λv M'=>v=S (C3Q (Lib.repeatL s.data.toList c))/\M'=M):=by
 refine B0Y λG w vs hi hr=>?_
 simp only[A0w]at hr
 obtain⟨y,_,rfl,hy,z,_,rfl,hz,rfl⟩:=hr
 simp only[Rep]at hy hz
 subst hy
 subst hz
 exact strings_Repeat s c w hc a
end
def C4E:∀d:Fin 9,C3Q (Lib.repeatL [32,32] d.val)=A8C d.val:=by decide
def B6q:∀r:List ByteArray,A4T r=r.length+Lib.lens (r.map (·.data.toList))
 |[]=>rfl
 |a::r=>by rw[A7A,B6q r];simp only[Lib.lens,Z0B,List.sum_cons,Z0C];have:a.data.toList.length=a.size:=rfl;omega
def D4U(b:List UInt8)(hs:b.length=1):∀l:List ByteArray,l≠[]->(Lib.join (l.map (·.data.toList)) b).length+1=A4T l
 |[],h=>absurd rfl h
 |a::r,_=>by rw[Z0B,Lib.join_cons,Z0v,Lib.joinTail_length,hs,A7A,B6q,Z0V];have:a.data.toList.length=a.size:=rfl;omega
def A0a.lims_noKids{u}(h:u.lims):(A6Q u).lims:=by obtain⟨a,b,c,d,e,f⟩:=u;rw[A0a.lims]at h;rw[A6Q,A0a.lims];exact⟨⟨h.1.1,h.1.2.1,by simp[A0a.kids],h.1.2.2.2⟩,by rw[A6W];trivial⟩
def B0l{u}(h:Fit u):Fit (A6Q u):=by
 obtain⟨h1,h2,h3⟩:=h;refine⟨?_,A0a.lims_noKids h2,?_⟩
 .obtain⟨a,b,c,d,e,f⟩:=u;obtain⟨g1,g2,g3,g4,g5,g6,g7,g8,g9⟩:=(A0a.good_iff _).1 h1;exact(A0a.good_iff _).2 ⟨by simp[A6Q,A0a.id,IdD.good,idZ,inI],g2,g3,g4,g5,g6,g7,by simp[A6Q,A0a.kids],by simp[A6Q,A0a.kids]⟩
 .obtain⟨a,b,c,d,e,f⟩:=u;rw[A6Q,A0o,A0u];omega
def B6A{u}(h:A2P u):A2P (A6Q u):=by obtain⟨a,b,c,d,e,f⟩:=u;obtain⟨h0,h1,h2,h3⟩:=(A6v _).1 h;exact(A6v _).2 ⟨rfl,h1,h2,by simp[A6Q,A0a.kids]⟩
def hMy:A2x:=⟨λd=>d !=2,λ_=>false,λ_=>false⟩
@[simp] def E4S:hMy.imm=λd=>d !=2:=rfl
section
variable (gl:Nat->AV)
def D9P(l:gl 0=A2z)(c:gl 1=A2S)(u:A0a)(d:Nat)(M:Mem)(hf:Fit u)(hb:A2P u)(ha:A3U u=true)(hd:d<=8):A0d (WC gl) 225 [.agg u.row,I d] M (λv M'=>v=B true/\M'=M):=by
 have hS:=λM=>B9q gl (A6Q u) A0i M (.inr ⟨by cases u;rfl,rfl⟩) (B0l hf).1 (B0l hf).2.1 (B0l hf).2.2 (B6A hb)
 have hV:=λM=>B4y gl l c (A6Q u) M (B0l hf)
 rw[B3E (B6A hb),D1o ha]at hV
 refine A0d.dataX ?_
 refine A0j hMy func225 ?_
 have k:A6T (A6Q u) A0i=[I 0,I 0,I 0,I u.kind,S u.label,.list 4 (A0g u.head) .no,.list 4 (A0g u.words) .no,A0i]:=by cases u;rfl
 rw[k]at hS
 have m:u.id=idZ:=((A6v u).1 hb).1
 have h1:(0:Int)<=d:=by omega
 have h2:(d:Int)<=8:=by omega
 obtain⟨b,hb⟩:∃b,b=M.length:=⟨_,rfl⟩
 have h:u.row=[I 0,I 0,I 0,I u.kind,S u.label,.list 4 (A0g u.head) .no,.list 4 (A0g u.words) .no,.list 8 (A0r u.kids) .no]:=by rw[u.row_eq,m];rfl
 obtain⟨M1,f⟩:∃M1,M1=M++[A0l.cells 27 u.row]:=⟨_,rfl⟩
 have c:Grow M M1:=by rw[f];exact A0c.app none _ _
 have hX:M1[b]?=some (A0l.cells 27 u.row):=by rw[f,hb];simp
 have i:b<M1.length:=(Z0b.1 hX).1
 obtain⟨M2,a⟩:∃M2,M2=M1.set b (.cells 27 [I 0,I 0,I 0,I u.kind,S u.label,.list 4 (A0g u.head) .no,.list 4 (A0g u.words) .no,A0i]):=⟨_,rfl⟩
 have e:M2[b]?=some (.cells 27 [I 0,I 0,I 0,I u.kind,S u.label,.list 4 (A0g u.head) .no,.list 4 (A0g u.words) .no,A0i]):=by rw[a];simp[i]
 have o:Grow M M2:=⟨by rw[a];simpa using c.1,λj hj _=>by rw[a,Z0f (by omega)];exact c.2 j hj (by simp)⟩
 rw[h]at hX
 have g:M1.set b (.cells 27 [I 0,I 0,I 0,I u.kind,S u.label,.list 4 (A0g u.head) .no,.list 4 (A0g u.words) .no,.list 8 (A0r u.kids) .no])=M1:=List.set_eq_of_getElem? hX
 simp -dsimp -implicitDefEqProofs[]
 rw[<-f,<-hb]
 simp -dsimp -implicitDefEqProofs[A0h hX,g]
 rw[<-a]
 simp -dsimp -implicitDefEqProofs[h2,A0b e]
 refine A0f func180 (hS M2) ?_
 simp -dsimp -implicitDefEqProofs[]
 refine A0f func109 (hV _) ?_
 simp -dsimp -implicitDefEqProofs[]
 exact⟨o,.same trivial .nil⟩
def D9C(s:ByteArray)(ws:List A0H)(M:Mem)(hs:s.size<=1000000)(hl:ws.length<=1000000)(hw:∀w∈ws,1<=w.text.size/\w.text.size<=24):A0d (WC gl) 227 [S s,.list 4 (A0g ws) .no] M (λv M'=>v=S (A5i s ws)/\M'=M):=by
 refine A0d.dataX ?_
 refine A0j hB func227 ?_
 simp -dsimp -implicitDefEqProofs
 refine A0v hB ws.length 9 (λT M1=>∃i:Nat,i<=ws.length/\T 0=S (A5i s (ws.take i))/\T 7=.list 4 (A0g ws) .no/\T 8=I ws.length/\T 9=I i/\Grow M M1) ?_ ?_
 .refine⟨0,by omega,by simp[A5i],by simp,by simp,by simp,A0c.refl _ _⟩
 rintro T M1 ⟨i,i1,t0,t7,t8,t9,hg⟩
 by_cases hi:i<ws.length
 case neg=>
  have a:¬(i:Int)<ws.length:=by omega
  rw[Z0k (by omega)]at t0;simp -dsimp -implicitDefEqProofs[t0,t8,t9,a,hg];exact .same trivial .nil
 have a:(i:Int)<ws.length:=by omega
 have w1:=A1y (i:=i) (by omega)
 have h1:=hw _ (Z0u hi)
 have hp:A5i s (ws.take (i+1))=A5i s (ws.take i)++⟨#[32]⟩++B0u ws[i].text:=by rw[Z0E hi,A5i,Z2X];rfl
 obtain⟨p,e⟩:∃p,p=A5i s (ws.take i):=⟨_,rfl⟩
 obtain⟨h1,h2⟩:=h1
 have f:p.size<=27000000:=by have:=A6p (ws.take i) s λw h=>(hw w (Z1p h)).2;rw[<-e]at this;simp at this;omega
 have d:(⟨#[32]⟩:ByteArray).size=1:=rfl
 have c:(⟨#[92]⟩:ByteArray).size=1:=rfl
 have b1:¬(9223372036854775807:Int)<p.size+1:=by omega
 have b2:¬(9223372036854775807:Int)<p.size+1+1:=by omega
 have b3:¬(9223372036854775807:Int)<p.size+1+ws[i].text.size:=by omega
 have b4:¬(9223372036854775807:Int)<p.size+1+1+ws[i].text.size:=by omega
 have b5:0<ws[i].text.size:=h1
 obtain⟨t,ht⟩:∃t,t=ws[i].text:=⟨_,rfl⟩
 rw[<-e]at t0 hp
 have b:Grow M (M1++[A0l.cells 152 ws[i].row]):=hg.trans (A0c.app none _ _)
 have hX:(M1++[A0l.cells 152 [S ws[i].text,I ws[i].act,I ws[i].item,I ws[i].at_]])[M1.length]?=some (.cells 152 [S ws[i].text,I ws[i].act,I ws[i].item,I ws[i].at_]):=by simp
 have b:Grow M (M1++[A0l.cells 152 [S ws[i].text,I ws[i].act,I ws[i].item,I ws[i].at_]]):=b
 by_cases c1:A1c ws[i].text 0=124
 .have he:B0u ws[i].text=⟨#[92]⟩++ws[i].text:=by rw[B0u,Z0d (.inl c1)]
  rw[he]at hp;simp -dsimp -implicitDefEqProofs[t0,t7,t8,t9,a,hi,A0m,A0n,A0e,AV.storable,AV.cells,A0H.row,d,c,b1,b2,b4,b5,c1,w1,A0b hX];refine⟨⟨i+1,by clear w1;omega,?_,rfl,b⟩,by clear w1;omega⟩;rw[hp];simp only[A9G]
 by_cases c2:A1c ws[i].text 0=92
 .have he:B0u ws[i].text=⟨#[92]⟩++ws[i].text:=by rw[B0u,Z0d (.inr c2)]
  rw[he]at hp;simp -dsimp -implicitDefEqProofs[t0,t7,t8,t9,a,hi,A0m,A0n,A0e,AV.storable,AV.cells,A0H.row,d,c,b1,b2,b4,b5,c2,w1,A0b hX];refine⟨⟨i+1,by clear w1;omega,?_,rfl,b⟩,by clear w1;omega⟩;rw[hp];simp only[A9G]
 have he:B0u ws[i].text=ws[i].text:=by rw[B0u,Z0e (by simp[c1,c2])]
 rw[he]at hp
 simp -dsimp -implicitDefEqProofs[t0,t7,t8,t9,a,hi,A0m,A0n,A0e,AV.storable,AV.cells,A0H.row,d,b1,b3,b5,c1,c2,w1,A0b hX]
 exact⟨⟨i+1,by clear w1;omega,by rw[hp],rfl,b⟩,by clear w1;omega⟩
def A5V{l}(h:A3l l=true):l.length<=256/\∀w∈l,1<=w.text.size/\w.text.size<=24:=by simp only[A3l,Z0g,Z0m,Z0t]at h;refine⟨h.1,λw hw=>?_⟩;have:=h.2 w hw;simp only[A2I,Z0g,Z0m]at this;exact this.1
def A7x{u}(h:A3U u=true):(0<=u.kind/\u.kind<=7)/\A3l u.head=true/\A3l u.words=true:=by unfold A3U at h;simp only[Z0g,Z0m]at h;exact⟨h.1.1.1.1,h.1.1.2,h.1.2⟩
def C6l{k}(h:0<=k/\k<=7):A4K k=A4o.getD k.toNat ⟨#[]⟩:=by
 have key:∀n:Fin 8,A9u.getD n.val .empty=A4o.getD n.val ⟨#[]⟩:=by decide
 have:=key ⟨k.toNat,by omega⟩;rw[A4K,Z0d (by omega),this]
def D7b(t:gl 0=A2z)(l:gl 1=A2S)(u:A0a)(d:Nat)(M:Mem)(hf:Fit u)(hb:A2P u)(ha:A3U u=true)(hd:d<=8):A0d (WC gl) 182 [.agg u.row,I d] M (λv M'=>v=S (A3B u d)/\M'=M):=by
 obtain⟨hk,hh,hw⟩:=A7x ha
 obtain⟨r,k⟩:=A5V hh
 obtain⟨o,j⟩:=A5V hw
 have y:=((A3f u hf.2.1).1).2.2.2
 have c:(⟨#[32]⟩:ByteArray).size=1:=rfl
 have a:(⟨#[58]⟩:ByteArray).size=1:=rfl
 have e3:(⟨#[32,124]⟩:ByteArray).size=2:=rfl
 have f:=λM=>D2o gl M ⟨#[32,32]⟩ d (by omega) (by show 2*d<=_;omega)
 have hdr:C3Q (Lib.repeatL (⟨#[32,32]⟩:ByteArray).data.toList d)=A8C d:=C4E ⟨d,by omega⟩
 rw[hdr]at f
 have a0:=A8p d
 have hn:=C6l hk
 have key:∀n:Fin 8,(A4o.getD n.val ⟨#[]⟩).size<=9:=by decide
 have m:=key ⟨u.kind.toNat,by omega⟩
 have g:A7y u d=A8C d++A4o.getD u.kind.toNat ⟨#[]⟩:=rfl
 simp only at m
 rw[<-hn]at g m
 have b1:¬(9223372036854775807:Int)<(A8C d).size+(A4K u.kind).size:=by omega
 have a1:(A7y u d).size<=2*d+9:=by rw[g,Z0x];omega
 have a2:(A5d u d).size<=2*d+1010:=by
  unfold A5d;split
  .omega
  .rw[Z0x,Z0x,c];omega
 have z:(A4e u d).size<=2*d+7700:=by
  unfold A4e;split
  .omega
  .have:=A6p u.head (A5d u d++⟨#[58]⟩) (λw h=>(k w h).2);rw[Z0x,a]at this;omega
 have b2:¬(9223372036854775807:Int)<1+u.label.size:=by omega
 have b3:¬(9223372036854775807:Int)<(A7y u d).size+(1+u.label.size):=by omega
 have b4:¬(9223372036854775807:Int)<(A5d u d).size+1:=by omega
 have b5:¬(9223372036854775807:Int)<(A4e u d).size+2:=by omega
 refine A0j hB func182 ?_
 simp -dsimp -implicitDefEqProofs[u.row_eq]
 refine A0f func225 (u.row_eq▸D9P gl t l u d M hf hb ha hd) ?_
 simp -dsimp -implicitDefEqProofs
 refine A1i hB (A0G gl) (λ_=>0) (λ_=>0) (by rfl) (by kernel_rfl) ?_
 simp -dsimp -implicitDefEqProofs
 refine A1M func226 f ?_
 simp -dsimp -implicitDefEqProofs
 refine A1M func207 (λM=>(B1m gl M l _)) ?_
 have q1:A8C d++A4K u.kind=A7y u d:=g.symm
 have b:∀ws:List A0H,ws.length<=256->(∀w∈ws,1<=w.text.size/\w.text.size<=24)->∀s,s.size<=1000000->∀M,A0d (WC gl) 227 [S s,.list 4 (A0g ws) .no] M (λv M'=>v=S (A5i s ws)/\M'=M):=λws h1 h2 s h3 M=>D9C gl s ws M h3 (by omega) h2
 by_cases k0:u.kind=0
 .have e:=ha;unfold A3U at e;simp only[k0,Z0H,Z0g,Z0m]at e;have z1:u.head.length=0:=e.2.1.2;have z2:u.words.length=0:=e.2.2;have q:A3B u d=A7y u d:=by rw[A3B,Z0d z2,A4e,Z0d z1,A5d,Z0d k0]
  rw[k0]at b1 q1|-;simp -dsimp -implicitDefEqProofs[b1,q1,z1,z2,q]
 have q2:A7y u d++(⟨#[32]⟩++u.label)=A5d u d:=by rw[A5d,Z0e k0]
 by_cases z1:u.head.length=0
 .have q3:A5d u d=A4e u d:=by rw[A4e,Z0d z1]
  by_cases z2:u.words.length=0
  ·(have q4:A4e u d=A3B u d:=by rw[A3B,Z0d z2]);simp -dsimp -implicitDefEqProofs[b1,k0,q1,q2,z1,z2,c,b2,b3,q3,q4]
  ·(have i:0<u.words.length:=by omega);have q4:A3B u d=A5i (A4e u d++⟨#[32,124]⟩) u.words:=by rw[A3B,Z0e z2]
   simp -dsimp -implicitDefEqProofs[b1,k0,q1,q2,z1,i,c,e3,b2,b3,b5,q3];refine A0s func227 (b u.words o j _ (by rw[Z0x,e3];omega) M) ?_;rintro _ M ⟨rfl,rfl⟩;simp -dsimp -implicitDefEqProofs[q4]
 have p:0<u.head.length:=by omega
 have q3:A4e u d=A5i (A5d u d++⟨#[58]⟩) u.head:=by rw[A4e,Z0e z1]
 simp -dsimp -implicitDefEqProofs[b1,k0,q1,q2,p,c,a,b2,b3,b4]
 refine A0s func227 (b u.head r k _ (by rw[Z0x,a];omega) M) ?_
 rintro _ M ⟨rfl,rfl⟩
 rw[<-q3]
 by_cases z2:u.words.length=0
 .have q4:A4e u d=A3B u d:=by rw[A3B,Z0d z2]
  simp -dsimp -implicitDefEqProofs[z2,q4]
 .have i:0<u.words.length:=by omega
  have q4:A3B u d=A5i (A4e u d++⟨#[32,124]⟩) u.words:=by rw[A3B,Z0e z2]
  simp -dsimp -implicitDefEqProofs[i,e3,b5];refine A0s func227 (b u.words o j _ (by rw[Z0x,e3];omega) M) ?_;rintro _ M ⟨rfl,rfl⟩;simp -dsimp -implicitDefEqProofs[q4]
end
section
structure B6z (n:Nat) (M0 M:Mem) (xs:List ByteArray):Prop where
 low:A1a n M0 M
 len:n+2<=M.length
 fn:M[n+1]?=some (.cells 100 [.func (.func 181) [] [.ptr n 0,.ptr (n+1) 0]])
 arr:∃v,M[n]?=some (.cells 37 [v])/\A1n 9 1 A5F M v xs/\A1r (n+2) v
def B6z.app{n}{M0 M}{xs}(h:B6z n M0 M xs)(X:Mem):B6z n M0 (M++X) xs:=by
 obtain⟨h1,h2,h3,v,h4,h5,h6⟩:=h;have hl:∀j Y,M[j]?=some Y->(M++X)[j]?=some Y:=λj Y h=>by rw[Z0h (Z0b.1 h).1];exact h
 refine⟨⟨by simp;have:=h1.1;omega,λj hj=>?_⟩,by simp;omega,hl _ _ h3,v,hl _ _ h4,h5.keep (A0c.app none M X) (by simp),h6⟩;rw[Z0h (by omega)];exact h1.2 j hj
mutual
def A7Q:∀(d:Nat) (u:A0a),(A4g d u).length=A0o u
 |d,.mk _ _ _ _ _ ks=>by rw[A4g,A0o,Z0C,A7T (d+1) ks];omega
def A7T:∀(d:Nat) (ks:List A0a),(A5c d ks).length=A0u ks
 |d,[]=>by rw[A5c,A0u];rfl
 |d,k::ks=>by rw[A5c,A0u,Z0v,A7Q d k,A7T d ks]
end
def B6W{d:Nat}{ks:List A0a}{i:Nat}(h:i<ks.length):A5c d (ks.take (i+1))=A5c d (ks.take i)++A4g d ks[i]:=by
 induction ks generalizing i with
 |nil=>simp at h
 |cons k ks ih=>
  cases i with
  |zero=>simp[A5c]
  |succ i=>simp only[Z0D,A5c,Z2W];rw[ih (by simpa using h),Z0X]
def A6n{u}(h:A2l u=true):A3U u=true:=by obtain⟨a,b,c,d,e,f⟩:=u;rw[A2l,Z0g]at h;exact h.1
def B9r{p}:∀{ks b:List A0a},A4h p ks b=true->∀k∈ks,A2l k=true
 |[],_,_,k,hk=>by simp at hk
 |a::ks,b,h,k,hk=>by
  rw[A4h]at h;simp only[Z0g]at h;rcases Z0A.1 hk with rfl|hk
  .exact h.1.1.2
  .exact B9r h.2 k hk
def B2g{u}(h:A2l u=true):∀k∈u.kids,A2l k=true:=by obtain⟨a,b,c,d,e,f⟩:=u;rw[A2l,Z0g]at h;exact B9r h.2
def C0z:∀{ks:List A0a},∀k∈ks,1+A1w k<=A2v ks
 |[],k,hk=>by simp at hk
 |a::ks,k,hk=>by
  rw[A2v];rcases Z0A.1 hk with rfl|hk
  .omega
  .have:=C0z k hk;omega
def C2e{u}:∀k∈u.kids,1+A1w k<=A1w u:=by obtain⟨a,b,c,d,e,f⟩:=u;intro k hk;rw[A1w];exact C0z k hk
def D0B{u}(h:Fit u):∀k∈u.kids,Fit k:=by obtain⟨h1,h2,h3⟩:=h;intro k hk;have:=A2G hk;rw[A6q]at h3;exact⟨((A0a.good_iff _).1 h1).2.2.2.2.2.2.2.2 k hk,A2Z.1 (A3f u h2).2 k hk,by omega⟩
def D3P{u}(h:A2P u):∀k∈u.kids,A2P k:=((A6v u).1 h).2.2.2
def B6D{ks}{i}(h:i<ks.length):A0u (ks.take i)+A0o ks[i]<=A0u ks:=by
 induction ks generalizing i with
 |nil=>simp at h
 |cons k ks ih=>
  cases i with
  |zero=>simp[A0u]
  |succ i=>have:=ih (i:=i) (by simpa using h);simp only[Z0D,A0u,Z2W];omega
@[simp] def E5b:A2i prog 100=some false:=by kernel_rfl
@[simp] def E7N:A1h prog 100=some 1:=by kernel_rfl
@[simp] def E4e:A0C prog 100=some [.nilFunc]:=by kernel_rfl
def hLn:A2x:=⟨λ_=>true,λ_=>false,λd=>d==13⟩
@[simp] def E5D:hLn.imm=λ_=>true:=rfl
@[simp] def E6v:hLn.own=λ_=>false:=rfl
@[simp] def E6k:hLn.vec=λd=>d==13:=rfl
section
variable (gl:Nat->AV)
set_option maxHeartbeats 1000000 in
def C1X(a6:gl 0=A2z)(a4:gl 1=A2S):∀(N:Nat) (U:A0a) (d n:Nat) (M0 M:Mem) (xs:List ByteArray),A0o U<=N->Fit U->A2P U->A2l U=true->d+A1w U<=8->B6z n M0 M xs->xs.length+A0o U<=1000->
 A0d (WC gl) 181 [.agg U.row,I d,.ptr n 0,.ptr (n+1) 0] M (λv M'=>B6z n M0 M' (xs++A4g d U))
 |0,U,d,n,M0,M,xs,hN,hf,hb,hr,hdep,ho,hc=>by have:=A4P U;omega
 |N+1,U,d,n,M0,M,xs,hN,hf,hb,hr,hdep,ho,hc=>by
  obtain⟨ks,g⟩:∃ks,U.kids=ks:=⟨_,rfl⟩;have ha:=A6n hr;have b:=λM=>D7b gl a6 a4 U d M hf hb ha (by omega);refine A0j hLn func181 ?_;obtain⟨v0,c,a2,l⟩:=ho.arr;have a9:n<M.length:=(Z0b.1 c).1;rw[U.row_eq]at b;simp -dsimp -implicitDefEqProofs[U.row_eq];refine B7Y hLn (A0G gl) (λk=>if k=0 then 1 else if k=5\/k=6 then 2 else 0) (λ_=>n) (λ_ k=>k==6) (λk=>if k=6 then[]else[n]) (by intro i k _ h;have:k≠6:=(by simpa using h);simp[this]) (by rfl) (by kernel_rfl) ?_;simp -dsimp -implicitDefEqProofs[A0b c,A6w];refine A1M func182 b ?_;simp -dsimp -implicitDefEqProofs[A0p,A0Z,AV.storable,AV.cells];have aa:=A6q U;rw[g]at aa;refine A3V (C:=WC gl) (enc:=A5F) (e:=9) (sz:=1) (news:=[A3B U d]) A7n A9D B5x (λ_=>rfl) a2 (by simp[A0z]) (by simp;omega) rfl ?_;intro v1 M2 p1 p2 p3 _;have s:M2[n]?=some (.cells 37 [v0]):=p2.get c (λe=>by have:=l n e;omega);have a7:M2[n+1]?=some (.cells 100 [.func (.func 181) [] [.ptr n 0,.ptr (n+1) 0]]):=p2.get ho.fn (λe=>by have:=l _ e;omega);have t:n<M2.length:=(Z0b.1 s).1;have z:A1r (n+2) v1:=λf hf=>by
   rcases p3 with e|e
   .exact l f (e▸hf)
   .have:=e f hf;have:=ho.len;omega
  have a3:n+2<=M2.length:=Z0S ho.len p2.1;have u:B6z n M0 (M2.set n (.cells 37 [v1])) (xs++[A3B U d]):=by
   refine⟨⟨by have:=ho.low.1;have:=p2.1;simp;omega,λj hj=>?_⟩,by simpa using a3,?_,v1,?_,?_,z⟩
   .rw[Z0f (by omega),p2.2 j (by omega) (λe=>by have:=l _ e;omega)];exact ho.low.2 j hj
   .rw[Z0f (by omega)];exact a7
   .simp[t]
   .exact p1.keep ⟨by simp,λj hj h=>by rw[Z0f];rintro rfl;exact h rfl⟩ (o:=some n) (λf hf e=>by simp at e;have:=z f hf;omega)
  have w:A0n (some 1) M2 (.ptr n 0) v1=some (M2.set n (.cells 37 [v1])):=by rw[A0h s,p1.cells,Z0d ⟨p1.store,by simp,rfl⟩];rfl
  obtain⟨M3,a1⟩:∃M3,M3=M2.set n (.cells 37 [v1]):=⟨_,rfl⟩;rw[<-a1]at u w;have a5:M2[n]?=M[n]?:=by rw[s,c]
  simp -dsimp -implicitDefEqProofs[w,a5];clear w a1 a3 z t a7 s p1 p2 p3 a5 c a2 l a9 b;refine A0v hLn ks.length 17 (λT M5=>∃i:Nat,i<=ks.length/\T 1=I d/\T 2=.ptr n 0/\T 3=.ptr (n+1) 0/\T 15=.list 8 (A0r ks) .no/\T 16=I ks.length/\T 17=I i/\B6z n M0 M5 (xs++[A3B U d]++A5c (d+1) (ks.take i))) ?_ ?_
  .exact⟨0,by omega,by simp,by simp,by simp,by simp[g],by simp[g],by simp,by simpa[A5c]using u⟩
  clear u;rintro T M5 ⟨i,i1,t1,t2,t3,r,p,q,h5⟩;by_cases hi:i<ks.length;case neg=>
   (have y:¬(i:Int)<ks.length:=by omega);rw[Z0k (by omega)]at h5
   (have hL:A4g d U=A3B U d::A5c (d+1) ks:=by rw[<-g];cases U;rw[A4g];rfl);simp -dsimp -implicitDefEqProofs[p,q,y]
   rw[hL];simpa using h5
  have y:(i:Int)<ks.length:=by omega
  have w1:=A1y (i:=i) (by have:=A1O ks;have:=hf.2.2;omega);have w2:=A1y (i:=d) (by omega);have a8:ks[i]∈ks:=Z0u hi;have a:ks[i]∈U.kids:=by rw[g];exact a8
  have ac:=C2e _ a;have ad:A0u (ks.take i)+A0o ks[i]<=A0u ks:=B6D hi;have h6:=h5.app [A0l.cells 27 ks[i].row];have m:=C1X a6 a4 N ks[i] (d+1) n M0 _ _ (by omega) (D0B hf _ a) (D3P hb _ a) (B2g hr _ a) (by omega) h6 (by simp[A7T];omega);obtain⟨M6,a0⟩:∃M6,M6=M5++[A0l.cells 27 ks[i].row]:=⟨_,rfl⟩;have ab:M6[M5.length]?=some (A0l.cells 27 ks[i].row):=by rw[a0];simp
  rw[<-a0]at m h6;simp -dsimp -implicitDefEqProofs[t3,r,p,q,hi,y,A0m,A0n,A0e,AV.storable,AV.cells];rw[<-a0];simp -dsimp -implicitDefEqProofs[t1,A0b ab,A0b h6.fn,w2];refine A0s func181 m ?_;intro _ M7 h7;simp -dsimp -implicitDefEqProofs[t1,t2,t3,r,p,q,w1];refine⟨⟨i+1,by clear w1;omega,rfl,?_⟩,by clear w1;omega⟩;rw[B6W hi];simpa using h7
def B6k{n}{M}{v}{l}(h:A1n 9 1 A5F M v l)(hl:A1r n v){cs ds}(hr:Still M n (bdd n) cs ds):Still M n (bdd n) (v::cs) (.list 1 (A1b l) .no::ds):=Still.append (a:=[v]) (b:=[.list 1 (A1b l) .no]) (A2W (λ_=>rfl) C0n h hl) hr
def D4y(b:gl 0=A2z)(d:gl 1=A2S)(u:A0a)(M:Mem)(hf:Fit u)(hb:A2P u):A0d (WC gl) 126 [.agg u.row] M (λv M'=>v=(if A5k u=true then .list 1 (A1b (A4g 0 u)) .no else A0i)/\M'=M):=by
 have hS:=λM=>B9q gl u (.list 8 (A0r u.kids) .no) M (.inl rfl) hf.1 hf.2.1 hf.2.2 hb
 have hV:=λM=>B4y gl b d u M hf
 rw[B3E hb]at hV
 rw[show A6T u (.list 8 (A0r u.kids) .no)=u.row from u.row_eq.symm]at hS
 refine A0d.dataX ?_
 refine A0j hLn func126 ?_
 cases hfm:A5k u
 .rw[hfm]at hV;rw[u.row_eq]at hS hV|-;simp -dsimp -implicitDefEqProofs;refine A0f func180 (hS M) ?_;simp -dsimp -implicitDefEqProofs;refine A0f func109 (hV M) ?_;simp -dsimp -implicitDefEqProofs;exact⟨Grow.refl _,.same (by simp[bdd]) .nil⟩
 rw[hfm]at hV
 have c:=hfm
 simp only[A5k,Z0g,Z0m]at c
 have ho:B6z M.length M (M++[.cells 37 [A0i],.cells 100 [.func (.func 181) [] [.ptr M.length 0,.ptr (M.length+1) 0]]]) []:=by refine⟨⟨by simp,λj hj=>by rw[Z0h hj]⟩,by simp,by simp[],A0i,by simp,.nil,λf hf=>by simp at hf⟩
 have a:=C1X gl b d _ u 0 M.length M _ [] (Z0o _) hf hb c.1.1 (by omega) ho (by have:=hf.2.2;simp;omega)
 have hX:=ho.fn
 have e:A0n (some 1) (M++[.cells 37 [A0i],.cells 100 [.val .nilFunc]]) (.ptr (M.length+1) 0) (.func (.func 181) [] [.ptr M.length 0,.ptr (M.length+1) 0])=some (M++[.cells 37 [A0i],.cells 100 [.func (.func 181) [] [.ptr M.length 0,.ptr (M.length+1) 0]]]):=by rw[A0h (bt:=100) (cs:=[.val .nilFunc]) (by simp[])];simp[A0e,AV.storable,AV.cells]
 rw[u.row_eq]at hS hV a|-
 simp -dsimp -implicitDefEqProofs
 refine A0f func180 (hS M) ?_
 simp -dsimp -implicitDefEqProofs
 refine A0f func109 (hV M) ?_
 simp -dsimp -implicitDefEqProofs[A0m,e,A0b hX]
 refine A0s func181 a ?_
 rintro _ M2 ⟨h1,h2,h3,v,h4,h5,h6⟩
 simp -dsimp -implicitDefEqProofs[A0b h4]
 refine⟨h1.grow (Grow.refl _) (Z0o _),?_⟩
 exact B6k h5 (λf hf=>by have:=h6 f hf;omega) .nil
end
end
section
def D2b(u:A0a)(d:Nat)(ha:A3U u=true)(g:u.label.size<=1000):(A3B u d).size<=2*d+15000:=by
 obtain⟨hk,hh,hw⟩:=A7x ha;obtain⟨o,f⟩:=A5V hh;obtain⟨m,c⟩:=A5V hw;have e:(⟨#[32]⟩:ByteArray).size=1:=rfl;have b:(⟨#[58]⟩:ByteArray).size=1:=rfl;have e3:(⟨#[32,124]⟩:ByteArray).size=2:=rfl;have k:=A8p d;have key:∀n:Fin 8,(A4o.getD n.val ⟨#[]⟩).size<=9:=by decide
 have a:=key ⟨u.kind.toNat,by omega⟩;simp only at a;have i:(A7y u d).size<=2*d+9:=by rw[A7y,Z0x];omega
 have l:(A5d u d).size<=2*d+1010:=by
  unfold A5d;split
  .omega
  .rw[Z0x,Z0x,e];omega
 have j:(A4e u d).size<=2*d+7700:=by
  unfold A4e;split
  .omega
  .have:=A6p u.head (A5d u d++⟨#[58]⟩) (λw h=>(f w h).2);rw[Z0x,b]at this;omega
 unfold A3B;split
 .omega
 .have:=A6p u.words (A4e u d++⟨#[32,124]⟩) (λw h=>(c w h).2);rw[Z0x,e3]at this;omega
mutual
def B1t:∀(u:A0a) (d:Nat),A2l u=true->u.lims->d+A1w u<=8->A4T (A4g d u)<=A0o u*15020
 |.mk a b c e f ks,d,hr,hl,hd=>by have h1:=D2b _ d (A6n hr) (A3f _ hl).1.2.2.2;rw[A0a.lims]at hl;rw[A2l,Z0g]at hr;rw[A1w]at hd;have h2:=B5Z ks (d+1) b [] hr.2 hl.2 (λh=>by omega);rw[A4g,A7A,A0o];omega
def B5Z:∀(ks:List A0a) (d:Nat) (p:Int) (bf:List A0a),A4h p ks bf=true->A6W ks->(ks≠[]->d+A2v ks<=9)->A4T (A5c d ks)<=A0u ks*15020
 |[],d,p,bf,_,_,_=>by rw[A5c,A0u];simp
 |k::ks,d,p,bf,hr,hl,hd=>by rw[A4h]at hr;simp only[Z0g]at hr;rw[A6W]at hl;have hd:=hd (by simp);rw[A2v]at hd;have h1:=B1t k d hr.1.1.2 hl.1 (by omega);have h2:=B5Z ks d p _ hr.2 hl.2 (λ_=>by omega);rw[A5c,B8A,A0u];omega
end
def D3v(d:Nat)(u:A0a):A4g d u≠[]:=by cases u;rw[A4g];simp
section
variable (gl:Nat->AV)
def C1q(f:gl 0=A2z)(e:gl 1=A2S)(u:A0a)(M:Mem)(hf:Fit u)(hb:A2P u):A0d (WC gl) 72 [.agg u.row] M (λv M'=>(∃t,v=.tuple [S t,I (A7C u)])/\M'=M):=by
 refine A0j hB func72 ?_
 have hL:=D4y gl f e u M hf hb
 cases hfm:A5k u
 .rw[hfm,Z0e (by simp)]at hL;have hE:A7C u=1:=by simp[A7C,hfm]
  rw[u.row_eq]at hL|-;simp -dsimp -implicitDefEqProofs;refine A0f func126 hL ?_;simp -dsimp -implicitDefEqProofs[hE]
 rw[hfm,Z0d rfl]at hL
 have c:=hfm
 simp only[A5k,Z0g,Z0m]at c
 obtain⟨L,j⟩:∃L,L=A4g 0 u:=⟨_,rfl⟩
 have k:=B1t u 0 c.1.1 hf.2.1 (by omega)
 have a:=D3v 0 u
 have i:=A7Q 0 u
 have hE:A7C u=if 16384<A4T (A4g 0 u)then 6 else 0:=by simp[A7C,hfm]
 rw[<-j]at hL k a i hE
 have l:=hf.2.2
 have h:=D4U [10] rfl L a
 have g:0<L.length:=by rcases L with _|_<;>simp at a|-
 have b:¬(L.length:Int)=0:=by omega
 have m:(C1b L ⟨#[10]⟩).size+1=A4T L:=h
 have hj:=λM=>D7S gl M L .no ⟨#[10]⟩ (by omega) (by show(Lib.join _ [10]).length<=_;omega)
 rw[u.row_eq]at hL|-
 simp -dsimp -implicitDefEqProofs
 refine A0f func126 hL ?_
 simp -dsimp -implicitDefEqProofs[B5F,a]
 refine A0f func127 (hj M) ?_
 have d:(⟨#[10]⟩:ByteArray).size=1:=rfl
 have b1:¬(9223372036854775807:Int)<(C1b L ⟨#[10]⟩).size+1:=by omega
 by_cases hbig:16384<A4T L
 .have h2:(16384:Int)<(C1b L ⟨#[10]⟩).size+1:=by omega
  rw[Z0d hbig]at hE;simp -dsimp -implicitDefEqProofs[d,b1,h2,hE]
 .have h2:¬(16384:Int)<(C1b L ⟨#[10]⟩).size+1:=by omega
  rw[Z0e hbig]at hE;simp -dsimp -implicitDefEqProofs[d,b1,h2,hE]
end
end
section
variable (gl:Nat->AV)
def C0l:∀(u:A0a) (M:Mem),u.good->A0o u<=1000->A0d (WC gl) 187 [.agg u.row] M (λv M'=>v=I (A0o u)/\M'=M)
 |.mk id kind lab hd ws ks,M,hg,hc=>by
  obtain⟨_,_,q,_,m,_,l,_,b⟩:=(A0a.good_iff _).1 hg;have b:∀k∈ks,k.good:=b;have o:1+A0u ks<=1000:=by rwa[A0o]at hc
  have h:=A1O ks;have f:(A0a.mk id kind lab hd ws ks).row=[I id.act,I id.item,I id.n,I kind,S lab,.list 4 (A0g hd) .no,.list 4 (A0g ws) .no,.list 8 (A0r ks) .no]:=by rw[A0a.row]
  have g:A0o (.mk id kind lab hd ws ks)=1+A0u ks:=by rw[A0o]
  rw[f,g];refine A0j hB func187 ?_;simp -dsimp -implicitDefEqProofs;refine A0v hB ks.length 4 (λT M1=>∃i:Nat,i<=ks.length/\T 1=.cptr [I id.act,I id.item,I id.n,I kind,S lab,.list 4 (A0g hd) .no,.list 4 (A0g ws) .no,.list 8 (A0r ks) .no]/\T 4=I i/\M1=M/\∃d:Nat,T 3=I d/\1+A0u ks=d+A0u (ks.drop i)) ?_ ?_
  .exact⟨0,by omega,by simp,by simp,rfl,1,by simp,by simp⟩
  .rintro T M1 ⟨i,i1,t1,t4,rfl,d,t3,ho⟩;by_cases hi:i<ks.length
   ·(have c:(i:Int)<ks.length:=by omega);have w1:=A1y (i:=i) (by omega)
    have a:ks[i]∈ks:=Z0u hi;rw[B6O hi]at ho;have p:=A2G a;simp -dsimp -implicitDefEqProofs[t1,t3,t4,hi,c];have:=A0a.kid_lt (u:=.mk id kind lab hd ws ks) a;refine A0f func187 (C0l ks[i] M1 (b _ a) (by omega)) ?_;generalize A0o ks[i]=dk at*;have w2:=E3b (i:=d) (j:=dk) (by omega);obtain⟨e,he⟩:∃e,e=d+dk:=⟨_,rfl⟩;rw[<-he]at w2;simp -dsimp -implicitDefEqProofs[t1,t4,w1,w2];exact⟨⟨i+1,by clear w1;omega,rfl,e,rfl,by omega⟩,by clear w1;omega⟩
   ·(have c:¬(i:Int)<ks.length:=by omega);rw[show ks.drop i=[]from Z0n (by omega),A0u,Z0T]at ho
    rw[ho];simp -dsimp -implicitDefEqProofs[t1,t3,t4,c]
termination_by u=>SizeOf.sizeOf u
end
section
variable (gl:Nat->AV) (M:Mem)
def B8a(p k:Int):A0d (WC gl) 230 [I p,I k] M (λv M'=>v=B (A1o p k)/\M'=M):=by
 refine A0j hB func230 ?_;by_cases h0:p=0
 .subst h0;have e:A1o 0 k=(decide (k=1)||decide (k=2)):=by simp[A1o,A3y]
  rw[e];by_cases k1:k=1
  .simp -dsimp -implicitDefEqProofs[k1]
  .simp -dsimp -implicitDefEqProofs[k1];rfl
 by_cases h1:p=1
 .subst h1;have e:A1o 1 k=decide (k=2):=by simp[A1o,A3y]
  rw[e];simp -dsimp -implicitDefEqProofs;rfl
 by_cases h2:p=2
 .subst h2;have e:A1o 2 k=(decide (k=3)||decide (k=4)||decide (k=7)):=by simp[A1o,A3y,Z3Q]
  rw[e];by_cases k1:k=3
  .simp -dsimp -implicitDefEqProofs[k1]
  .by_cases k2:k=4
   .simp -dsimp -implicitDefEqProofs[k2]
   .simp -dsimp -implicitDefEqProofs[k1,k2];rfl
 by_cases h3:p=3
 .subst h3;have e:A1o 3 k=(decide (k=3)||decide (k=4)||decide (k=7)):=by simp[A1o,A3y,Z3Q]
  rw[e];by_cases k1:k=3
  .simp -dsimp -implicitDefEqProofs[k1]
  .by_cases k2:k=4
   .simp -dsimp -implicitDefEqProofs[k2]
   .simp -dsimp -implicitDefEqProofs[k1,k2];rfl
 by_cases h4:p=4
 .subst h4;have e:A1o 4 k=decide (k=5):=by simp[A1o,A3y]
  rw[e];simp -dsimp -implicitDefEqProofs;rfl
 by_cases h5:p=5
 .subst h5;have e:A1o 5 k=decide (k=6):=by simp[A1o,A3y]
  rw[e];simp -dsimp -implicitDefEqProofs;rfl
 .have e:A1o p k=false:=by
   by_cases q:0<=p/\p<8
   ·(have:p=6\/p=7:=by omega);rcases this with rfl|rfl<;>simp[A1o,A3y]
   .simp only[A1o,Z2F,Z1x];omega
  simp -dsimp -implicitDefEqProofs[h0,h1,h2,h3,h4,h5,e]
def D1D(s:ByteArray)(hs:s.size<=maxLen):A0d (WC gl) 349 [S s] M (λv M'=>v=B (A2I s)/\M'=M):=by
 have hs:s.size<=9223372036854775807:=hs;refine A0j hB func349 ?_;have hw:A2I s=(decide (1<=s.size)&&decide (s.size<=24)&&decide (A1F (A0X 33 126) s s.size 0<0)):=rfl;simp -dsimp -implicitDefEqProofs;refine A0v hB s.size 3 (λT M1=>∃i:Nat,i<=s.size/\M1=M/\T 0=S s/\T 3=I i/\A1F (A0X 33 126) s s.size 0=A1F (A0X 33 126) s (s.size-i) i) ?_ ?_
 .exact⟨0,by omega,rfl,by simp,by simp,by simp⟩
 rintro T M1 ⟨i,i1,rfl,t0,t3,ho⟩;by_cases hi:i<s.size
 .have a:(i:Int)<s.size:=by omega
  have w1:IntKind.i64.wrap ((i:Int)+1)=(i+1:Nat):=by rw[A0T (by omega) (by omega)];omega
  rw[B2U _ _ hi]at ho;generalize hc:A1c s i=c at*;by_cases c1:c<33
  ·(have hp:A0X 33 126 c=true:=by simp[A0X,c1]);rw[hp,Z0d rfl]at ho
   (have hn:¬A1F (A0X 33 126) s s.size 0<0:=by rw[ho];omega);rw[Z0w hn,Z1L]at hw
   simp -dsimp -implicitDefEqProofs[t0,t3,a,hc,c1,hw]
  .by_cases c2:c>126
   ·(have hp:A0X 33 126 c=true:=by simp[A0X];omega);rw[hp,Z0d rfl]at ho
    (have hn:¬A1F (A0X 33 126) s s.size 0<0:=by rw[ho];omega);rw[Z0w hn,Z1L]at hw
    have d:126<c:=c2;simp -dsimp -implicitDefEqProofs[t0,t3,a,hc,c1,c2,hw]
   ·(have hp:A0X 33 126 c=false:=by simp[A0X];omega);rw[hp,Z0e (by simp)]at ho
    have d:¬126<c:=c2;simp -dsimp -implicitDefEqProofs[t0,t3,a,hc,c1,c2,w1];exact⟨⟨i+1,by clear w1;omega,rfl,ho⟩,by clear w1;omega⟩
 .have a:¬(i:Int)<s.size:=by omega
  rw[show s.size-i=0 by omega]at ho;have hn:A1F (A0X 33 126) s s.size 0<0:=by rw[ho,A1F];omega
  rw[Z0s hn,Z2R]at hw;by_cases h1:1<=s.size
  ·(have b:(1:Int)<=s.size:=by omega);rw[Z0s h1,Z0r]at hw
   simp -dsimp -implicitDefEqProofs[t0,t3,a,b,hw];omega
  ·(have b:¬(1:Int)<=s.size:=by omega);rw[Z0w h1,Z0q]at hw
   simp -dsimp -implicitDefEqProofs[t0,t3,a,b,hw]
def C6v(ws:List A0H)(hl:ws.length<=100000000)(hs:∀w∈ws,w.text.size<=maxLen):A0d (WC gl) 279 [.list 4 (A0g ws) .no] M (λv M'=>v=B (A3l ws)/\M'=M):=by
 refine A0j hB func279 ?_;have hw:A3l ws=(decide (ws.length<=256)&&ws.all λw=>A2I w.text):=rfl;simp -dsimp -implicitDefEqProofs;refine A0v hB ws.length 3 (λT M1=>∃i:Nat,i<=ws.length/\M1=M/\T 0=.list 4 (A0g ws) .no/\T 3=I i/\(ws.all λw=>A2I w.text)=(ws.drop i).all λw=>A2I w.text) ?_ ?_
 .exact⟨0,by omega,rfl,by simp,by simp,by simp⟩
 rintro T M1 ⟨i,i1,rfl,t0,t3,ho⟩;by_cases hi:i<ws.length
 .have a:(i:Int)<ws.length:=by omega
  have w1:IntKind.i64.wrap ((i:Int)+1)=(i+1:Nat):=by rw[A0T (by omega) (by omega)];omega
  have hd:ws.drop i=ws[i]::ws.drop (i+1):=Z0j hi;rw[hd,Z1t]at ho;simp -dsimp -implicitDefEqProofs[t0,t3,hi,a,A0H.row];refine A0f func349 (D1D gl _ ws[i].text (hs _ (Z0u hi))) ?_;cases hp:A2I ws[i].text
  .rw[hp,Z0q]at ho;rw[ho,Z1L]at hw;simp -dsimp -implicitDefEqProofs[hw]
  .rw[hp,Z0r]at ho;simp -dsimp -implicitDefEqProofs[t0,t3,w1];exact⟨⟨i+1,by clear w1;omega,rfl,ho⟩,by clear w1;omega⟩
 .have a:¬(i:Int)<ws.length:=by omega
  rw[show ws.drop i=[]from Z0n (by omega)]at ho;rw[ho]at hw;simp -dsimp -implicitDefEqProofs[t0,t3,a,hw];omega
def C0w(u:A0a)(hg:u.good)(hl:u.lim):A0d (WC gl) 229 [.agg u.row] M (λv M'=>v=B (A7O u)/\M'=M):=by
 obtain⟨_,_,i,_,f,_,d,_,l⟩:=(A0a.good_iff _).1 hg;obtain⟨h,g,k,j⟩:=hl;obtain⟨R,hR⟩:∃R,R=A7O u:=⟨_,rfl⟩;have a:R=if u.kind=0 then decide (u.label.size=0)&&decide (u.head.length=0)&&decide (u.words.length=0)else decide (0<u.kind/\u.kind<=7)&&A0N u.label&&A3l u.head&&A3l u.words:=hR;rw[<-hR,u.row_eq];clear hR;refine A0j hB func229 ?_;by_cases k0:u.kind=0
 .rw[Z0d k0]at a;by_cases h1:u.label=⟨#[]⟩
  .rw[Z0s (A5s.1 h1),Z0r]at a;by_cases h2:u.head.length=0
   ·(have b:(u.head.length:Int)=0:=by omega);rw[Z0s h2,Z0r]at a
    by_cases h5:u.words.length=0
    ·(have c:(u.words.length:Int)=0:=by omega);rw[Z0s h5]at a
     simp -dsimp -implicitDefEqProofs[Z0P k0,Z0P h1,Z0P h2,Z0P h5,a]
    ·(have c:¬(u.words.length:Int)=0:=by omega);rw[Z0w h5]at a
     simp -dsimp -implicitDefEqProofs[Z0P k0,Z0P h1,Z0P h2,h5,a]
   ·(have b:¬(u.head.length:Int)=0:=by omega);rw[Z0w h2,Z0q]at a
    simp -dsimp -implicitDefEqProofs[Z0P k0,Z0P h1,h2,a]
  .rw[Z0w (λe=>h1 (A5s.2 e)),Z0q,Z0q]at a;simp -dsimp -implicitDefEqProofs[Z0P k0,h1,a]
 rw[Z0e k0]at a;by_cases a1:0<u.kind;case neg=>rw[Z0w (show¬(0<u.kind/\u.kind<=7)by omega)]at a;simp only[Z0q]at a;simp -dsimp -implicitDefEqProofs[k0,a1,a]
 by_cases a2:u.kind<=7;case neg=>rw[Z0w (show¬(0<u.kind/\u.kind<=7)by omega)]at a;simp only[Z0q]at a;simp -dsimp -implicitDefEqProofs[k0,a1,a2,a]
 rw[Z0s (show 0<u.kind/\u.kind<=7 by omega),Z0r]at a;simp -dsimp -implicitDefEqProofs[k0,a1,a2];refine A0f func105 (B1i gl M u.label i) ?_;cases h1:A0N u.label;case false=>rw[h1]at a;simp only[Z0q]at a;simp -dsimp -implicitDefEqProofs[a]
 rw[h1,Z0r]at a;simp -dsimp -implicitDefEqProofs;refine A0f func279 (C6v gl M u.head h (λw hw=>(f w hw).1)) ?_;cases h3:A3l u.head;case false=>rw[h3,Z0q]at a;simp -dsimp -implicitDefEqProofs[a]
 rw[h3,Z0r]at a;simp -dsimp -implicitDefEqProofs;refine A0f func279 (C6v gl M u.words g (λw hw=>(d w hw).1)) ?_;simp -dsimp -implicitDefEqProofs[a]
end
section
variable (gl:Nat->AV)
set_option maxHeartbeats 1000000 in
def B3w:∀(u:A0a) (d:Nat) (M:Mem),u.good->u.lims->d<=9->A0d (WC gl) 186 [.agg u.row,I d] M (λv M'=>v=B (B0w d u)/\M'=M)
 |.mk id kind lab hd ws ks,d,M,hg,hl,hdn=>by
  have ah:=hg;obtain⟨_,_,aj,_,af,_,ai,_,a6⟩:=(A0a.good_iff _).1 hg;have a6:∀k∈ks,k.good:=a6;rw[A0a.lims]at hl;obtain⟨a9,a8⟩:=hl;have a8:=A2Z.1 a8;have ag:ks.length<=1000:=a9.2.2.1;have ae:(A0a.mk id kind lab hd ws ks).row=[I id.act,I id.item,I id.n,I kind,S lab,.list 4 (A0g hd) .no,.list 4 (A0g ws) .no,.list 8 (A0r ks) .no]:=by rw[A0a.row]
  have ad:=λM=>C0w gl M (.mk id kind lab hd ws ks) hg a9;obtain⟨R,hR⟩:∃R,R=B0w d (.mk id kind lab hd ws ks):=⟨_,rfl⟩;have b:R=(!decide (8<d)&&!(decide (0<d)&&decide (kind=0))&&A7O (.mk id kind lab hd ws ks)&&decide (ks.length<=64)&&A6S kind d ks []):=by rw[hR,B0w]
  rw[<-hR];rw[ae]at ad|-;clear hR;refine A0d.dataX ?_;refine A0j hB func186 ?_;by_cases a1:8<d
  ·(have s:(8:Int)<d:=by omega);have a5:(d:Int)>8:=s
   rw[Z0s a1]at b;simp only[Z1M,Z0q]at b;simp -dsimp -implicitDefEqProofs[s,b];exact⟨A0c.refl _ _,.same trivial .nil⟩
  have s:¬(8:Int)<d:=by omega
  have a5:¬(d:Int)>8:=s;rw[Z0w a1,Z1C,Z0r]at b;by_cases a2:0<d
  ·(have a0:(0:Int)<d:=by omega);have a7:(d:Int)>0:=a0
   by_cases a3:kind=0
   .rw[Z0s a2,Z0s a3]at b;simp only[Z3e,Z1M,Z0q]at b;simp -dsimp -implicitDefEqProofs[s,a2,Z0P a3,b];exact⟨A0c.refl _ _,.same trivial .nil⟩
   rw[Z0s a2,Z0w a3,Z1L,Z1C,Z0r]at b;simp -dsimp -implicitDefEqProofs[s,a2,a3];refine A0f func229 (ad M) ?_;cases ha:A7O (.mk id kind lab hd ws ks);(case false=>rw[ha]at b;simp only[Z0q]at b;simp -dsimp -implicitDefEqProofs[a3,b];exact⟨A0c.refl _ _,.same trivial .nil⟩);by_cases a4:ks.length<=64;case neg=>
    (have m:(64:Int)<ks.length:=by omega);have r:(ks.length:Int)>64:=m
    rw[Z0w a4]at b;simp only[Z0q,Z1L]at b;simp -dsimp -implicitDefEqProofs[a3,m,b];exact⟨A0c.refl _ _,.same trivial .nil⟩
   (have m:¬(64:Int)<ks.length:=by omega);have r:¬(ks.length:Int)>64:=m
   rw[ha,Z0s a4,Z0r,Z0r]at b;simp -dsimp -implicitDefEqProofs[a3,m];refine A0v hB ks.length 5 (λT M1=>∃i:Nat,i<=ks.length/\T 1=I d/\T 2=.cptr [I id.act,I id.item,I id.n,I kind,S lab,.list 4 (A0g hd) .no,.list 4 (A0g ws) .no,.list 8 (A0r ks) .no]/\T 5=I i/\Grow M M1/\A6S kind d ks []=A6S kind d (ks.drop i) (ks.take i)) ?_ ?_
   .exact⟨0,by omega,by simp,by simp,by simp,A0c.refl _ _,by simp⟩
   rintro T M1 ⟨i,i1,t1,t2,t5,w,ho⟩;by_cases hi:i<ks.length;case neg=>
    (have f:¬(i:Int)<ks.length:=by omega);rw[show ks.drop i=[]from Z0n (by omega),A6S]at ho
    rw[ho]at b;simp -dsimp -implicitDefEqProofs[t2,t5,f,b];exact⟨w,.same trivial .nil⟩
   (have f:(i:Int)<ks.length:=by omega);have w1:=A1y (i:=i) (by omega)
   have w3:=A1y (i:=d) (by omega);have o:ks[i]∈ks:=Z0u hi;have aa:ks.drop i=ks[i]::ks.drop (i+1):=Z0j hi;rw[aa,A6S]at ho;(have ac:ks.take i++[ks[i]]=ks.take (i+1):=by rw[Z1k,Z0l hi,Z2T]);rw[ac]at ho;obtain⟨X,hX⟩:∃X,X=ks[i]:=⟨_,rfl⟩;(have h:ks[i].row=[I X.id.act,I X.id.item,I X.id.n,I X.kind,S X.label,.list 4 (A0g X.head) .no,.list 4 (A0g X.words) .no,.list 8 (A0r X.kids) .no]:=by rw[<-hX];exact X.row_eq);rw[<-hX]at ho;have l:=λM=>B3w ks[i] (d+1) M (a6 _ o) (a8 _ o) (by omega);simp only[h]at l;rw[<-hX]at l;obtain⟨M2,p⟩:∃M2,M2=M1++[A0l.cells 27 [I X.id.act,I X.id.item,I X.id.n,I X.kind,S X.label,.list 4 (A0g X.head) .no,.list 4 (A0g X.words) .no,.list 8 (A0r X.kids) .no]]:=⟨_,rfl⟩;(have c:M2[M1.length]?=some (.cells 27 [I X.id.act,I X.id.item,I X.id.n,I X.kind,S X.label,.list 4 (A0g X.head) .no,.list 4 (A0g X.words) .no,.list 8 (A0r X.kids) .no]):=by rw[p];simp);(have e:Grow M M2:=by rw[p];exact w.trans (A0c.app none _ _));obtain⟨q,hq⟩:∃q,q=M1.length:=⟨_,rfl⟩;simp -dsimp -implicitDefEqProofs[t2,t5,hi,f,h,A0m,A0n,A0e,AV.storable,AV.cells];rw[<-p,<-hq];rw[<-hq]at c;clear p w hq;simp -dsimp -implicitDefEqProofs[A0b c];refine A0f func230 (B8a gl M2 kind X.kind) ?_;cases hn:A1o kind X.kind;(case false=>rw[hn]at ho;simp only[Z0q]at ho;rw[ho]at b;simp -dsimp -implicitDefEqProofs[b];exact⟨e,.same trivial .nil⟩);rw[hn,Z0r]at ho;have:=A0a.kid_lt (u:=.mk id kind lab hd ws ks) o;simp -dsimp -implicitDefEqProofs[t1,A0b c,w3];refine A0f func186 (l M2) ?_;cases hrt:B0w (d+1) X;(case false=>rw[hrt]at ho;simp only[Z0q]at ho;rw[ho]at b;simp -dsimp -implicitDefEqProofs[b];exact⟨e,.same trivial .nil⟩);rw[hrt,Z0r]at ho;simp -dsimp -implicitDefEqProofs[];refine A3e hB (λT2 M3=>∃j:Nat,j<=i/\T2 1=I d/\T2 2=.cptr [I id.act,I id.item,I id.n,I kind,S lab,.list 4 (A0g hd) .no,.list 4 (A0g ws) .no,.list 8 (A0r ks) .no]/\T2 5=I i/\T2 6=.ptr q 0/\T2 7=I j/\M3=M2/\((ks.take i).any λa=>A2k a X)=(((ks.take i).drop j).any λa=>A2k a X)) (λT M1=>match T 7 with|.val (.int _ j)=>i-j.toNat|_=>0) (by kernel_rfl) ?_ ?_
   .exact⟨0,by omega,by simp[t1],by simp[t2],by simp[t5],by simp,by simp,rfl,by simp⟩
   rintro T2 M3 ⟨j,j1,u1,u2,u5,u6,u7,rfl,hb⟩;by_cases hj:j<i;case neg=>
    (have t:¬(j:Int)<i:=by omega);rw[show(ks.take i).drop j=[]from Z0n (by simp;omega),Z3H]at hb
    rw[hb,Z1C,Z0r]at ho;simp -dsimp -implicitDefEqProofs[u1,u2,u5,u7,t,w1,t5];exact⟨⟨i+1,by clear w1;omega,rfl,e,ho⟩,by clear w1;omega⟩
   (have t:(j:Int)<i:=by omega);have z:j<ks.length:=by omega
   (have g:(j:Int)<ks.length:=by omega);have w2:=A1y (i:=j) (by omega)
   (have ab:(ks.take i).drop j=ks[j]::(ks.take i).drop (j+1):=by rw[Z0j (by simp;omega)];simp);rw[ab,Z2s]at hb
   obtain⟨Y,hY⟩:∃Y,Y=ks[j]:=⟨_,rfl⟩;(have y:ks[j].row=[I Y.id.act,I Y.id.item,I Y.id.n,I Y.kind,S Y.label,.list 4 (A0g Y.head) .no,.list 4 (A0g Y.words) .no,.list 8 (A0r Y.kids) .no]:=by rw[<-hY];exact Y.row_eq);rw[<-hY]at hb;simp -dsimp -implicitDefEqProofs[u5,u7,t];refine A5r hB (A0G gl) (λk=>if k=7\/k=17 then 1 else 0) (λ_=>q) (λ_=>false) [q] (by intros;simp) (by rfl) (by kernel_rfl) ?_;by_cases c1:Y.kind=X.kind
   .by_cases c2:Y.label=X.label
    ·(have hs:A2k Y X=true:=by simp[A2k,c1,c2]);rw[hs,Z1X]at hb
     rw[hb,Z1M,Z0q]at ho;rw[ho]at b;simp -dsimp -implicitDefEqProofs[u2,u6,u7,z,g,y,Z0P c1,Z0P c2,A6w,A0b c,b];exact⟨e,.same trivial .nil⟩
    ·(have hs:A2k Y X=false:=by simp[A2k,c2]);rw[hs,Z1h]at hb
     simp -dsimp -implicitDefEqProofs[u1,u2,u5,u6,u7,z,g,y,Z0P c1,c2,A6w,A0b c,w2];exact⟨⟨j+1,by clear w2;omega,rfl,hb⟩,by clear w2;omega⟩
   ·(have hs:A2k Y X=false:=by simp[A2k,c1]);rw[hs,Z1h]at hb
    simp -dsimp -implicitDefEqProofs[u1,u2,u5,u6,u7,z,g,y,c1,A6w,A0b c,w2];exact⟨⟨j+1,by clear w2;omega,rfl,hb⟩,by clear w2;omega⟩
  have a0:¬(0:Int)<d:=by omega
  have a7:¬(d:Int)>0:=a0;rw[Z0w a2,Z0q,Z1C,Z0r]at b;simp -dsimp -implicitDefEqProofs[s,a2];refine A0f func229 (ad M) ?_;cases ha:A7O (.mk id kind lab hd ws ks);case false=>rw[ha]at b;simp only[Z0q]at b;simp -dsimp -implicitDefEqProofs[b];exact⟨A0c.refl _ _,.same trivial .nil⟩
  by_cases a4:ks.length<=64;case neg=>
   (have m:(64:Int)<ks.length:=by omega);have r:(ks.length:Int)>64:=m
   rw[Z0w a4]at b;simp only[Z0q,Z1L]at b;simp -dsimp -implicitDefEqProofs[m,b];exact⟨A0c.refl _ _,.same trivial .nil⟩
  have m:¬(64:Int)<ks.length:=by omega
  have r:¬(ks.length:Int)>64:=m;rw[ha,Z0s a4,Z0r,Z0r]at b;simp -dsimp -implicitDefEqProofs[m];refine A0v hB ks.length 5 (λT M1=>∃i:Nat,i<=ks.length/\T 1=I d/\T 2=.cptr [I id.act,I id.item,I id.n,I kind,S lab,.list 4 (A0g hd) .no,.list 4 (A0g ws) .no,.list 8 (A0r ks) .no]/\T 5=I i/\Grow M M1/\A6S kind d ks []=A6S kind d (ks.drop i) (ks.take i)) ?_ ?_
  .exact⟨0,by omega,by simp,by simp,by simp,A0c.refl _ _,by simp⟩
  rintro T M1 ⟨i,i1,t1,t2,t5,w,ho⟩;by_cases hi:i<ks.length;case neg=>
   (have f:¬(i:Int)<ks.length:=by omega);rw[show ks.drop i=[]from Z0n (by omega),A6S]at ho
   rw[ho]at b;simp -dsimp -implicitDefEqProofs[t2,t5,f,b];exact⟨w,.same trivial .nil⟩
  have f:(i:Int)<ks.length:=by omega
  have w1:=A1y (i:=i) (by omega);have w3:=A1y (i:=d) (by omega);have o:ks[i]∈ks:=Z0u hi;have aa:ks.drop i=ks[i]::ks.drop (i+1):=Z0j hi;rw[aa,A6S]at ho;have ac:ks.take i++[ks[i]]=ks.take (i+1):=by rw[Z1k,Z0l hi,Z2T]
  rw[ac]at ho;obtain⟨X,hX⟩:∃X,X=ks[i]:=⟨_,rfl⟩;have h:ks[i].row=[I X.id.act,I X.id.item,I X.id.n,I X.kind,S X.label,.list 4 (A0g X.head) .no,.list 4 (A0g X.words) .no,.list 8 (A0r X.kids) .no]:=by rw[<-hX];exact X.row_eq
  rw[<-hX]at ho;have l:=λM=>B3w ks[i] (d+1) M (a6 _ o) (a8 _ o) (by omega);simp only[h]at l;rw[<-hX]at l;obtain⟨M2,p⟩:∃M2,M2=M1++[A0l.cells 27 [I X.id.act,I X.id.item,I X.id.n,I X.kind,S X.label,.list 4 (A0g X.head) .no,.list 4 (A0g X.words) .no,.list 8 (A0r X.kids) .no]]:=⟨_,rfl⟩;have c:M2[M1.length]?=some (.cells 27 [I X.id.act,I X.id.item,I X.id.n,I X.kind,S X.label,.list 4 (A0g X.head) .no,.list 4 (A0g X.words) .no,.list 8 (A0r X.kids) .no]):=by rw[p];simp
  have e:Grow M M2:=by rw[p];exact w.trans (A0c.app none _ _)
  obtain⟨q,hq⟩:∃q,q=M1.length:=⟨_,rfl⟩;simp -dsimp -implicitDefEqProofs[t2,t5,hi,f,h,A0m,A0n,A0e,AV.storable,AV.cells];rw[<-p,<-hq];rw[<-hq]at c;clear p w hq;simp -dsimp -implicitDefEqProofs[A0b c];refine A0f func230 (B8a gl M2 kind X.kind) ?_;cases hn:A1o kind X.kind;case false=>rw[hn]at ho;simp only[Z0q]at ho;rw[ho]at b;simp -dsimp -implicitDefEqProofs[b];exact⟨e,.same trivial .nil⟩
  rw[hn,Z0r]at ho;have:=A0a.kid_lt (u:=.mk id kind lab hd ws ks) o;simp -dsimp -implicitDefEqProofs[t1,A0b c,w3];refine A0f func186 (l M2) ?_;cases hrt:B0w (d+1) X;case false=>rw[hrt]at ho;simp only[Z0q]at ho;rw[ho]at b;simp -dsimp -implicitDefEqProofs[b];exact⟨e,.same trivial .nil⟩
  rw[hrt,Z0r]at ho;simp -dsimp -implicitDefEqProofs[];refine A3e hB (λT2 M3=>∃j:Nat,j<=i/\T2 1=I d/\T2 2=.cptr [I id.act,I id.item,I id.n,I kind,S lab,.list 4 (A0g hd) .no,.list 4 (A0g ws) .no,.list 8 (A0r ks) .no]/\T2 5=I i/\T2 6=.ptr q 0/\T2 7=I j/\M3=M2/\((ks.take i).any λa=>A2k a X)=(((ks.take i).drop j).any λa=>A2k a X)) (λT M1=>match T 7 with|.val (.int _ j)=>i-j.toNat|_=>0) (by kernel_rfl) ?_ ?_
  .exact⟨0,by omega,by simp[t1],by simp[t2],by simp[t5],by simp,by simp,rfl,by simp⟩
  rintro T2 M3 ⟨j,j1,u1,u2,u5,u6,u7,rfl,hb⟩;by_cases hj:j<i;case neg=>
   (have t:¬(j:Int)<i:=by omega);rw[show(ks.take i).drop j=[]from Z0n (by simp;omega),Z3H]at hb
   rw[hb,Z1C,Z0r]at ho;simp -dsimp -implicitDefEqProofs[u1,u2,u5,u7,t,w1,t5];exact⟨⟨i+1,by clear w1;omega,rfl,e,ho⟩,by clear w1;omega⟩
  have t:(j:Int)<i:=by omega
  have z:j<ks.length:=by omega
  have g:(j:Int)<ks.length:=by omega
  have w2:=A1y (i:=j) (by omega);have ab:(ks.take i).drop j=ks[j]::(ks.take i).drop (j+1):=by rw[Z0j (by simp;omega)];simp
  rw[ab,Z2s]at hb;obtain⟨Y,hY⟩:∃Y,Y=ks[j]:=⟨_,rfl⟩;have y:ks[j].row=[I Y.id.act,I Y.id.item,I Y.id.n,I Y.kind,S Y.label,.list 4 (A0g Y.head) .no,.list 4 (A0g Y.words) .no,.list 8 (A0r Y.kids) .no]:=by rw[<-hY];exact Y.row_eq
  rw[<-hY]at hb;simp -dsimp -implicitDefEqProofs[u5,u7,t];refine A5r hB (A0G gl) (λk=>if k=7\/k=17 then 1 else 0) (λ_=>q) (λ_=>false) [q] (by intros;simp) (by rfl) (by kernel_rfl) ?_;by_cases c1:Y.kind=X.kind
  .by_cases c2:Y.label=X.label
   ·(have hs:A2k Y X=true:=by simp[A2k,c1,c2]);rw[hs,Z1X]at hb
    rw[hb,Z1M,Z0q]at ho;rw[ho]at b;simp -dsimp -implicitDefEqProofs[u2,u6,u7,z,g,y,Z0P c1,Z0P c2,A6w,A0b c,b];exact⟨e,.same trivial .nil⟩
   ·(have hs:A2k Y X=false:=by simp[A2k,c2]);rw[hs,Z1h]at hb
    simp -dsimp -implicitDefEqProofs[u1,u2,u5,u6,u7,z,g,y,Z0P c1,c2,A6w,A0b c,w2];exact⟨⟨j+1,by clear w2;omega,rfl,hb⟩,by clear w2;omega⟩
  ·(have hs:A2k Y X=false:=by simp[A2k,c1]);rw[hs,Z1h]at hb
   simp -dsimp -implicitDefEqProofs[u1,u2,u5,u6,u7,z,g,y,c1,A6w,A0b c,w2];exact⟨⟨j+1,by clear w2;omega,rfl,hb⟩,by clear w2;omega⟩
termination_by u=>SizeOf.sizeOf u
end
def E0q(s:ByteArray):s++⟨#[]⟩=s:=by apply ByteArray.ext;simp[]
def C4z(s:ByteArray)(ws:List A0H):s++A5i ⟨#[]⟩ ws=A5i s ws:=by rw[<-D4E,E0q]
section
variable (gl:Nat->AV)
def B6x(u:A0a)(M:Mem)(hf:Fit u):A0d (WC gl) 130 [.agg u.row] M (λv M'=>v=B (A5k u)/\M'=M):=by
 obtain⟨hg,hl,hc⟩:=hf;have hs:=λM=>B3w gl u 0 M hg hl (by omega);have hn:=λM=>C0l gl u M hg hc;have hR:=D5A u;have h3:A0o u<=1024:=by omega
 have a:(A0o u:Int)<=1024:=by omega
 rw[Z0s h3,Z2R]at hR;rw[hR]at hs;clear hR;rw[u.row_eq]at hs hn|-;refine A0j hB func130 ?_;simp -dsimp -implicitDefEqProofs;refine A0f func186 (hs M) ?_;cases hfm:A5k u
 .simp -dsimp -implicitDefEqProofs
 .simp -dsimp -implicitDefEqProofs;refine A0f func187 (hn M) ?_;simp -dsimp -implicitDefEqProofs[a]
def C9d(M:Mem):A0d (WC gl) 280 [] M (λv M'=>v=.list 1 (A1b A4o) .full/\M'=M):=by refine A0j hB func280 ?_;simp -dsimp -implicitDefEqProofs[A0p,A0Z,AV.storable,AV.cells];rfl
def C8a(ws:List A0H)(M:Mem)(hl:ws.length<=1000000)(hw:∀w∈ws,1<=w.text.size/\w.text.size<=24):A0d (WC gl) 281 [.list 4 (A0g ws) .no] M (λv M'=>v=S (A5i ⟨#[]⟩ ws)/\M'=M):=by
 refine A0j hB func281 ?_
 simp -dsimp -implicitDefEqProofs
 refine A0v hB ws.length 4 (λT M1=>∃i:Nat,i<=ws.length/\M1=M/\T 0=.list 4 (A0g ws) .no/\T 3=S (A5i ⟨#[]⟩ (ws.take i))/\T 4=I i) ?_ ?_
 .exact⟨0,by omega,rfl,by simp,by simp[A5i],by simp⟩
 rintro T M1 ⟨i,i1,rfl,t0,t3,t4⟩
 by_cases hi:i<ws.length
 case neg=>
  have a:¬(i:Int)<ws.length:=by omega
  rw[Z0k (by omega)]at t3;simp -dsimp -implicitDefEqProofs[t0,t3,t4,a]
 have a:(i:Int)<ws.length:=by omega
 have w1:=A1y (i:=i) (by omega)
 have hp:A5i ⟨#[]⟩ (ws.take (i+1))=A5i ⟨#[]⟩ (ws.take i)++⟨#[32]⟩++B0u ws[i].text:=by rw[Z0E hi,A5i,Z2X];rfl
 obtain⟨h1,h2⟩:=hw _ (Z0u hi)
 obtain⟨p,d⟩:∃p,p=A5i ⟨#[]⟩ (ws.take i):=⟨_,rfl⟩
 have e:p.size<=27000000:=by have:=A6p (ws.take i) ⟨#[]⟩ λw h=>(hw w (Z1p h)).2;rw[<-d]at this;have e0:(⟨#[]⟩:ByteArray).size=0:=rfl;rw[e0]at this;simp at this;omega
 have c:(⟨#[32]⟩:ByteArray).size=1:=rfl
 have b:(⟨#[92]⟩:ByteArray).size=1:=rfl
 have b0:¬(9223372036854775807:Int)<1+ws[i].text.size:=by omega
 have b1:¬(9223372036854775807:Int)<p.size+1:=by omega
 have b3:¬(9223372036854775807:Int)<p.size+1+ws[i].text.size:=by omega
 have b4:¬(9223372036854775807:Int)<p.size+1+(1+ws[i].text.size):=by omega
 have b5:0<ws[i].text.size:=h1
 rw[<-d]at t3 hp
 by_cases c1:A1c ws[i].text 0=124
 .have he:B0u ws[i].text=⟨#[92]⟩++ws[i].text:=by rw[B0u,Z0d (.inl c1)]
  rw[he]at hp;simp -dsimp -implicitDefEqProofs[t0,t3,t4,a,hi,A0H.row,c,b,b0,b1,b4,b5,c1,w1];exact⟨⟨i+1,by clear w1;omega,by rw[hp],rfl⟩,by clear w1;omega⟩
 by_cases c2:A1c ws[i].text 0=92
 .have he:B0u ws[i].text=⟨#[92]⟩++ws[i].text:=by rw[B0u,Z0d (.inr c2)]
  rw[he]at hp;simp -dsimp -implicitDefEqProofs[t0,t3,t4,a,hi,A0H.row,c,b,b0,b1,b4,b5,c2,w1];exact⟨⟨i+1,by clear w1;omega,by rw[hp],rfl⟩,by clear w1;omega⟩
 have he:B0u ws[i].text=ws[i].text:=by rw[B0u,Z0e (by simp[c1,c2])]
 rw[he]at hp
 simp -dsimp -implicitDefEqProofs[t0,t3,t4,a,hi,A0H.row,c,b1,b3,b5,c1,c2,w1]
 exact⟨⟨i+1,by clear w1;omega,by rw[hp],rfl⟩,by clear w1;omega⟩
end
section
variable (gl:Nat->AV)
def D2U(u:A0a)(d:Nat)(M:Mem)(hf:Fit u)(ha:A3U u=true)(hd:d<=8):A0d (WC gl) 231 [.agg u.row,I d] M (λv M'=>v=S (A3B u d)/\M'=M):=by
 obtain⟨hk,hh,hw⟩:=A7x ha
 obtain⟨y,p⟩:=A5V hh
 obtain⟨s,m⟩:=A5V hw
 have l:=(A3f u hf.2.1).1
 have a7:=l.2.2.2
 have t:=λM=>C0w gl M u hf.1 l
 have a4:A7O u=true:=by rw[C7C,Z0g]at ha;exact ha.1
 rw[a4]at t
 have j:(⟨#[32]⟩:ByteArray).size=1:=rfl
 have e:(⟨#[58]⟩:ByteArray).size=1:=rfl
 have e3:(⟨#[32,124]⟩:ByteArray).size=2:=rfl
 have e2:(⟨#[32,32]⟩:ByteArray).size=2:=rfl
 have aa:=A8p d
 have key:∀n:Fin 8,(A4o.getD n.val ⟨#[]⟩).size<=9:=by decide
 have a6:=key ⟨u.kind.toNat,by omega⟩
 have z:A7y u d=A8C d++A4o.getD u.kind.toNat ⟨#[]⟩:=rfl
 simp only at a6
 have b1:¬(9223372036854775807:Int)<(A8C d).size+(A4o.getD u.kind.toNat ⟨#[]⟩).size:=by omega
 have ab:(A7y u d).size<=2*d+9:=by rw[z,Z0x];omega
 have ac:(A5d u d).size<=2*d+1010:=by
  unfold A5d;split
  .omega
  .rw[Z0x,Z0x,j];omega
 have e0:(⟨#[]⟩:ByteArray).size=0:=rfl
 have a0:∀ws:List A0H,ws.length<=256->(∀w∈ws,1<=w.text.size/\w.text.size<=24)->(A5i ⟨#[]⟩ ws).size<=6656:=λws h1 h2=>by have:=A6p ws ⟨#[]⟩ λw h=>(h2 w h).2;rw[e0]at this;omega
 have ph:=a0 u.head y p
 have pw:=a0 u.words s m
 have a9:(A4e u d).size<=2*d+7700:=by
  unfold A4e;split
  .omega
  .have:=A6p u.head (A5d u d++⟨#[58]⟩) (λw h=>(p w h).2);rw[Z0x,e]at this;omega
 have b2:¬(9223372036854775807:Int)<(A7y u d).size+1:=by omega
 have b3:¬(9223372036854775807:Int)<(A7y u d).size+1+u.label.size:=by omega
 have b4:¬(9223372036854775807:Int)<(A5d u d).size+1:=by omega
 have b5:¬(9223372036854775807:Int)<(A4e u d).size+2:=by omega
 have b6:¬(9223372036854775807:Int)<(A5d u d).size+1+(A5i ⟨#[]⟩ u.head).size:=by omega
 have b7:¬(9223372036854775807:Int)<(A4e u d).size+2+(A5i ⟨#[]⟩ u.words).size:=by omega
 have b:∀ws:List A0H,ws.length<=256->(∀w∈ws,1<=w.text.size/\w.text.size<=24)->∀M,A0d (WC gl) 281 [.list 4 (A0g ws) .no] M (λv M'=>v=S (A5i ⟨#[]⟩ ws)/\M'=M):=λws h1 h2 M=>C8a gl ws M (by omega) h2
 have d1:¬(d:Int)<0:=by omega
 have d2:¬(8:Int)<d:=by omega
 have d3:¬(d:Int)>8:=d2
 rw[u.row_eq]at t|-
 refine A0j hB func231 ?_
 simp -dsimp -implicitDefEqProofs[d1,d2]
 refine A0f func229 (t M) ?_
 simp -dsimp -implicitDefEqProofs
 refine A0v hB d 6 (λT M1=>∃i:Nat,i<=d/\T 1=I d/\T 2=.cptr [I u.id.act,I u.id.item,I u.id.n,I u.kind,S u.label,.list 4 (A0g u.head) .no,.list 4 (A0g u.words) .no,.list 8 (A0r u.kids) .no]/\T 5=S (A8C i)/\T 6=I i/\M1=M) ?_ ?_
 .exact⟨0,by omega,by simp,by simp,by simp;rfl,by simp,rfl⟩
 rintro T M1 ⟨i,i1,t1,t2,t5,t6,rfl⟩
 by_cases hi:i<d
 .have o:(i:Int)<d:=by omega
  have w1:=A1y (i:=i) (by omega);have ad:=A8p i;have b0:¬(9223372036854775807:Int)<(A8C i).size+2:=by omega
  simp -dsimp -implicitDefEqProofs[t1,t2,t5,t6,o,e2,b0,w1];exact⟨⟨i+1,by clear w1;omega,by rw[A8C],rfl⟩,by clear w1;omega⟩
 have o:¬(i:Int)<d:=by omega
 have a3:i=d:=by omega
 subst a3
 obtain⟨kn,f⟩:∃kn:Nat,u.kind=kn:=⟨u.kind.toNat,by omega⟩
 have a:kn<8:=by omega
 have a5:u.kind.toNat=kn:=by omega
 have c:(kn:Int)<8:=by omega
 have hN:kn<A4o.length:=a
 have a2:A4o[kn]'(by show kn<8;exact a)=A4o.getD u.kind.toNat ⟨#[]⟩:=by rw[a5,Z1u,Z0l (by show kn<8;exact a)];rfl
 have q1:A8C i++A4o.getD u.kind.toNat ⟨#[]⟩=A7y u i:=z.symm
 rw[<-a2]at q1 b1
 simp -dsimp -implicitDefEqProofs[t1,t6,o]
 refine A1i hB (A0G gl) (λ_=>0) (λ_=>0) (by rfl) (by kernel_rfl) ?_
 simp -dsimp -implicitDefEqProofs[t5]
 refine A1M func280 (λM=>(C9d gl M)) ?_
 have a8:=C4z
 by_cases k0:u.kind=0
 .have g:kn=0:=by omega
  subst g;have k:=ha;unfold A3U at k;simp only[k0,Z0H,Z0g,Z0m]at k;have z1:u.head.length=0:=k.2.1.2;have z2:u.words.length=0:=k.2.2;have q:A3B u i=A7y u i:=by rw[A3B,Z0d z2,A4e,Z0d z1,A5d,Z0d k0]
  simp -dsimp -implicitDefEqProofs[t2,k0,hN,b1,q1,z1,z2,q]
 have g:¬kn=0:=by omega
 have q2:A7y u i++⟨#[32]⟩++u.label=A5d u i:=by rw[A5d,Z0e k0,A9G]
 by_cases z1:u.head.length=0
 .have q3:A5d u i=A4e u i:=by rw[A4e,Z0d z1]
  by_cases z2:u.words.length=0
  ·(have q4:A4e u i=A3B u i:=by rw[A3B,Z0d z2]);simp -dsimp -implicitDefEqProofs[t2,f,hN,b1,g,q1,q2,z1,z2,j,b2,b3,q3,q4]
  ·(have r:0<u.words.length:=by omega);have q4:A3B u i=(A4e u i++⟨#[32,124]⟩)++A5i ⟨#[]⟩ u.words:=by rw[A3B,Z0e z2,C4z]
   simp -dsimp -implicitDefEqProofs[t2,f,hN,b1,g,q1,q2,z1,r,j,e3,b2,b3,b5,q3];refine A0f func281 (b u.words s m M1) ?_;simp -dsimp -implicitDefEqProofs[e3,b7,q4]
 have a1:0<u.head.length:=by omega
 have q3:A4e u i=(A5d u i++⟨#[58]⟩)++A5i ⟨#[]⟩ u.head:=by rw[A4e,Z0e z1,C4z]
 simp -dsimp -implicitDefEqProofs[t2,f,hN,b1,g,q1,q2,a1,j,e,b2,b3,b4]
 refine A0f func281 (b u.head y p M1) ?_
 by_cases z2:u.words.length=0
 .have q4:A4e u i=A3B u i:=by rw[A3B,Z0d z2]
  simp -dsimp -implicitDefEqProofs[t2,f,z2,e,b6,<-q3,q4]
 .have r:0<u.words.length:=by omega
  have q4:A3B u i=(A4e u i++⟨#[32,124]⟩)++A5i ⟨#[]⟩ u.words:=by rw[A3B,Z0e z2,C4z]
  simp -dsimp -implicitDefEqProofs[t2,f,r,e,b6,<-q3,e3,b5];refine A0f func281 (b u.words s m _) ?_;simp -dsimp -implicitDefEqProofs[e3,b7,q4]
end
section
variable (gl:Nat->AV)
def B9Q:∀(N:Nat) (u:A0a) (d:Nat) (M:Mem),A0o u<=N->Fit u->A2l u=true->d+A1w u<=8->
 A0d (WC gl) 188 [.agg u.row,I d] M (λv M'=>v=.list 1 (A1b (A4g d u)) .no/\M'=M)
 |0,u,d,M,hN,hf,hr,hdep=>by have:=A4P u;omega
 |N+1,u,d,M,hN,hf,hr,hdep=>by
  obtain⟨ks,b⟩:∃ks,u.kids=ks:=⟨_,rfl⟩;have ha:=A6n hr;have c:=λM=>D2U gl u d M hf ha (by omega);have o:=A6q u;rw[b]at o;have hc:=hf.2.2;refine A0d.dataX ?_;refine A0j (hQ [10,27]) func188 ?_;rw[u.row_eq]at c|-;simp -dsimp -implicitDefEqProofs;refine A0f func231 (c M) ?_;simp -dsimp -implicitDefEqProofs[A1C,A0Z,AV.storable,AV.cells];have l:Arr 9 1 A5F M.length (M++[.vec 9 1 [S (A3B u d)] 0 [(0,1)]]) (.vref M.length 0 1 0 1) [A3B u d]:=⟨.inr ⟨M.length,0,[(0,1)],by simp,by simp[A5F],by simp[List.lookup]⟩,λf hf=>by simp at hf;omega⟩;refine A0v (hQ [10,27]) ks.length 6 (λT M5=>∃i:Nat,i<=ks.length/\T 1=I d/\T 2=.cptr [I u.id.act,I u.id.item,I u.id.n,I u.kind,S u.label,.list 4 (A0g u.head) .no,.list 4 (A0g u.words) .no,.list 8 (A0r u.kids) .no]/\T 6=I i/\Grow M M5/\Arr 9 1 A5F M.length M5 (T 5) (A3B u d::A5c (d+1) (ks.take i))) ?_ ?_
  .refine⟨0,by omega,by simp,by simp,by simp,A0c.app none M _,?_⟩;simp -dsimp -implicitDefEqProofs[A5c];exact l
  clear l;rintro T M5 ⟨i,i1,t1,t2,t6,h,hv⟩;generalize j:T 5=ov at*;by_cases hi:i<ks.length;case neg=>
   (have g:¬(i:Int)<ks.length:=by omega);rw[Z0k (by omega)]at hv
   (have hL:A4g d u=A3B u d::A5c (d+1) ks:=by rw[<-b];cases u;rw[A4g];rfl);simp -dsimp -implicitDefEqProofs[t2,t6,j,b,g]
   rw[<-hL]at hv;exact⟨h,B6k hv.own hv.lat .nil⟩
  have g:(i:Int)<ks.length:=by omega
  have w1:=A1y (i:=i) (by have:=A1O ks;omega);have w2:=A1y (i:=d) (by omega);have m:ks[i]∈ks:=Z0u hi;have a:ks[i]∈u.kids:=by rw[b];exact m
  have p:=C2e _ a;have q:=B6D hi;have k:=B9Q N ks[i] (d+1) M5 (by omega) (D0B hf _ a) (B2g hr _ a) (by omega);simp -dsimp -implicitDefEqProofs[t1,t2,t6,j,b,hi,g,w2];refine A0f func188 k ?_;simp -dsimp -implicitDefEqProofs[];refine A3V (C:=WC gl) (enc:=A5F) (e:=9) (sz:=1) (news:=A4g (d+1) ks[i]) A7n A9D B5x (λ_=>rfl) hv.own (by simp[A0z,A1b,List.flatMap]) (by simp[A7T,A7Q];omega) rfl ?_;intro v' M7 q1 q2 q3 _;simp -dsimp -implicitDefEqProofs[t1,t2,t6,w1];refine⟨⟨i+1,by clear w1;omega,rfl,hv.grow h q2,?_⟩,by clear w1;omega⟩;rw[B6W hi];exact⟨q1,hv.later h.1 q3⟩
def C7B(u:A0a)(M:Mem)(hf:Fit u)(a:A5k u=true):A0d (WC gl) 131 [.agg u.row] M (λv M'=>v=.list 1 (A1b (A4g 0 u)) .no/\M'=M):=by
 have hs:=λM=>B6x gl u M hf
 rw[a]at hs
 simp only[A5k,Z0g,Z0m]at a
 have hl:=λM=>B9Q gl _ u 0 M (Z0o _) hf a.1.1 (by omega)
 rw[u.row_eq]at hs hl|-
 refine A0j hB func131 ?_
 simp -dsimp -implicitDefEqProofs
 refine A0f func130 (hs M) ?_
 simp -dsimp -implicitDefEqProofs
 refine A0f func188 (hl M) ?_
 simp -dsimp -implicitDefEqProofs
def A9d(l:List ByteArray):ByteArray:=l.foldl (λs t=>s++t++⟨#[10]⟩) ⟨#[]⟩
def D2m(l:List ByteArray):∀s:ByteArray,(l.foldl (λs t=>s++t++⟨#[10]⟩) s).size=s.size+A4T l:=by
 induction l with
 |nil=>intro s;simp
 |cons a l ih=>intro s;have e:(⟨#[10]⟩:ByteArray).size=1:=rfl;rw[Z2S,ih,A7A];simp only[Z0x,e];omega
def D1H(u:A0a)(M:Mem)(hf:Fit u):A0d (WC gl) 76 [.agg u.row] M (λv M'=>(∃t,v=.tuple [S t,I (A7C u)])/\M'=M):=by
 have hs:=λM=>B6x gl u M hf
 refine A0j hB func76 ?_
 cases hfm:A5k u
 .rw[hfm]at hs;have hE:A7C u=1:=by simp[A7C,hfm]
  rw[u.row_eq]at hs|-;simp -dsimp -implicitDefEqProofs;refine A0f func130 (hs M) ?_;simp -dsimp -implicitDefEqProofs[hE]
 rw[hfm]at hs
 have hL:=λM=>C7B gl u M hf hfm
 have c:=hfm
 simp only[A5k,Z0g,Z0m]at c
 obtain⟨L,e⟩:∃L,L=A4g 0 u:=⟨_,rfl⟩
 have g:=B1t u 0 c.1.1 hf.2.1 (by omega)
 have d:=A7Q 0 u
 have hE:A7C u=if 16384<A4T (A4g 0 u)then 6 else 0:=by simp[A7C,hfm]
 rw[<-e]at hL g d hE
 have h:=hf.2.2
 have f:(⟨#[10]⟩:ByteArray).size=1:=rfl
 rw[u.row_eq]at hs hL|-
 simp -dsimp -implicitDefEqProofs
 refine A0f func130 (hs M) ?_
 simp -dsimp -implicitDefEqProofs
 refine A0f func131 (hL M) ?_
 simp -dsimp -implicitDefEqProofs
 refine A0v hB L.length 6 (λT M5=>∃i:Nat,i<=L.length/\M5=M/\T 4=.list 1 (A1b L) .no/\T 5=S (A9d (L.take i))/\T 6=I i) ?_ ?_
 .exact⟨0,by omega,rfl,by simp,by simp[A9d],by simp⟩
 rintro T M5 ⟨i,i1,rfl,t4,t5,t6⟩
 have a:(A9d (L.take i)).size+A4T (L.drop i)=A4T L:=by have h1:=D2m (L.take i) ⟨#[]⟩;have h2:=B8A (L.take i) (L.drop i);rw[Z0U]at h2;have e0:(⟨#[]⟩:ByteArray).size=0:=rfl;rw[e0]at h1;unfold A9d;omega
 by_cases hi:i<L.length
 case neg=>
  have b:¬(i:Int)<L.length:=by omega
  rw[Z0k (by omega)]at t5 a;rw[Z0n (by omega)]at a;simp only[C8r]at a;by_cases hbig:16384<A4T L
  ·(have h2:(16384:Int)<(A9d L).size:=by omega);have h3:((A9d L).size:Int)>16384:=h2
   rw[Z0d hbig]at hE;simp -dsimp -implicitDefEqProofs[t4,t5,t6,b,h2,hE]
  ·(have h2:¬(16384:Int)<(A9d L).size:=by omega);have h3:¬((A9d L).size:Int)>16384:=h2
   rw[Z0e hbig]at hE;simp -dsimp -implicitDefEqProofs[t4,t5,t6,b,h2,hE]
 have b:(i:Int)<L.length:=by omega
 have w1:=A1y (i:=i) (by omega)
 rw[Z0j hi,A7A]at a
 have b1:¬(9223372036854775807:Int)<(A9d (L.take i)).size+L[i].size:=by omega
 have b2:¬(9223372036854775807:Int)<(A9d (L.take i)).size+L[i].size+1:=by omega
 have hp:A9d (L.take (i+1))=A9d (L.take i)++L[i]++⟨#[10]⟩:=by rw[Z0E hi,A9d,Z2X];rfl
 generalize A9d (L.take i)=p at*
 simp -dsimp -implicitDefEqProofs[t4,t5,t6,hi,b,f,b1,b2,w1]
 exact⟨⟨i+1,by clear w1;omega,by rw[hp],rfl⟩,by clear w1;omega⟩
end
open Go.Proofs TryTypes
section
def B1G{E:Nat->Int}:∀(r i:Nat),B0j E r i=0->∀j,i<=j->j<i+r->E j=0
 |0,i,_,j,h1,h2=>by omega
 |r+1,i,h,j,h1,h2=>by
  rw[B0j]at h;by_cases c:E i=0
  .rw[Z0d c]at h;rcases Z3C i j with h3|h3
   .exact B1G r (i+1) h j h3 (by omega)
   .rw[show j=i by omega];exact c
  .rw[Z0e c]at h;exact absurd h c
mutual
def D0F(P:A0a->Prop)(hk:∀u,P u->∀k∈u.kids,P k):∀u:A0a,P u->∀v∈A5G u,P v
 |.mk a b c d e ks,h,v,hv=>by
  rw[A5G]at hv;rcases Z0A.1 hv with rfl|hv
  .exact h
  .exact C5Q P hk ks (λk hm=>hk _ h k hm) v hv
def C5Q(P:A0a->Prop)(hk:∀u,P u->∀k∈u.kids,P k):∀ks:List A0a,(∀k∈ks,P k)->∀v∈A6B ks,P v
 |[],_,v,hv=>by rw[A6B]at hv;simp at hv
 |k::ks,h,v,hv=>by
  rw[A6B]at hv;rcases Z0Y.1 hv with hv|hv
  .exact D0F P hk k (h k (by simp)) v hv
  .exact C5Q P hk ks (λq hq=>h q (by simp[hq])) v hv
end
def B0Q{u v}{x}(h:A1k x u=some v):v.id=x/\v∈A5G u:=by rw[A9O]at h;refine⟨?_,Z3h h⟩;have:=List.find?_some h;simpa using this
structure A7z (u:A0a) (l:List A0S):Prop where
 ord:∀j,j<l.length->B2A l j
 fd:∀n (h:n<l.length),∃x,A1k l[n].id u=some x/\x.good/\x.words.length<=300/\x.head.length<=300
 lab:∀n (h:n<l.length),l[n].label.size<=7
 nd:(l.map A0S.id).Nodup
 nu:(A0V u).Nodup
 mem:∀x∈l,x.id∈(A0V u).tail
 len:l.length=(A0V u).tail.length
def C5h{u}{l}(hf:Fit u)(h:A8c (λx=>A1k x u) u l=0):A7z u l:=by
 unfold A8c at h;split at h
 .simp at h
 rename_i hb;simp only[Z1Q,Z3U]at hb;split at h;case isFalse m=>exact absurd h m
 rename_i hfe;split at h;case isFalse=>simp at h
 rename_i hlen;have he:=λn (hn:n<l.length)=>B1G _ _ hfe n (Z3f _) (by omega);simp only[B2J,C4k,Z0g,Z0m]at hb;obtain⟨⟨s,⟨⟨hr,t⟩,hc⟩,r⟩,g⟩:=hb;have q:(A0V u).Nodup:=by have:=A9f (A0V u) [] List.nodup_nil g;simpa using this
 have key:∀n (h:n<l.length),(∃x,A1k l[n].id u=some x)/\l[n].id≠u.id/\(∀j (hj:j<n),(l[j]'(by omega)).id≠l[n].id)/\A0N l[n].label=true:=by
  intro n hn;have h:=he n hn;simp only[B5v,Z0l hn]at h;split at h
  .simp at h
  rename_i h1;split at h
  .simp at h
  rename_i h2;split at h
  .simp at h
  split at h
  .simp at h
  rename_i h4;simp only[Z1H,Z1Q,Z0m,Z2N,Z3U]at h1;refine⟨Z4c.1 h1.1,h1.2,λj hj e=>?_,by simpa using h4⟩;refine h2 (Z2u.2 ⟨l[j]'(by omega),?_,by simpa using e⟩);exact List.mem_take_iff_getElem.2 ⟨j,by omega,rfl⟩
 have o:=A5o u;refine⟨C7H he,λn hn=>?_,λn hn=>B6V (key n hn).2.2.2,?_,q,λy hy=>?_,?_⟩
 .obtain⟨x,hx⟩:=(key n hn).1;obtain⟨h1,h2⟩:=B0Q hx;have h3:=D0F (λv=>v.good/\A2l v=true) (λv hv k hm=>⟨((A0a.good_iff _).1 hv.1).2.2.2.2.2.2.2.2 k hm,B2g hv.2 k hm⟩) u ⟨hf.1,hr⟩ x h2;obtain⟨_,hh,hw⟩:=A7x (A6n h3.2);exact⟨x,hx,h3.1,by have:=(A5V hw).1;omega,by have:=(A5V hh).1;omega⟩
 .rw[List.Nodup,Z3i];intro i j hi hj p;simp only[Z2i];exact(key j (by simpa using hj)).2.2.1 i p
 .obtain⟨n,hn,rfl⟩:=Z3g hy;obtain⟨⟨x,hx⟩,m,_⟩:=key n hn;obtain⟨h1,h2⟩:=B0Q hx;have h3:l[n].id∈A0V u:=by rw[<-A7u,<-h1];exact Z0J.2 ⟨x,h2,rfl⟩
  obtain⟨a,b,c,d,e,f⟩:=u;rw[A0V]at h3|-;rcases Z0A.1 h3 with h3|h3
  .exact absurd h3 m
  .exact h3
 .rw[List.length_tail,o];omega
section
variable {F:IdD->Option A0a} {l:List A0S} {s:List A1R}
def C7y{x}(hl:l.length<=1000)(f:∀s∈l,s.good)(ht:∀m∈s,m.to.length<=40)(hx:x.good)(b:x.words.length<=300):(A8y F l s x).1.length<=100000000/\∀t∈(A8y F l s x).1,t.size<=maxLen:=by
 have c:(A0Y x.words).length<=300:=by simpa[A0Y]using b
 have a:∀t∈A0Y x.words,t.size<=maxLen:=by intro t h;obtain⟨w,hw,rfl⟩:=Z0J.1 h;exact(((A0a.good_iff _).1 hx).2.2.2.2.2.2.1 w hw).1
 unfold A8y;simp only;generalize A0Y x.words=xs at*;have e:(A3o xs 0).length<=xs.length:=A9Z xs _ _;have d:=B1o (A3o xs 0) (λn:Nat=>A2U F l s x.id n) (λi=>B1Y ht) (A3o xs 0).length;obtain⟨s1,s2⟩:=A8x (old:=A8L (A3o xs 0) (λn:Nat=>A2U F l s x.id n) (A3o xs 0).length) (names:=B1d (λn:Nat=>A2U F l s x.id n) (A3o xs 0).length) (B:=maxLen) (by simp[maxLen]) a;have:(A8L (A3o xs 0) (λn:Nat=>A2U F l s x.id n) (A3o xs 0).length).length*(xs.length+19)<=12000*400:=Z4o (by omega) (by omega);exact⟨by omega,s1⟩
def C0x{t}(h:t.size<=maxLen):(A5l t).good:=by refine⟨h,?_⟩;simp[A5l,inI]
def B5H(a:∀j,j<l.length->B2A l j){n k:Nat}(hk:k∈A4m l n l.length):n<k/\k<l.length:=by
 simp only[A4m,Z1A,Z1i,Z0m]at hk;have:=(a k hk.1 k hk.1 (Z0o _)).2;have h2:A3w l k=l[k].parent:=by simp[A3w,hk.1]
 rw[<-h2,hk.2]at this;omega
def B8n{g:Nat->A0a×List IdD×Int}:∀K:List Nat,(∀k∈K,A0o (g k).1=(g k).2.1.length)->A0u ((K.map g).map (·.1))=((K.map g).flatMap (·.2.1)).length
 |[],_=>by rw[Z2g,Z2g,A0u];rfl
 |k::K,h=>by have h1:=B8n K λq hq=>h q (by simp[hq]);have h2:=h k (by simp);simp only[Z0B,A0u,Z1f,Z0v,h1,h2]
def B1E(a:∀j,j<l.length->B2A l j):∀f n,n<l.length->l.length<=f+n->A0o (A2N F l s f n).1=(A2N F l s f n).2.1.length
 |0,n,h1,h2=>by omega
 |f+1,n,h1,h2=>by
  have:=B8n (g:=A2N F l s f) (A4m l n l.length) λk hk=>by obtain⟨h3,h4⟩:=B5H a hk;exact B1E a f k h4 (by omega)
  rw[A2N];simp only;rw[A0o,this,Z0C];omega
def B8k(hl:l.length<=1000)(e:∀s∈l,s.good)(ht:∀m∈s,m.to.length<=40)(a:∀j,j<l.length->B2A l j)(c:∀n (h:n<l.length),l[n].label.size<=7)
 (g:∀n (h:n<l.length),∃x,F l[n].id=some x/\x.good/\x.words.length<=300/\x.head.length<=300):∀f n,n<l.length->l.length<=f+n->(A2N F l s f n).1.good/\(A2N F l s f n).1.lims
 |0,n,h1,h2=>by omega
 |f+1,n,h1,h2=>by
  obtain⟨x,hx,d,i,q⟩:=g n h1;have o:A6U F l n=x:=by simp[A6U,h1,hx]
  have p:B1T l n=l[n].label:=by simp[B1T,h1]
  have r:=c n h1;have hb:=B1e l n l.length;obtain⟨w1,w2⟩:=C7y (F:=F) (l:=l) (s:=s) hl e ht d i;obtain⟨_,gk,_,_,gh,_,_,_,_⟩:=(A0a.good_iff _).1 d;have b:∀k∈((A4m l n l.length).map (A2N F l s f)).map (·.1),k.good/\k.lims:=by intro k hk;rw[Z1O]at hk;obtain⟨y,hy,rfl⟩:=Z0J.1 hk;obtain⟨h3,h4⟩:=B5H a hy;exact B8k hl e ht a c g f y h4 (by omega)
  rw[A2N];simp only;rw[o,p];have hm:∀n:Nat,n<=100000000->n<=maxLen:=λn h=>by show n<=9223372036854775807;omega
  refine⟨(A0a.good_iff _).2 ⟨by simp[A0a.id,IdD.good,idZ,inI],gk,hm _ (by show l[n].label.size<=_;omega),hm _ (by show(x.head.map _).length<=_;rw[Z0V];omega),?_,hm _ (by simpa[A0a.words]using w1),?_,hm _ (by simp[A0a.kids];omega),λk hk=>(b k hk).1⟩,?_⟩
  .intro w hw;obtain⟨h,hh,rfl⟩:=Z0J.1 hw;exact C0x (gh h hh).1
  .intro w hw;obtain⟨t,ht,rfl⟩:=Z0J.1 hw;exact C0x (w2 t ht)
  .rw[A0a.lims];refine⟨⟨by show(x.head.map _).length<=_;rw[Z0V];omega,by simpa[A0a.words]using w1,by simp[A0a.kids];omega,by show l[n].label.size<=_;omega⟩,A2Z.2 λk hk=>(b k hk).2⟩
def B4Z{u}(hS:A7z u l)(hl:l.length<=1000)(a:∀s∈l,s.good)(ht:∀m∈s,m.to.length<=40){f n}(h1:n<l.length)(h2:l.length<=f+n):Fit (A2N (λy=>A1k y u) l s f n).1:=by obtain⟨g1,g2⟩:=B8k (F:=λy=>A1k y u) (s:=s) hl a ht hS.ord hS.lab hS.fd f n h1 h2;refine⟨g1,g2,?_⟩;rw[B1E hS.ord f n h1 h2];have:=B5s (F:=λy=>A1k y u) (s:=s) hS.ord f n h1 h2;omega
end
end
inductive A0W where
 |rep (p:List A0I)
 |ins (u:A0a)
abbrev eS:AV:=S ⟨#[]⟩
def A0W.row:A0W->List AV
 |.rep p=>[I 1,A6X p,A0i,I 0,I 0,I 0,I 0,I 0,I 0,eS,A0i,A0i,A0i,A0i,A0i,eS,eS,I 0,I 0,eS,I 0,I 0,I 0,eS,A0i]
 |.ins u=>[I 0,A0i,A0i,I 1,I 0,I u.id.act,I u.id.item,I u.id.n,I u.kind,S u.label,.list 4 (A0g u.head) .no,.list 4 (A0g u.words) .no,.list 8 (A0r u.kids) .no,A0i,A0i,eS,eS,I 0,I 0,eS,I 0,I 0,I 0,eS,A0i]
@[simp] def A0W.row_len(x:A0W):x.row.length=25:=by cases x<;>rfl
def A3t:ByteArray:=⟨#[99,111,100,105,102,105,99,97,116,105,111,110]⟩
def A5Z:AV:=.agg [I 0,eS,I 0,I 0,I 0,eS,A0i]
def C0S(number day:Int)(items:List A0W):AV:=.agg [I number,S A3t,I day,I 1,I day,eS,.list 25 (items.map A0W.row) .no]
def A4W(x:IdD×IdD):List AV:=[I x.1.act,I x.1.item,I x.1.n,I x.2.act,I x.2.item,I x.2.n]
abbrev A5R:=A0a×List IdD×Int
def C7K(t:A5R):Int:=if A7C t.1=0 then t.2.2 else 6
def A7J(ts:List A5R)(e:Int):Int:=ts.foldl (λe t=>A9z e (C7K t)) e
def A1U(u:A0a):List A0W:=u.kids.map λk=>.rep ((B3X u k.id).getD [])
def A2u(ts:List A5R):List A0W:=ts.map λt=>.ins t.1
def A8q(number:Int)(u:A0a)(ts:List A5R):List (IdD×IdD):=A5N number (ts.map (·.2.1)) u.kids.length
def A7i(number:Int)(u:A0a)(ts:List A5R):List (IdD×IdD):=(A0V u).tail.flatMap λx=>(A8q number u ts).filter λy=>decide (y.1=x)
def B6Z(number day:Int):Bool:=decide (number<1)||decide (1048576<number)||decide (day<0)||decide (1048576<day)
def C5S(u:A0a)(ts:List A5R):Int:=if 32<u.kids.length+ts.length then 6 else A7J ts 0
def A5A(e:Int):AV:=.tuple [A5Z,A0i,I e]
def D8i(u:A0a)(l:List A0S)(s:List A1R)(number day:Int):AV:=
 let F:=λx=>A1k x u
 let ts:=A2n F l s
 if A8c F u l≠0 then A5A (A8c F u l)
 else if B6Z number day=true then A5A 1
 else if((A0V u).tail.any λx=>decide (x.act=number))=true then A5A 5
 else if C5S u ts≠0 then A5A (C5S u ts)
 else .tuple [C0S number day (A1U u++A2u ts),.list 6 ((A7i number u ts).map A4W) .no,I 0]
def C0Y(c:Int):∀(a b:List (List IdD)) (j:Nat),A5N c (a++b) j=A5N c a j++A5N c b (j+a.length)
 |[],b,j=>by simp[A5N]
 |x::a,b,j=>by rw[Z1g,A5N,A5N,C0Y c a b (j+1),Z0X,Z0C];congr 3;omega
def B8u{K V:Type}[DecidableEq K]:∀(W:List (K×V)),(W.map (·.1)).Nodup->∀y∈W,A1L W y.1=some y.2
 |[],_,y,hy=>by simp at hy
 |(k,v)::W,hn,y,hy=>by
  simp only[Z0B,Z1U]at hn;rw[A1L];rcases Z0A.1 hy with rfl|hy
  .simp
  .have:y.1≠k:=λe=>hn.1 (e▸Z0J.2 ⟨y,hy,rfl⟩);rw[Z0e this];exact B8u W hn.2 y hy
section
variable {u:A0a} {l:List A0S} {s:List A1R}
def B3y(a:Int)(ts:List A5R):(A8q a u ts).map (·.1)=ts.flatMap (·.2.1):=by rw[A8q,B3a,Z3w];rfl
def B2n(hS:A7z u l):((A2n (λy=>A1k y u) l s).flatMap (·.2.1)).Nodup/\∀x,x∈(A2n (λy=>A1k y u) l s).flatMap (·.2.1)<->x∈(A0V u).tail:=by
 refine D1J (λj hj=>?_) (λk hk=>?_) hS.nd hS.nu hS.mem hS.len
 .have:=hS.ord j hj j hj (Z0o _);simpa[A3w,hj]using this
 .obtain⟨x,hx,_⟩:=hS.fd k hk;have:A6U (λy=>A1k y u) l k=x:=by simp[A6U,hk,hx]
  rw[this];exact(B0Q hx).1
def C0g(hS:A7z u l)(a:Int):A7i a u (A2n (λy=>A1k y u) l s)=(A0V u).tail.map λx=>(x,(A1L (A8q a u (A2n (λy=>A1k y u) l s)) x).getD idZ):=by
 obtain⟨h1,h2⟩:=B2n (s:=s) hS;have hk:=B3y (u:=u) a (A2n (λy=>A1k y u) l s);refine D2Q (by rw[hk];exact h1) (λy hy=>?_) (λx hx=>?_)
 .rw[B8u _ (by rw[hk];exact h1) y hy];rfl
 .rw[hk];exact(h2 x).2 hx
def C5c(hS:A7z u l)(hl:l.length<=1000):∀t∈A2n (λy=>A1k y u) l s,t.2.1.length<=1000:=by intro t ht;obtain⟨n,hn,rfl⟩:=Z0J.1 ht;have:=B5s (F:=λy=>A1k y u) (s:=s) hS.ord l.length n (A9c hn) (by omega);omega
end
section
variable (gl:Nat->AV) (M:Mem)
def B1k(k:Int):A0d (WC gl) 132 [I k] M (λv M'=>v=B (decide (0<=k)&&decide (k<=6))/\M'=M):=by
 refine A0j hB func132 ?_;by_cases h1:0<=k
 .by_cases h2:k<=6
  .simp -dsimp -implicitDefEqProofs[h1,h2]
  .simp -dsimp -implicitDefEqProofs[h1,h2]
 .simp -dsimp -implicitDefEqProofs[h1]
def C0T(k:Int):A0d (WC gl) 351 [I k] M (λv M'=>v=B (decide (0<=k)&&decide (k<=3))/\M'=M):=by
 refine A0j hB func351 ?_;by_cases h1:0<=k
 .by_cases h2:k<=3
  .simp -dsimp -implicitDefEqProofs[h1,h2]
  .simp -dsimp -implicitDefEqProofs[h1,h2]
 .simp -dsimp -implicitDefEqProofs[h1]
def C4t(k a b:Int):A0d (WC gl) 320 [I k,I a,I b] M (λv M'=>v=B (decide (a<=k)&&decide (k<=b))/\M'=M):=by
 refine A0j hB func320 ?_;by_cases h1:a<=k
 .by_cases h2:k<=b
  .simp -dsimp -implicitDefEqProofs[h1,h2]
  .simp -dsimp -implicitDefEqProofs[h1,h2]
 .simp -dsimp -implicitDefEqProofs[h1]
def C6W(k:Int):A0d (WC gl) 302 [I k] M (λv M'=>v=B (decide (0<=k)&&decide (k<=3))/\M'=M):=by refine A0j hB func302 ?_;simp -dsimp -implicitDefEqProofs;refine A0f func320 (C4t gl M k 0 3) ?_;simp -dsimp -implicitDefEqProofs
def D3T(k:Int):A0d (WC gl) 403 [I k] M (λv M'=>v=I k/\M'=M):=by refine A0j hB func403 ?_;simp -dsimp -implicitDefEqProofs
def B3K:A0d (WC gl) 242 [.agg [I 0,I 0,eS]] M (λv M'=>v=B true/\M'=M):=by refine A0j hB func242 ?_;simp -dsimp -implicitDefEqProofs
def D2f(x:A0W):A0d (WC gl) 305 [.agg x.row] M (λv M'=>v=B true/\M'=M):=by refine A0j hB func305 ?_;simp -dsimp -implicitDefEqProofs
end
def A6D:List AV:=[I 0,A0i,A0i,I 0,I 0,I 0,I 0,I 0,I 0,eS,A0i,A0i,A0i,A0i,A0i,eS,eS,I 0,I 0,eS,I 0,I 0,I 0,eS,A0i]
@[simp] def D9D:A6D.length=25:=rfl
def D1s(u:A0a):List AV:=[I 0,A0i,A0i,I 1,I 0,I u.id.act,I u.id.item,I u.id.n,I u.kind,S u.label,.list 4 (A0g u.head) .no,.list 4 (A0g u.words) .no,.list 8 (A0r u.kids) .no,A0i,A0i,eS,eS,I 0,I 0,eS,I 0,I 0,I 0,eS,A0i]
@[simp] def E2X(u:A0a):(D1s u).length=25:=rfl
def C8x:A0D prog 128 []=some (.agg A6D):=by simp[A0D,A1l,A6D]
section
variable (gl:Nat->AV) (M:Mem)
def D2I(x:A0W):A0d (WC gl) 304 [.agg x.row] M (λv M'=>v=.agg A6D/\M'=M):=by
 refine A0d.dataX ?_;obtain⟨Ma,a⟩:∃Ma,Ma=M++[A0l.cells 128 A6D]:=⟨_,rfl⟩;have d:Grow M Ma:=by rw[a];exact A0c.app none _ _
 have b:Ma[M.length]?=some (A0l.cells 128 A6D):=by rw[a];simp
 have c:M.length<Ma.length:=(Z0b.1 b).1;refine A0j hB func304 ?_;simp -dsimp -implicitDefEqProofs[A0m,C8x];rw[show M++[A0l.cells 128 [I 0,A0i,A0i,I 0,I 0,I 0,I 0,I 0,I 0,eS,A0i,A0i,A0i,A0i,A0i,eS,eS,I 0,I 0,eS,I 0,I 0,I 0,eS,A0i]]=Ma by rw[a];rfl];simp -dsimp -implicitDefEqProofs[A0h b,A0y c,A0k];exact⟨A1e d (Z0o _),.same (by simp[bdd,A1Q,A6D]) .nil⟩
def D1C(u:A0a):A0d (WC gl) 300 [.agg (A0W.ins u).row] M (λv M'=>v=.agg (D1s u)/\M'=M):=by
 refine A0d.dataX ?_;obtain⟨Ma,a⟩:∃Ma,Ma=M++[A0l.cells 128 A6D]:=⟨_,rfl⟩;have e:Grow M Ma:=by rw[a];exact A0c.app none _ _
 have b:Ma[M.length]?=some (A0l.cells 128 A6D):=by rw[a];simp
 have c:M.length<Ma.length:=(Z0b.1 b).1;have d:A0D prog 128 [(3,I 1),(5,.agg [I u.id.act,I u.id.item,I u.id.n,I u.kind,S u.label,.list 4 (A0g u.head) .no,.list 4 (A0g u.words) .no,.list 8 (A0r u.kids) .no])]=some (.agg (D1s u)):=by simp[A0D,A1l,A1H,AV.cells,AV.storable,D1s]
 refine A0j hB func300 ?_;simp -dsimp -implicitDefEqProofs[A0W.row,A0m,d];rw[show M++[A0l.cells 128 [I 0,A0i,A0i,I 0,I 0,I 0,I 0,I 0,I 0,eS,A0i,A0i,A0i,A0i,A0i,eS,eS,I 0,I 0,eS,I 0,I 0,I 0,eS,A0i]]=Ma by rw[a];rfl];simp -dsimp -implicitDefEqProofs[A0h b,A0y c,A0k];have hb:=A2J M.length u;rw[u.row_eq]at hb;exact⟨A1e e (Z0o _),.same (by simp[bdd,A1Q,D1s]at hb|-;exact hb) .nil⟩
end
def D7c:A1s prog .neq 150 (.agg [I 0,I 0,I 0]) (.agg [I 0,I 0,I 0])=some (B false):=by kernel_rfl
def E4q:A1s prog .eql 23 (.agg [I 0,I 0,I 0]) (.agg [I 0,I 0,I 0])=some (B true):=by kernel_rfl
section
variable (gl:Nat->AV) (M:Mem)
def C2T(w:A0H)(h:B0b w):A0d (WC gl) 390 [.agg w.row] M (λv M'=>v=B false/\M'=M):=by rw[C1P h];refine A0j hB func390 ?_;simp -dsimp -implicitDefEqProofs[C5R,D7c]
def D2q(l:List A0H)(o:Own)(hl:l.length<=100000000)(hb:∀w∈l,B0b w):A0d (WC gl) 408 [.list 4 (A0g l) o,.func (.func 390) [] []] M (λv M'=>v=I (-1)/\M'=M):=by
 refine A0j hB func408 ?_;simp -dsimp -implicitDefEqProofs;refine A0v hB l.length 8 (λT M1=>∃i:Nat,i<=l.length/\M1=M/\T 0=.list 4 (A0g l) o/\T 1=.func (.func 390) [] []/\T 7=I l.length/\T 8=I i) ?_ ?_
 .exact⟨0,by omega,rfl,by simp,by simp,by simp,by simp⟩
 .rintro T M1 ⟨i,i1,rfl,t0,t1,t7,t8⟩;by_cases hi:i<l.length
  ·(have a:(i:Int)<l.length:=by omega);have w1:IntKind.i64.wrap ((i:Int)+1)=(i+1:Nat):=by rw[A0T (by omega) (by omega)];omega
   simp -dsimp -implicitDefEqProofs[t0,t1,t7,t8,hi,a,A0H.row];refine A0f func390 (C2T gl _ l[i] (hb _ (Z0u hi))) ?_;simp -dsimp -implicitDefEqProofs[t0,t1,t7,t8,w1];exact⟨⟨i+1,by clear w1;omega,rfl⟩,by clear w1;omega⟩
  ·(have a:¬(i:Int)<l.length:=by omega);simp -dsimp -implicitDefEqProofs[t7,t8,a]
def C1W(l:List A0H)(o:Own)(hl:l.length<=100000000)(hb:∀w∈l,B0b w):A0d (WC gl) 391 [.list 4 (A0g l) o,.func (.func 390) [] []] M (λv M'=>v=B false/\M'=M):=by refine A0j hB func391 ?_;simp -dsimp -implicitDefEqProofs;refine A0f func408 (D2q gl M l o hl hb) ?_;simp -dsimp -implicitDefEqProofs
def D0e(u:A0a)(h:A2P u)(hl:u.lims):A0d (WC gl) 389 [.agg u.row] M (λv M'=>v=B true/\M'=M):=by obtain⟨h0,h1,h2,_⟩:=(A6v u).1 h;obtain⟨⟨l1,l2,-,-⟩,-⟩:=A3f _ hl;rw[u.row_eq,h0];refine A0j hB func389 ?_;simp -dsimp -implicitDefEqProofs[idZ,E4q];refine A0f func391 (C1W gl M u.head .no l1 h1) ?_;simp -dsimp -implicitDefEqProofs;refine A0f func391 (C1W gl M u.words .no l2 h2) ?_;simp -dsimp -implicitDefEqProofs
end
end Go.Abs
