/- A part of the proof. -/
import Derived.Test.YtmpdkagfplajjaaGreatDoorEG37
set_option linter.all false
set_option maxRecDepth 100000
namespace Go.Abs
open Go.Proofs TryTypes Tryz
section
variable (gl:Nat->AV)
def B9r(ws:List A0M)(o:Own)(M:Mem)(hl:ws.length<=100000000):A0e (WC gl) 33 [.list 4 (A0i ws) o] M (λv M'=>v=.list 1 (A1c (A0H ws)) .no/\M'=M):=A0e.still (enc:=A6I) (λ_=>rfl) (λn x=>by simp[A1K,bdd]) (D1U gl M ws o hl)
def D0o(a:List ByteArray)(M:Mem)(h:a.length<=1000000):A0e (WC gl) 17 [.list 1 (A1c a) .no,.list 1 (A1c a) .no] M (λv M'=>v=B true/\M'=M):=by have:=D6J gl M (.list 1 (A1c a) .no) (.list 1 (A1c a) .no) a a (.inl ⟨_,rfl⟩) (.inl ⟨_,rfl⟩) h;rwa[Z0w rfl]at this
set_option maxHeartbeats 1000000 in
def D7o(bi:gl 0=A2u)(bm:gl 1=A2J)(bl:gl 3=.cptr [fnV 444,fnV 445])(u:A0a)(l:List A0Q)(s:List A1P)(b:Int)(hg:u.good)(hl:l.length<=maxLen)(b8:∀s∈l,s.good)(hs:s.length<=maxLen)(bf:A3V (WC gl) 10 [] [] (λr _=>r=.val (.bool true))):
 A0e (WC gl) 7 [.agg u.row,.list 5 (A2h l) .no,.list 5 (A3C s) .no,I b] [] (λv _=>v=B true):=by
 have ad:=λM=>D0x gl u l s M hg hl hs
 have b3:=D6l u hg
 have hr:=u.row_eq
 have a:=λM hf h1 h2 h3=>D2k gl bi bm bl u l s b M hf h1 b8 h2 h3
 rw[hr]at ad a|-
 refine A0m hB func7 ?_
 simp -dsimp -implicitDefEqProofs
 refine A4o bf ?_
 rintro _ M ⟨rfl⟩
 simp -dsimp -implicitDefEqProofs
 refine A0g func11 (ad M) ?_
 cases c1:C2F u l s with
 |false=>simp -dsimp -implicitDefEqProofs
 |true=>
 have b9:=c1
 simp only[C2F,Z0g,Z0m,Z0p]at b9
 obtain⟨⟨⟨⟨c2,c3⟩,c4⟩,c5⟩,c6⟩:=b9
 obtain⟨hf,bz⟩:=b3 c2
 have h3:∀m∈s,m.to.length<=40:=λm hm=>by simpa using c6 m hm
 have a:=λM=>a M hf (by omega) (by omega) h3
 unfold D5e at a
 simp -dsimp -implicitDefEqProofs
 by_cases he:C0i u l s b 0=0
 case neg=>rw[Z0e he]at a;refine A0g func24 (a M) ?_;simp -dsimp -implicitDefEqProofs[A0k,A0l,A0d,A0L,A0K,he]
 rw[Z0d he]at a
 have hA:=C1t hf he
 have w:=D7c hf (by omega) b8 h3 hA
 have b4:A0o (A2N u b (A2z u l s))=l.length+1:=B4Q hA.sound b
 have ah:=λi (h:i<l.length)=>D0J hA h
 obtain⟨d1,d2,d3⟩:=C8j hA
 obtain⟨V,hV⟩:∃V,V=A2N u b (A2z u l s):=⟨_,rfl⟩
 obtain⟨D,hD⟩:∃D,D=A5a b u (A2z u l s):=⟨_,rfl⟩
 rw[<-hV]at a w b4 ah
 rw[<-hD]at a ah d1 d2 d3
 refine A0g func24 (a M) ?_
 obtain⟨p,hp⟩:∃p,p=M.length:=⟨_,rfl⟩
 obtain⟨M1,ar⟩:∃M1,M1=M++[A0j.cells 27 V.row]:=⟨_,rfl⟩
 have aw:M1[p]?=some (A0j.cells 27 [I V.id.act,I V.id.item,I V.id.n,I V.kind,S V.label,.list 4 (A0i V.head) .no,.list 4 (A0i V.words) .no,.list 8 (A0u V.kids) .no]):=by rw[ar,hp,V.row_eq];simp
 have au:=D4l gl M1 D .no (by omega) d1 d2
 have t:=B1C gl V M1 w.1 w.2.2
 rw[b4]at t
 rw[V.row_eq]at t
 have w0:IntKind.i64.wrap ((l.length:Int)+1)=(l.length:Int)+1:=by rw[A0Z (by omega) (by omega)]
 have bn:(D.length:Int)=l.length:=by omega
 simp -dsimp -implicitDefEqProofs[A0k,A0l,A0d,A0L,A0K]
 rw[<-ar,<-hp]
 refine A0g func29 au ?_
 simp -dsimp -implicitDefEqProofs[bn,A0b aw]
 refine A0g func30 t ?_
 simp -dsimp -implicitDefEqProofs[w0]
 refine A0F hB l.length 12 (λT Mi=>∃i:Nat,i<=l.length/\T 1=.list 5 (A2h l) .no/\T 4=.cptr [I u.id.act,I u.id.item,I u.id.n,I u.kind,S u.label,.list 4 (A0i u.head) .no,.list 4 (A0i u.words) .no,.list 8 (A0u u.kids) .no]/\T 9=.ptr p 0/\T 10=.list 6 (D.map A4E) .no/\T 12=I i/\Mi[p]?=some (A0j.cells 27 [I V.id.act,I V.id.item,I V.id.n,I V.kind,S V.label,.list 4 (A0i V.head) .no,.list 4 (A0i V.words) .no,.list 8 (A0u V.kids) .no])) ?_ ?_
 .exact⟨0,by omega,by simp,by simp,by simp,by simp,by simp,aw⟩
 rintro T Mi ⟨i,i1,t1,t4,t9,e,c,ax⟩
 by_cases hi:i<l.length
 case neg=>
  have j:¬(i:Int)<l.length:=by omega
  simp -dsimp -implicitDefEqProofs[t1,t4,t9,e,c,j]
 have j:(i:Int)<l.length:=by omega
 have w1:=A2s (i:=i) (by omega)
 have bo:=ah i hi
 obtain⟨d,x,y,q,k,f1,f2,f3,f4,f5,f6,f7,f8,f9,ba⟩:=bo.ex
 obtain⟨sl,b0⟩:∃sl,sl=l[i]:=⟨_,rfl⟩
 have f:l[i]=sl:=b0.symm
 rw[f]at f1 f2 f5 ba
 have bw:(A2h l)[i]?=some [I sl.id.act,I sl.id.item,I sl.id.n,I sl.parent,S sl.label]:=by simp[A2h,hi,f,A0Q.row]
 have aa:=λM z=>D0O gl M z D .no (by omega)
 have ap:=λM=>aa M sl.id
 rw[f1]at ap
 have a0:=λM=>B2j gl u sl.id M hf
 rw[f2]at a0
 have a1:=λM=>B2j gl V d M w
 rw[f3]at a1
 have a8:=λM=>C1J gl V d M w
 rw[f9]at a8
 have b7:∀z:IdD,z.row=[I z.act,I z.item,I z.n]:=λ_=>rfl
 simp only[idO,A1Z,b7,Z2D]at ap a0 a1 a8
 rw[x.row_eq]at a0
 rw[y.row_eq]at a1
 rw[V.row_eq]at a1 a8
 rw[hr]at a0
 have be:=λM=>B9r gl x.head .no M f7
 have av:=λM=>B9r gl y.head .no M f8
 rw[<-f6]at av
 have br:(A0H x.head).length=x.head.length:=by simp[A0H]
 have bt:x.head.length<=300:=by obtain⟨x',b1,_,_,bj⟩:=hA.sound.fd i hi;rw[f,f2]at b1;rw[Z1Q b1];exact bj
 have bg:=λM=>D0o gl (A0H x.head) M (by rw[br];omega)
 obtain⟨M2,al⟩:∃M2,M2=Mi++[A0j.cells 23 [I d.act,I d.item,I d.n]]:=⟨_,rfl⟩
 have g2:Grow Mi M2:=by rw[al];exact A0c.app none _ _
 have a2:M2[Mi.length]?=some (A0j.cells 23 [I d.act,I d.item,I d.n]):=by rw[al];simp
 obtain⟨M3,ag⟩:∃M3,M3=M2++[A0j.cells 27 [I x.id.act,I x.id.item,I x.id.n,I x.kind,S x.label,.list 4 (A0i x.head) .no,.list 4 (A0i x.words) .no,.list 8 (A0u x.kids) .no]]:=⟨_,rfl⟩
 have g3:Grow M2 M3:=by rw[ag];exact A0c.app none _ _
 have a3:M3[M2.length]?=some (A0j.cells 27 [I x.id.act,I x.id.item,I x.id.n,I x.kind,S x.label,.list 4 (A0i x.head) .no,.list 4 (A0i x.words) .no,.list 8 (A0u x.kids) .no]):=by rw[ag];simp
 obtain⟨M4,ae⟩:∃M4,M4=M3++[A0j.cells 27 [I y.id.act,I y.id.item,I y.id.n,I y.kind,S y.label,.list 4 (A0i y.head) .no,.list 4 (A0i y.words) .no,.list 8 (A0u y.kids) .no]]:=⟨_,rfl⟩
 have g4:Grow M3 M4:=by rw[ae];exact A0c.app none _ _
 have a4:M4[M3.length]?=some (A0j.cells 27 [I y.id.act,I y.id.item,I y.id.n,I y.kind,S y.label,.list 4 (A0i y.head) .no,.list 4 (A0i y.words) .no,.list 8 (A0u y.kids) .no]):=by rw[ae];simp
 obtain⟨M5,a9⟩:∃M5,M5=M4++[A0j.cells 23 [I q.id.act,I q.id.item,I q.id.n]]:=⟨_,rfl⟩
 have g5:Grow M4 M5:=by rw[a9];exact A0c.app none _ _
 have a5:M5[M4.length]?=some (A0j.cells 23 [I q.id.act,I q.id.item,I q.id.n]):=by rw[a9];simp
 obtain⟨M6,ao⟩:∃M6,M6=M5++[A0j.cells 23 [I 0,I 0,I 0]]:=⟨_,rfl⟩
 have g6:Grow M5 M6:=by rw[ao];exact A0c.app none _ _
 have a6:M6[M5.length]?=some (A0j.cells 23 [I 0,I 0,I 0]):=by rw[ao];simp
 have v3:=(g2.trans g3).get ax (by simp)
 have ay:=g3.get a2 (by simp)
 have x4:=g4.get a3 (by simp)
 have v4:=g4.get v3 (by simp)
 have d4:=g4.get ay (by simp)
 have p6:=g6.get a5 (by simp)
 have v6:=(g5.trans g6).get v4 (by simp)
 have bu:A0D prog 23 []=some (.agg [I 0,I 0,I 0]):=by simp[A0D,A1k]
 have am:=C6Z q.id q.id
 rw[Z0w rfl]at am
 have ab:=c
 simp -dsimp -implicitDefEqProofs[t1,t4,t9,e,c,hi,j,f,A0Q.row]
 refine A0g func31 (ap Mi) ?_
 simp -dsimp -implicitDefEqProofs[A0k,A0l,A0d,A0L,A0K]
 rw[<-al]
 refine A6F .normal (λT M'=>T 1=.list 5 (A2h l) .no/\T 4=.cptr [I u.id.act,I u.id.item,I u.id.n,I u.kind,S u.label,.list 4 (A0i u.head) .no,.list 4 (A0i u.words) .no,.list 8 (A0u u.kids) .no]/\T 9=.ptr p 0/\T 10=.list 6 (D.map A4E) .no/\T 12=I i/\T 13=.ptr Mi.length 0/\T 14=B true/\T 15=.ptr M2.length 0/\T 16=B true/\M'=M3) ?_ ?_
 .refine A1v hB (A0I gl) (λk=>if k=10\/k=11 then 2 else 0) (λ_=>0) (by rfl) (by kernel_rfl) ?_;simp -dsimp -implicitDefEqProofs[t1,t4,t9,e,c,hi,j,f,A0Q.row];refine A2F func32 a0 ?_;simp -dsimp -implicitDefEqProofs[A0k,A0l,A0d,A0L,A0K,t1,t4,t9,e,c];exact ag.symm
 clear t1 t4 t9 e c
 rintro T M' ⟨t1,t4,t9,e,c,g,ak,ai,af,rfl⟩
 simp -dsimp -implicitDefEqProofs[t1,t4,t9,e,c,g,ak,ai,af,A0b v3,A0b ay]
 refine A0g func32 (a1 M') ?_
 simp -dsimp -implicitDefEqProofs[A0k,A0l,A0d,A0L,A0K]
 rw[<-ae]
 refine A6F .normal (λT M3=>T 1=.list 5 (A2h l) .no/\T 4=.cptr [I u.id.act,I u.id.item,I u.id.n,I u.kind,S u.label,.list 4 (A0i u.head) .no,.list 4 (A0i u.words) .no,.list 8 (A0u u.kids) .no]/\T 9=.ptr p 0/\T 10=.list 6 (D.map A4E) .no/\T 12=I i/\T 13=.ptr Mi.length 0/\T 130=B false/\M3=M4) ?_ ?_
 .refine A1v hB (A0I gl) (λk=>if k=12\/k=14\/k=19\/k=29\/k=32 then 1 else 0) (λk=>if k=12\/k=29 then M2.length else M'.length) (by rfl) (by kernel_rfl) ?_;simp -dsimp -implicitDefEqProofs[t1,t4,t9,e,c,g,ak,ai,af,hi,j,f,A0Q.row,A0b x4,A0b a4,A0R,A7f,f4,f5];refine A2F func33 be ?_;simp -dsimp -implicitDefEqProofs[A0b x4,A0b a4,A0R,A7f];refine A2F func33 av ?_;simp -dsimp -implicitDefEqProofs;refine A2F func17 bg ?_;simp -dsimp -implicitDefEqProofs[t1,t4,t9,e,c,g]
 clear t1 t4 t9 e c g ak ai af
 rintro T a7 ⟨t1,t4,t9,e,c,g,o,rfl⟩
 simp -dsimp -implicitDefEqProofs[t1,t4,t9,e,c,g,o,A0b v4,A0b d4]
 refine A0g func34 (a8 a7) ?_
 simp -dsimp -implicitDefEqProofs[A0k,A0l,A0d,A0L,A0K]
 have b2:a7++[A0j.cells 23 [I q.id.act,I q.id.item,I q.id.n],A0j.cells 23 [I 0,I 0,I 0]]=M6:=by rw[ao,a9];simp
 have bb:a7.length+1=M5.length:=by rw[a9];simp
 rw[b2,bb]
 have c0:p<Mi.length:=(Z0b.1 ax).1
 have aq:M5.length<M6.length:=(Z0b.1 a6).1
 rcases ba with⟨n1,n2⟩|⟨r,bh,bd,az⟩
 .have bc:¬sl.parent>=0:=by omega
  have an:=am;rw[n2]at an p6;simp only[idZ]at an p6;simp -dsimp -implicitDefEqProofs[t1,t4,t9,e,c,g,o,hi,j,f,A0Q.row,bc,A0b p6,A0b a6,an,w1,ab];exact⟨⟨i+1,by clear w1;omega,rfl,v6⟩,by clear w1;omega⟩
 .obtain⟨sr,bk⟩:∃sr,sr=l[r]:=⟨_,rfl⟩;have ac:l[r]=sr:=bk.symm;rw[ac]at az;have aj:=aa M6 sr.id;rw[az]at aj;simp only[idO,b7,Z2D]at aj;have bq:(r:Int)<l.length:=by omega
  have bp:(r:Int)>=0:=by omega
  have b6:(M6.set M5.length (.cells 23 [I q.id.act,I q.id.item,I q.id.n]))[M5.length]?=some (A0j.cells 23 [I q.id.act,I q.id.item,I q.id.n]):=by simp[aq]
  have bs:a7.length<M5.length:=by rw[<-bb];omega
  have b5:(M6.set M5.length (.cells 23 [I q.id.act,I q.id.item,I q.id.n]))[a7.length]?=some (A0j.cells 23 [I q.id.act,I q.id.item,I q.id.n]):=by rw[Z0f (by omega)];exact p6
  have bx:p<M5.length:=by have:=(g2.trans (g3.trans (g4.trans g5))).1;omega
  have bv:(M6.set M5.length (.cells 23 [I q.id.act,I q.id.item,I q.id.n]))[p]?=some (A0j.cells 27 [I V.id.act,I V.id.item,I V.id.n,I V.kind,S V.label,.list 4 (A0i V.head) .no,.list 4 (A0i V.words) .no,.list 8 (A0u V.kids) .no]):=by rw[Z0f (by omega)];exact v6
  simp -dsimp -implicitDefEqProofs[t1,t4,t9,e,c,g,o,hi,j,f,A0Q.row,bd,bp,bh,bq,ac];refine A0g func31 aj ?_;simp -dsimp -implicitDefEqProofs[t1,t4,t9,e,c,g,o,A0f a6,A0L,A0K,A0b b6,A0b b5,am,w1,ab];exact⟨⟨i+1,by clear w1;omega,rfl,bv⟩,by clear w1;omega⟩
end
end Go.Abs
