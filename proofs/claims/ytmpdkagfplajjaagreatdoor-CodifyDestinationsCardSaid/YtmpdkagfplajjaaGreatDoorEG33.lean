/- The texts CbM, CeA, CeB, CeC, CeD, CeE, CeF, CeG, CeH, CeI, CeJ, CeK. -/
import Derived.Test.YtmpdkagfplajjaaGreatDoorEG32
import Derived.Test.YtmpdkagfplajjaaGreatDoorEG25
set_option linter.all false
set_option maxRecDepth 100000
namespace Go.Abs
open Go.Proofs TryTypes Tryz
def hSt:A2r:=⟨λd=>d !=1,λ_=>false,λ_=>false⟩
@[simp] def E3y:hSt.imm=λd=>d !=1:=rfl
@[simp] def E3z:hSt.vec=λ_=>false:=rfl
def D0c:A0S prog 256=some 24:=by kernel_rfl
attribute [simp] underlying256 D0c
def D2v{n m}{M}{hv wv}{a b}(h:A3U 152 4 A0M.row n M hv a)(w:A3U 152 4 A0M.row m M wv b):A0q prog 256 2 [(0,hv),(1,wv)]=some (.list 1 [[hv],[wv]] .full):=by rcases h with⟨rfl,_⟩|⟨⟨rfl,_⟩|⟨f,g,hist,rfl,_,_⟩,_⟩<;>rcases w with⟨rfl,_⟩|⟨⟨rfl,_⟩|⟨f2,g2,c,rfl,_,_⟩,_⟩<;>simp[A0q,D0c,A1f]
def C4T:A0D prog 150 []=some (.agg [I 0,I 0,I 0]):=by simp[A0D,A1k]
def D0E{n}{M}{v}{l}(h:Arr 152 4 A0M.row n M v l){i}(hi:i<l.length)(hb:B0N l[i]):∃f g M',v=.vref f g 4 0 l.length/\A0l (some 3) M (.vptr f g (i*4+1)) (.agg [I 0,I 0,I 0])=some M'/\Arr 152 4 A0M.row n M' v l/\M'.length=M.length/\∀j,j≠f->M'[j]?=M[j]?:=by
 obtain⟨h1,h2⟩:=h
 rcases h1 with⟨rfl,rfl⟩|⟨f,g,a,rfl,hm,hl⟩
 .simp at hi
 have b:f<M.length:=(Z0b.1 hm).1
 have c:A0d (l.flatMap A0M.row) (i*4+1) [I 0,I 0,I 0]=l.flatMap A0M.row:=by refine C9g ?_;rw[<-Z1R,A7B (enc:=A0M.row) (sz:=4) (λ_=>rfl),Z0l hi,Z1a,C1c hb];rfl
 refine⟨f,g,M.set f (.vec 152 4 (l.flatMap A0M.row) g (A1s 4 g (i*4+1) a)),rfl,?_,⟨.inr ⟨f,g,A1s 4 g (i*4+1) a,rfl,by simp[b],?_⟩,h2⟩,by simp,λj hj=>Z0f (by omega)⟩
 .simp only[A0l,hm,hl];rw[Z0d (by simp;omega)];simp only[AV.cells];rw[c]
 .unfold A1s;exact A4k _ hl
def D1c{n}{M}{v}{l}(h:Arr 27 8 A0a.row n M v l){i}(hi:i<l.length):∃f g M',v=.vref f g 8 0 l.length/\A1D prog 27 M (.vptr f g (i*8))=some (.agg l[i].row)/\A0l (some 8) M (.vptr f g (i*8)) (.agg l[i].row)=some M'/\Arr 27 8 A0a.row n M' v l/\M'.length=M.length/\∀j,j≠f->M'[j]?=M[j]?:=by
 obtain⟨h1,h2⟩:=h
 have c:=h1.at_ (P:=prog) (t:=27) A0a.row_len D7u D8o hi
 rcases h1 with⟨rfl,rfl⟩|⟨f,g,a,rfl,hm,hl⟩
 .simp at hi
 have b:f<M.length:=(Z0b.1 hm).1
 have d:A0d (l.flatMap A0a.row) (i*8) l[i].row=l.flatMap A0a.row:=by refine C9g ?_;rw[A7B A0a.row_len,Z0l hi,Z1a,A0a.row_len,Z1Z (by simp)];simp
 refine⟨f,g,M.set f (.vec 27 8 (l.flatMap A0a.row) g (A1s 8 g (i*8) a)),rfl,?_,?_,⟨.inr ⟨f,g,A1s 8 g (i*8) a,rfl,by simp[b],?_⟩,h2⟩,by simp,λj hj=>Z0f (by omega)⟩
 .obtain⟨p,e1,_,e2,_⟩:=c;simp[hi]at e1;rw[<-e1]at e2;exact e2
 .simp only[A0l,hm,hl];rw[Z0d (by simp[AV.storable,AV.cells];omega)];simp only[AV.cells];rw[d]
 .unfold A1s;exact A4k _ hl
section
variable (gl:Nat->AV)
set_option maxHeartbeats 1000000 in
def B8K:∀(u:A0a) (kv:AV) (M:Mem),B9T u.kids kv->u.good->u.lims->A0o u<=1000->A2Z u->
 A0e (WC gl) 180 [.agg (A6A u kv)] M (λv M'=>v=.agg u.row/\M'=M)
 |.mk id kind lab hd ws ks,kv,M,ae,hg,hlm,hc,hbt=>by
  obtain⟨_,_,c0,_,br,_,bs,bp,am⟩:=(A0a.good_iff _).1 hg;have am:∀k∈ks,k.good:=am;obtain⟨⟨b8,b3,c1,-⟩,au⟩:=A3r _ hlm;have b8:hd.length<=100000000:=b8;have b3:ws.length<=100000000:=b3;have au:=A3E.1 au;have bz:1+A0x ks<=1000:=by rwa[A0o]at hc
  have bv:=A2q ks;have ae:B9T ks kv:=ae;obtain⟨ax,bf,bd,az⟩:=(A6V _).1 hbt;have ax:id=idZ:=ax;have bf:∀x∈hd,B0N x:=bf;have bd:∀x∈ws,B0N x:=bd;have az:∀k∈ks,A2Z k:=az;subst ax;refine A0e.dataX ?_;have b1:A6A (.mk idZ kind lab hd ws ks) kv=[I 0,I 0,I 0,I kind,S lab,.list 4 (A0i hd) .no,.list 4 (A0i ws) .no,kv]:=rfl;have bi:∀a b c,D3F (.mk idZ kind lab hd ws ks) a b c=[I 0,I 0,I 0,I kind,S lab,a,b,c]:=λ_ _ _=>rfl;rw[b1];refine A0m hSt func180 ?_;obtain⟨b,hb⟩:∃b,b=M.length:=⟨_,rfl⟩;obtain⟨M1,a6⟩:∃M1,M1=M++[A0j.cells 27 [I 0,I 0,I 0,I kind,S lab,.list 4 (A0i hd) .no,.list 4 (A0i ws) .no,kv],z8]:=⟨_,rfl⟩;have a9:M1[b]?=some (A0j.cells 27 [I 0,I 0,I 0,I kind,S lab,.list 4 (A0i hd) .no,.list 4 (A0i ws) .no,kv]):=by rw[a6,hb];simp
  have b7:M1[b+1]?=some z8:=by rw[a6,hb];simp[Z1h]
  have bb:Grow M M1:=by rw[a6];exact A0c.app none _ _
  have bn:M1.length=b+2:=by rw[a6,hb];simp
  have bw:=ae.store;have bx:=ae.cells;have ah:=B5C gl (.mk idZ kind lab hd ws ks) kv M1 ae hg hlm hc;rw[b1]at ah;simp only[bi]at ah;simp -dsimp -implicitDefEqProofs[A0k];rw[<-a6,<-hb];clear a6;simp -dsimp -implicitDefEqProofs[A0b a9];refine A0r func89 ah ?_;rintro _ M2 ⟨hv,wv,kw,rfl,af,e1,e2,e3,b9,bh,ba⟩;have e1:A3U 152 4 A0M.row M1.length M2 hv hd:=e1;have e2:A3U 152 4 A0M.row M1.length M2 wv ws:=e2;have e3:Arr 27 8 A0a.row M1.length M2 kw ks:=e3;have aa:=af.get a9 (by simp);have b2:=af.get b7 (by simp);have be:b<M2.length:=(Z0b.1 aa).1;obtain⟨M3,ac⟩:∃M3,M3=M2.set b (.cells 27 [I 0,I 0,I 0,I kind,S lab,hv,wv,kw]):=⟨_,rfl⟩;have a5:∀f,f≠b->M3[f]?=M2[f]?:=λf hf=>by rw[ac,Z0f (λe=>hf e.symm)]
  have z:M3[b]?=some (.cells 27 [I 0,I 0,I 0,I kind,S lab,hv,wv,kw]):=by rw[ac];simp[be]
  have ay:M3[b+1]?=some z8:=by rw[a5 _ (by omega)];exact b2
  have bo:M3.length=M2.length:=by rw[ac];simp
  have f1:=e1.stay (M':=M3) (λf h=>a5 f (by have:=e1.lat f h;omega));have f2:=e2.stay (M':=M3) (λf h=>a5 f (by have:=e2.lat f h;omega));have f3:=e3.stay (M':=M3) (λf h=>a5 f (by have:=e3.lat f h;omega));have a8:M3.set b (.cells 27 [I 0,I 0,I 0,I kind,S lab,hv,wv,kw])=M3:=List.set_eq_of_getElem? z;simp -dsimp -implicitDefEqProofs[A0f aa];rw[<-ac];have b0:=D2v f1 f2;simp -dsimp -implicitDefEqProofs[C9h,A0f z,a8,A0b z,b0];have b5:∀M5,(∀j,j<b->M5[j]?=M3[j]?)->M3.length<=M5.length->Grow M M5:=λM5 h1 h2=>⟨by have:=bb.1;have:=af.1;omega,λj hj _=>by rw[h1 j (by omega),a5 j (by omega)];exact(bb.trans af).2 j hj (by simp)⟩;have bq:b+2<=M3.length:=by have:=af.1;omega
  clear b0 a8 ac a5 aa b2 ah a9 b7;refine A6F (.exit 0) (λT M5=>T 1=.ptr b 0/\T 2=.ptr (b+1) 0/\M5[b]?=some (.cells 27 [I 0,I 0,I 0,I kind,S lab,hv,wv,kw])/\M5[b+1]?=some z8/\M5.length=M3.length/\(∀j,j<b->M5[j]?=M3[j]?)/\A3U 152 4 A0M.row M1.length M5 hv hd/\A3U 152 4 A0M.row M1.length M5 wv ws/\Arr 27 8 A0a.row M1.length M5 kw ks) ?_ ?_
  .refine A0F hSt 2 17 (λT M5=>∃k:Nat,k<=2/\T 1=.ptr b 0/\T 2=.ptr (b+1) 0/\T 15=.list 1 [[hv],[wv]] .full/\T 16=I 2/\T 17=I k/\M5[b]?=some (.cells 27 [I 0,I 0,I 0,I kind,S lab,hv,wv,kw])/\M5[b+1]?=some z8/\M5.length=M3.length/\(∀j,j<b->M5[j]?=M3[j]?)/\A3U 152 4 A0M.row M1.length M5 hv hd/\A3U 152 4 A0M.row M1.length M5 wv ws/\Arr 27 8 A0a.row M1.length M5 kw ks) ?_ ?_
   .exact⟨0,by omega,by simp,by simp,by simp,by simp,by simp,z,ay,rfl,λ_ _=>rfl,f1,f2,f3⟩
   clear z ay f1 f2 f3;rintro T M5 ⟨k,k1,t1,t2,y,w,s,d,l,p,o,f1,f2,f3⟩;by_cases hk:k<2;case neg=>
    (have an:¬(k:Int)<2:=by omega);simp -dsimp -implicitDefEqProofs[t1,t2,y,w,s,an]
    exact⟨d,l,p,o,f1,f2,f3⟩
   (have an:(k:Int)<2:=by omega);have w1:=A2s (i:=k) (by omega)
   obtain⟨xv,aj⟩:∃xv,xv=if k=0 then hv else wv:=⟨_,rfl⟩;obtain⟨xs,ad⟩:∃xs,xs=if k=0 then hd else ws:=⟨_,rfl⟩;(have bm:∀x∈xs,B0N x:=by rw[ad];split<;>assumption);(have bu:xs.length<=100000000:=by rw[ad];split<;>assumption);(have ag:∀M6:Mem,A3U 152 4 A0M.row M1.length M6 hv hd->A3U 152 4 A0M.row M1.length M6 wv ws->A3U 152 4 A0M.row M1.length M6 xv xs:=λM6 h1 h2=>by rw[aj,ad];by_cases c:k=0<;>simp only[c,Z0F,Z1j]<;>assumption);have ar:∀(M6 M7:Mem) (f:Nat),obj xv=some f->A3U 152 4 A0M.row M1.length M7 xv xs->(∀j,j≠f->M7[j]?=M6[j]?)->A3U 152 4 A0M.row M1.length M6 hv hd->A3U 152 4 A0M.row M1.length M6 wv ws->Arr 27 8 A0a.row M1.length M6 kw ks->A3U 152 4 A0M.row M1.length M7 hv hd/\A3U 152 4 A0M.row M1.length M7 wv ws/\Arr 27 8 A0a.row M1.length M7 kw ks:=λM6 M7 f hf hx hj g1 g2 g3=>by
    by_cases c:k=0
    .rw[aj,Z0d c]at hf hx;rw[ad,Z0d c]at hx;exact⟨hx,g2.stay λq hq=>hj q λe=>b9 f hf (e▸hq),g3.stay λq hq=>hj q λe=>bh f hf (e▸hq)⟩
    .rw[aj,Z0e c]at hf hx;rw[ad,Z0e c]at hx;exact⟨g1.stay λq hq=>hj q λe=>b9 f (e▸hq) hf,hx,g3.stay λq hq=>hj q λe=>ba f hf (e▸hq)⟩
   have a4:([[hv],[wv]]:List (List AV))[k]?=some [xv]:=by rw[aj];(have:k=0\/k=1:=by omega);rcases this with rfl|rfl<;>rfl
   (have a3:([[hv],[wv]]:List (List AV)).getD k []=[xv]:=by rw[Z1v,a4];rfl);have av:=(ag M5 f1 f2).len (P:=prog) (t:=24) (e':=152) (by simp)
   simp -dsimp -implicitDefEqProofs[t1,t2,y,w,s,an,a4,a3,av];refine A6F (.exit 2) (λT M6=>T 1=.ptr b 0/\T 2=.ptr (b+1) 0/\T 15=.list 1 [[hv],[wv]] .full/\T 16=I 2/\T 17=I k/\M6[b]?=some (.cells 27 [I 0,I 0,I 0,I kind,S lab,hv,wv,kw])/\M6[b+1]?=some z8/\M6.length=M3.length/\(∀j,j<b->M6[j]?=M3[j]?)/\A3U 152 4 A0M.row M1.length M6 hv hd/\A3U 152 4 A0M.row M1.length M6 wv ws/\Arr 27 8 A0a.row M1.length M6 kw ks) ?_ ?_
   .refine A0F hSt xs.length 23 (λT M6=>∃i:Nat,i<=xs.length/\T 1=.ptr b 0/\T 2=.ptr (b+1) 0/\T 15=.list 1 [[hv],[wv]] .full/\T 16=I 2/\T 17=I k/\T 4=xv/\T 22=I xs.length/\T 23=I i/\M6[b]?=some (.cells 27 [I 0,I 0,I 0,I kind,S lab,hv,wv,kw])/\M6[b+1]?=some z8/\M6.length=M3.length/\(∀j,j<b->M6[j]?=M3[j]?)/\A3U 152 4 A0M.row M1.length M6 hv hd/\A3U 152 4 A0M.row M1.length M6 wv ws/\Arr 27 8 A0a.row M1.length M6 kw ks) ?_ ?_
    .exact⟨0,by omega,by simp[t1],by simp[t2],by simp[y],by simp[w],by simp[s],by simp,by simp,by simp,d,l,p,o,f1,f2,f3⟩
    clear d l p o f1 f2 f3 t1 t2 y w s av a4 a3;rintro T M5 ⟨i,i1,t1,t2,y,w,s,t4,b6,bg,d,l,p,o,f1,f2,f3⟩;by_cases hi:i<xs.length;case neg=>
     (have a0:¬(i:Int)<xs.length:=by omega);simp -dsimp -implicitDefEqProofs[t1,t2,y,w,s,t4,b6,bg,a0]
     exact⟨d,l,p,o,f1,f2,f3⟩
    (have a0:(i:Int)<xs.length:=by omega);have w2:IntKind.i64.wrap ((i:Int)+1)=((i+1:Nat):Int):=by rw[A0Z (by omega) (by omega)];omega
    have hx:Arr 152 4 A0M.row M1.length M5 xv xs:=by
     rcases ag M5 f1 f2 with⟨_,h⟩|h
     .rw[h]at hi;simp at hi
     .exact h
    obtain⟨f,g,M6,a2,aq,ap,bk,r⟩:=D0E hx hi (bm _ (Z0y hi));(have a7:obj xv=some f:=by rw[a2];rfl);have bj:=hx.lat f a7;obtain⟨g1,g2,g3⟩:=ar M5 M6 f a7 (.inr ap) r f1 f2 f3;(have ao:M6[b]?=some (.cells 27 [I 0,I 0,I 0,I kind,S lab,hv,wv,kw]):=by rw[r b (by omega)];exact d);(have aw:M6[b+1]?=some z8:=by rw[r (b+1) (by omega)];exact l);rw[a2]at t4;simp -dsimp -implicitDefEqProofs[t1,t2,y,w,s,t4,b6,bg,a0,hi,C4T,aq,w2];refine⟨⟨i+1,by clear w2;omega,a2.symm,rfl,ao,aw,by omega,λj hj=>by rw[r j (by omega)];exact o j hj,g1,g2,g3⟩,by clear w2;omega⟩
   have b4:=s;clear d l p o f1 f2 f3 t1 t2 y w s av a4 a3;rintro T M5 ⟨t1,t2,y,w,s,d,l,p,o,f1,f2,f3⟩;simp -dsimp -implicitDefEqProofs[t1,t2,y,w,s,b4,w1];refine⟨⟨k+1,by clear w1;omega,rfl,d,l,p,o,f1,f2,f3⟩,by clear w1;omega⟩
  clear z ay f1 f2 f3;rintro T M5 ⟨t1,t2,d,l,p,o,f1,f2,f3⟩;have al:=f3.own.len (P:=prog) (t:=25) (e:=27) underlying25;simp -dsimp -implicitDefEqProofs[t1,t2,A0b d,al];refine A0F hSt ks.length 36 (λT M6=>∃i:Nat,i<=ks.length/\T 1=.ptr b 0/\T 2=.ptr (b+1) 0/\T 35=I ks.length/\T 36=I i/\M6[b]?=some (.cells 27 [I 0,I 0,I 0,I kind,S lab,hv,wv,kw])/\M6[b+1]?=some z8/\M3.length<=M6.length/\(∀j,j<b->M6[j]?=M3[j]?)/\A3U 152 4 A0M.row M1.length M6 hv hd/\A3U 152 4 A0M.row M1.length M6 wv ws/\Arr 27 8 A0a.row M1.length M6 kw ks) ?_ ?_
  .exact⟨0,by omega,by simp[t1],by simp[t2],by simp,rfl,d,l,by omega,o,f1,f2,f3⟩
  clear d l p o f1 f2 f3 t1 t2 al;rintro T M5 ⟨i,i1,t1,t2,ai,ak,d,l,p,o,f1,f2,f3⟩;by_cases hi:i<ks.length;case neg=>
   (have a0:¬(i:Int)<ks.length:=by omega);have bc:b+1<M5.length:=(Z0b.1 l).1
   (have hs:∀X f,f≠b+1->(M5.set (b+1) X)[f]?=M5[f]?:=λX f h1=>by rw[Z0f (by omega)]);simp -dsimp -implicitDefEqProofs[t1,t2,ai,ak,a0,A0b d,A0f l,A0v,bc]
   refine⟨b5 _ (λj hj=>by rw[hs _ j (by omega)];exact o j hj) (by simpa using p),?_⟩;rw[A0a.row_eq,A4a];have l1:=f1.lat;have l2:=f2.lat;have l3:=f3.lat;have g1:=(f1.stay (M':=M5.set (b+1) (.cells 27 [I 0,I 0,I 0,I kind,S lab,hv,wv,kw])) (λf h=>hs _ f (by have:=l1 f h;omega))).weak (m:=b) (by omega);have g2:=(f2.stay (M':=M5.set (b+1) (.cells 27 [I 0,I 0,I 0,I kind,S lab,hv,wv,kw])) (λf h=>hs _ f (by have:=l2 f h;omega))).weak (m:=b) (by omega);have g3:=f3.stay (M':=M5.set (b+1) (.cells 27 [I 0,I 0,I 0,I kind,S lab,hv,wv,kw])) (λf h=>hs _ f (by have:=l3 f h;omega));exact .agg (.same trivial (.same trivial (.same trivial (.same trivial (.same trivial (g1.still (λ_=>rfl) A6z (g2.still (λ_=>rfl) A6z (A3P A0a.row_len A2D g3.own (λf h=>by have:=l3 f h;omega))))))))) .nil
  have a0:(i:Int)<ks.length:=by omega
  have w1:=A2s (i:=i) (by omega);have a1:ks[i]∈ks:=Z0y hi;have bt:=A4j a1;have:=A0a.kid_lt (u:=.mk idZ kind lab hd ws ks) a1;have ab:=λM=>B8K ks[i] (.list 8 (A0u ks[i].kids) .no) M (.inl rfl) (am _ a1) (au _ a1) (by omega) (az _ a1);rw[show A6A ks[i] (.list 8 (A0u ks[i].kids) .no)=ks[i].row from(ks[i].row_eq).symm]at ab;obtain⟨f,g,M6,a2,bl,aq,ap,bk,r⟩:=D1c f3 hi;have a7:obj kw=some f:=by rw[a2];rfl
  have bj:=f3.lat f a7;simp -dsimp -implicitDefEqProofs[t1,t2,ai,ak,a0];refine B7y hSt (A0I gl) (λk=>if k=1\/k=4\/k=7 then 1 else if k=10 then 2 else 0) (λk=>if k=7 then f else b) (λi k=>i==7&&k==10) (λk=>if k=10 then[b]else[b,f]) (by intro i k _ h;by_cases h7:i=7<;>by_cases h10:k=10<;>simp[h7,h10]at h|-) (by rfl) (by kernel_rfl) ?_;rw[a2]at d;simp -dsimp -implicitDefEqProofs[t1,t2,ai,ak,A0b d,A0R,A7f,bl];refine⟨hi,A2F func180 ab ?_⟩;simp -dsimp -implicitDefEqProofs[t1,t2,ai,ak,a0,hi,aq,w1];have ao:M6[b]?=some (.cells 27 [I 0,I 0,I 0,I kind,S lab,hv,wv,kw]):=by rw[r b (by omega),a2];exact d
  have aw:M6[b+1]?=some z8:=by rw[r (b+1) (by omega)];exact l
  exact⟨r b (by omega),⟨i+1,by clear w1;omega,by simp,ao,aw,by omega,λj hj=>by rw[r j (by omega)];exact o j hj,f1.stay λq hq=>r q λe=>bh q hq (e▸a7),f2.stay λq hq=>r q λe=>ba q hq (e▸a7),ap⟩,by clear w1;omega⟩
termination_by u=>SizeOf.sizeOf u
end
mutual
def A2p(x:IdD):A0a->List A0a
 |.mk id k l h w ks=>if id=x then[.mk id k l h w ks]else match A4I x ks with
  |[]=>[]
  |r::rs=>.mk id k l h w ks::r::rs
def A4I(x:IdD):List A0a->List A0a
 |[]=>[]
 |k::ks=>match A2p x k with
  |[]=>A4I x ks
  |r::rs=>r::rs
end
def A6N:List A0a->AV
 |[]=>A0E
 |u::r=>.list 8 (A0u (u::r)) .no
mutual
def A9O(x:IdD):∀u:A0a,(A2p x u).length<=A0o u
 |.mk id k l h w ks=>by
  have:=B7Q x ks;rw[A2p,A0o];split
  .simp
  .split
   .simp
   .rename_i r rs e;rw[e]at this;simp at this|-;omega
def B7Q(x:IdD):∀ks:List A0a,(A4I x ks).length<=A0x ks
 |[]=>by rw[A4I];simp
 |k::ks=>by
  have h1:=A9O x k;have h2:=B7Q x ks;rw[A4I,A0x];split
  .omega
  .rename_i r rs e;rw[e]at h1;omega
end
mutual
def A7R(x:IdD):∀u:A0a,A0U x u=(A2p x u).getLast?
 |.mk id k l h w ks=>by
  have:=B5U x ks;rw[A2p,A0U];split
  .rfl
  .rw[this];cases A4I x ks with
   |nil=>rfl
   |cons r rs=>simp
def B5U(x:IdD):∀ks:List A0a,A9s x ks=(A4I x ks).getLast?
 |[]=>by rw[A4I,A9s];rfl
 |k::ks=>by
  have h1:=A7R x k;have h2:=B5U x ks;rw[A4I,A9s,h1,h2];cases A2p x k with
  |nil=>rfl
  |cons r rs=>
   cases h:(r::rs).getLast? with
   |none=>simp at h
   |some v=>simp[h]
end
def B6c{x:IdD}{u:A0a}(h:A2p x u≠[]):A6N (A2p x u)=.list 8 (A0u (A2p x u)) .no:=by
 cases e:A2p x u with
 |nil=>exact absurd e h
 |cons r rs=>rfl
def C0X(n:Nat)(l:List A0a):bdd n (.list 8 (A0u l) .no):=by simp only[bdd,Z1O];exact B5b n l
def A9Q(l:List A0a):(A0u l).flatten=l.flatMap A0a.row:=by rw[A4a];simp[List.flatMap]
def B1k{M:Mem}{n:Nat}{v:AV}{l:List A0a}(h:A1l 27 8 A0a.row M v l)(hn:A1m n v):Still M n (bdd n) [v] [.list 8 (A0u l) .no]:=by rw[A4a];exact A3P A0a.row_len A2D h hn
section
variable (gl:Nat->AV)
def B1s:∀(u:A0a) (x:IdD) (M:Mem),u.good->A0o u<=1000->A0e (WC gl) 88 [.agg u.row,.agg x.row] M (λv M'=>v=A6N (A2p x u)/\M'=M)
 |.mk id kind lab hd ws ks,x,M,hg,hc=>by
  obtain⟨_,_,a3,_,a1,_,a4,z,o⟩:=(A0a.good_iff _).1 hg;have o:∀k∈ks,k.good:=o;have a2:1+A0x ks<=1000:=by rwa[A0o]at hc
  have a0:=A2q ks;obtain⟨u,hu⟩:∃u,u=A0a.mk id kind lab hd ws ks:=⟨_,rfl⟩;have g:(A0a.mk id kind lab hd ws ks).row=[I id.act,I id.item,I id.n,I kind,S lab,.list 4 (A0i hd) .no,.list 4 (A0i ws) .no,.list 8 (A0u ks) .no]:=by rw[A0a.row]
  have hx:x.row=[I x.act,I x.item,I x.n]:=rfl;have he:=B4h id x;refine A0e.dataX ?_;rw[g,hx];refine A0m (hQ [27,29]) func88 ?_;by_cases h0:id=x
  .rw[Z0w h0]at he;(have hr:A2p x (.mk id kind lab hd ws ks)=[.mk id kind lab hd ws ks]:=by rw[A2p,Z0d h0]);rw[hr];simp -dsimp -implicitDefEqProofs[he,A0q,A1f,AV.storable,AV.cells];refine⟨Grow.refl _,?_⟩;have hb:=C0X M.length [.mk id kind lab hd ws ks];simp only[A6N];rw[A0u,A0u,g]at hb|-;exact .dis hb .nil
  rw[Z0z h0]at he;have hr:A2p x (.mk id kind lab hd ws ks)=match A4I x ks with
   |[]=>[]
   |r::rs=>.mk id kind lab hd ws ks::r::rs:=by rw[A2p,Z0e h0]
  rw[hr];generalize hR:A4I x ks=R;simp -dsimp -implicitDefEqProofs[he];refine A0F (hQ [27,29]) ks.length 17 (λT M1=>∃i:Nat,Grow M M1/\i<=ks.length/\T 2=.cptr [I id.act,I id.item,I id.n,I kind,S lab,.list 4 (A0i hd) .no,.list 4 (A0i ws) .no,.list 8 (A0u ks) .no]/\T 3=.cptr [I x.act,I x.item,I x.n]/\T 15=.list 8 (A0u ks) .no/\T 16=I ks.length/\T 17=I i/\R=A4I x (ks.drop i)) ?_ ?_
  .exact⟨0,Grow.refl _,by omega,by simp,by simp,by simp,by simp,by simp,by simp[hR]⟩
  rintro T M1 ⟨i,j,i1,t2,t3,c,a,b,ho⟩;by_cases hi:i<ks.length;case neg=>
   (have p:¬(i:Int)<ks.length:=by omega);rw[show ks.drop i=[]from Z0x (by omega),A4I]at ho
   subst ho;simp -dsimp -implicitDefEqProofs[t2,t3,c,a,b,p];exact⟨j,.same trivial .nil⟩
  have p:(i:Int)<ks.length:=by omega
  have w1:=A2s (i:=i) (by omega);have d:ks[i]∈ks:=Z0y hi;have a5:=A4j d;rw[Z0l hi,A4I]at ho;obtain⟨M2,q⟩:∃M2,M2=M1++[A0j.cells 27 ks[i].row]:=⟨_,rfl⟩;have m:Grow M1 M2:=by rw[q];exact A0c.app none _ _
  have t:M2[M1.length]?=some (A0j.cells 27 ks[i].row):=by rw[q];simp
  have:=A0a.kid_lt (u:=.mk id kind lab hd ws ks) d;have h:=B1s ks[i] x M2 (o _ d) (by omega);have l:=A9O x ks[i];rw[hx]at h;simp -dsimp -implicitDefEqProofs[t2,t3,c,a,b,hi,p,A0k,A0l,A0d,AV.storable,AV.cells];rw[<-q];simp -dsimp -implicitDefEqProofs[t2,t3,c,a,b,A0b t];refine A0g func88 h ?_;cases hw:A2p x ks[i]with
  |nil=>rw[hw]at ho;simp -dsimp -implicitDefEqProofs[t2,t3,c,a,b,w1,A6N];exact⟨⟨j.trans m,i+1,by clear w1;omega,rfl,ho⟩,by clear w1;omega⟩
  |cons r rs=>rw[hw]at ho l;subst ho;(have w:A1H prog 25 1 [(0,.agg [I id.act,I id.item,I id.n,I kind,S lab,.list 4 (A0i hd) .no,.list 4 (A0i ws) .no,.list 8 (A0u ks) .no])] M2=some (.vref M2.length 0 8 0 1,M2++[.vec 27 8 [I id.act,I id.item,I id.n,I kind,S lab,.list 4 (A0i hd) .no,.list 4 (A0i ws) .no,.list 8 (A0u ks) .no] 0 [(0,1)]]):=by simp[A1H,A1f,AV.storable,AV.cells]);(have s:A0u (r::rs)=r.row::A0u rs:=by rw[A0u]);simp -dsimp -implicitDefEqProofs[t2,t3,c,a,b,A6N,s,w];rw[<-s,<-g];have y:A1l 27 8 A0a.row (M2++[.vec 27 8 (A0a.mk id kind lab hd ws ks).row 0 [(0,1)]]) (.vref M2.length 0 8 0 1) [.mk id kind lab hd ws ks]:=.inr ⟨M2.length,0,[(0,1)],rfl,by simp,by simp[List.lookup]⟩;refine A4C (C:=WC gl) (enc:=A0a.row) (e:=27) (sz:=8) (news:=r::rs) A8T B4o B3R A0a.row_len y (by simp only[A0A,A9Q,B2g];simp) (by simp at l|-;omega) rfl ?_;intro v' M3 q1 q2 q3 _;obtain⟨r1,r2⟩:=A2V (X:=[]) ((j.trans m).trans (A0c.app none _ [.vec 27 8 (A0a.mk id kind lab hd ws ks).row 0 [(0,1)]])) (v:=.vref M2.length 0 8 0 1) (λf hf=>by simp at hf;have:=(j.trans m).1;omega) (by simpa using q2) (by simpa using q3);simp -dsimp -implicitDefEqProofs;exact⟨r1,B1k q1 r2⟩
termination_by u=>SizeOf.sizeOf u
end
section
def A9T(l:List A0a)(i:Nat)(h:i<l.length):(A0u l)[i]?=some (l[i]).row:=by rw[A4a];simp[h]
def D6p{x:IdD}{u v:A0a}(h:(A2p x u).getLast?=some v):v.id=x/\v∈A3X u:=by rw[<-A7R]at h;rw[A9t]at h;exact⟨by have:=List.find?_some h;simpa using this,Z3c h⟩
mutual
def C3i:∀u:A0a,Fit u->∀v∈A3X u,Fit v
 |.mk a b c d e ks,h,v,hv=>by
  rw[A3X]at hv;rcases Z0u.1 hv with rfl|hv
  .exact h
  .refine C4K ks (λk hm=>?_) v hv;have h1:=((A0a.good_iff _).1 h.1).2.2.2.2.2.2.2.2;have h2:=A3E.1 (A3r _ h.2.1).2;have h3:=h.2.2;have h4:=A4j hm;rw[A0o]at h3;exact⟨h1 k hm,h2 k hm,by omega⟩
def C4K:∀ks:List A0a,(∀k∈ks,Fit k)->∀v∈A6g ks,Fit v
 |[],_,v,hv=>by rw[A6g]at hv;simp at hv
 |k::ks,h,v,hv=>by
  rw[A6g]at hv;rcases Z0V.1 hv with hv|hv
  .exact C3i k (h k (by simp)) v hv
  .exact C4K ks (λq hq=>h q (by simp[hq])) v hv
end
section
variable (gl:Nat->AV)
def B2j(u:A0a)(x:IdD)(M:Mem)(hf:Fit u):A0e (WC gl) 32 [.agg u.row,.agg x.row] M (λv M'=>v=.tuple [.agg (A1Z (A0U x u)),B (A0U x u).isSome]/\M'=M):=by
 refine A0e.dataX ?_;have hx:x.row=[I x.act,I x.item,I x.n]:=rfl;obtain⟨Ma,c⟩:∃Ma,Ma=M++[z8]:=⟨_,rfl⟩;have q:Grow M Ma:=by rw[c];exact A0c.app none _ _
 have d:Ma[M.length]?=some z8:=by rw[c];simp
 have b:=B1s gl u x Ma hf.1 hf.2.2;have o:=A9O x u;have a5:=hf.2.2;have a2:=A7R x u;rw[u.row_eq,hx]at b|-;rw[a2];refine A0m hB func32 ?_;simp -dsimp -implicitDefEqProofs[A0k];rw[<-c];refine A0g func88 b ?_;generalize hr:A2p x u=r at*;rcases Z3w r with rfl|⟨rs,w,rfl⟩
 .have t:M.length<Ma.length:=(Z0b.1 d).1;simp -dsimp -implicitDefEqProofs[A6N,A0f d,A0L,A0K,A0v t,A0h];exact⟨A1g q (Z0n _),.tuple (.same (C0J _ none) (.same trivial .nil)) .nil⟩
 .rw[List.concat_eq_append]at*;have hw:=D6p (x:=x) (u:=u) (v:=w) (by rw[hr];simp);have g:=C3i u hf w hw.2;have z:A6N (rs++[w])=.list 8 (A0u (rs++[w])) .no:=by rw[<-hr];exact B6c (by rw[hr];simp)
  have hi:rs.length<(rs++[w]).length:=by simp
  have a0:(A0u (rs++[w]))[rs.length]?=some w.row:=by rw[A9T _ _ hi];simp
  have w1:IntKind.i64.wrap (rs.length:Int)=rs.length:=by rw[A0Z (by omega) (by simp at o;omega)]
  have y:¬(rs.length:Int)+1=0:=by omega
  have l:(rs.length:Int)<rs.length+1:=by omega
  have i:=B5C gl w (.list 8 (A0u w.kids) .no) Ma (.inl rfl) g.1 g.2.1 g.2.2;rw[show A6A w (.list 8 (A0u w.kids) .no)=w.row from(w.row_eq).symm]at i;rw[z];simp -dsimp -implicitDefEqProofs[y,w1,a0,l];refine A0r func89 i ?_;rintro _ M2 ⟨hv,wv,kw,rfl,a⟩;obtain⟨p,a4⟩:=a.still;have j:=p.get d (by simp);have s:M.length<M2.length:=(Z0b.1 j).1;simp -dsimp -implicitDefEqProofs[A0f j,A0L,A0K,A0v s,A0h];have a3:Ma.length=M.length+1:=by rw[c];simp
  obtain⟨M3,e⟩:∃M3,M3=M2.set M.length (A0j.cells 27 (D3F w hv wv kw)):=⟨_,rfl⟩;have hs:∀f,f≠M.length->M3[f]?=M2[f]?:=λf h1=>by rw[e,Z0f (by omega)]
  have l1:=a.h.lat;have l2:=a.w.lat;have l3:=a.k.lat;have g1:=(a.h.stay (M':=M3) (λf h=>hs f (by have:=l1 f h;omega))).weak (m:=M.length) (by omega);have g2:=(a.w.stay (M':=M3) (λf h=>hs f (by have:=l2 f h;omega))).weak (m:=M.length) (by omega);have g3:=a.k.stay (M':=M3) (λf h=>hs f (by have:=l3 f h;omega));have a1:Grow M M3:=by rw[e];exact A1g (q.trans p) (Z0n _)
  rw[<-e];refine⟨a1,.tuple ?_ .nil⟩;rw[A1Z,w.row_eq,A4a];exact .agg (.same trivial (.same trivial (.same trivial (.same trivial (.same trivial (g1.still (λ_=>rfl) A6z (g2.still (λ_=>rfl) A6z (A3P A0a.row_len A2D g3.own (λf h=>by have:=l3 f h;omega))))))))) (.same trivial .nil)
def C9C(p:A0a->Bool)(g:FuncId)(cap:List AV)(l:List A0a)(o:Own)(M:Mem)(hl:l.length<=1000)(hp:∀u∈l,A3V (WC gl) g (.agg u.row::cap) M (λv M'=>v=B (p u)/\M'=M)):
 A0e (WC gl) 90 [.list 8 (A0u l) o,.func (.func g) [] cap] M (λv M'=>v=I (A3t p l 0)/\M'=M):=by
 refine A0m hB func90 ?_
 simp -dsimp -implicitDefEqProofs
 refine A0F hB l.length 8 (λT M1=>∃i:Nat,i<=l.length/\M1=M/\T 0=.list 8 (A0u l) o/\T 1=.func (.func g) [] cap/\T 7=I l.length/\T 8=I i/\A3t p l 0=A3t p (l.drop i) i) ?_ ?_
 .exact⟨0,by omega,rfl,by simp,by simp,by simp,by simp,by simp⟩
 .rintro T M1 ⟨i,i1,rfl,t0,t1,t7,t8,ho⟩;by_cases hi:i<l.length
  ·(have a:(i:Int)<l.length:=by omega);have w1:=A2s (i:=i) (by omega)
   have hd:l.drop i=l[i]::l.drop (i+1):=Z0l hi;rw[hd,A3t]at ho;have b:=A9T l i hi;simp -dsimp -implicitDefEqProofs[t0,t1,t7,t8,hi,a,b];refine A4o (hp l[i] (Z0y hi)) ?_;rintro _ _ ⟨rfl,rfl⟩;cases hq:p l[i]
   .rw[hq,Z0e (by simp)]at ho;simp -dsimp -implicitDefEqProofs[t0,t1,t7,t8,w1];exact⟨⟨i+1,by clear w1;omega,rfl,ho⟩,by clear w1;omega⟩
   .rw[hq,Z0d rfl]at ho;simp -dsimp -implicitDefEqProofs[t0,t1,t7,t8,ho]
  ·(have a:¬(i:Int)<l.length:=by omega);rw[show l.drop i=[]from Z0x (by omega)]at ho
   simp -dsimp -implicitDefEqProofs[t0,t1,t7,t8,a,ho,A3t]
def D6H(p:A0a->Bool)(g:FuncId)(cap:List AV)(l:List A0a)(o:Own)(M:Mem)(hl:l.length<=1000)(hp:∀u∈l,A3V (WC gl) g (.agg u.row::cap) M (λv M'=>v=B (p u)/\M'=M)):
 A0e (WC gl) 354 [.list 8 (A0u l) o,.func (.func g) [] cap] M (λv M'=>v=B (l.any p)/\M'=M):=by
 refine A0m hB func354 ?_
 simp -dsimp -implicitDefEqProofs
 refine A0g func90 (C9C gl p g cap l o M hl hp) ?_
 rw[<-A7Z _ l 0]
 simp -dsimp -implicitDefEqProofs
def D6y(u:A0a)(x:IdD)(M:Mem)(hf:Fit u):A0e (WC gl) 91 [.agg u.row,.cptr [I x.act,I x.item,I x.n]] M (λv M'=>v=B (A0U x u).isSome/\M'=M):=by
 have a:=B1s gl u x M hf.1 hf.2.2;have hx:x.row=[I x.act,I x.item,I x.n]:=rfl;have c:=A7R x u;rw[u.row_eq,hx]at a;rw[u.row_eq,c];refine A0m hB func91 ?_;simp -dsimp -implicitDefEqProofs;refine A0g func88 a ?_;cases hr:A2p x u with
 |nil=>simp -dsimp -implicitDefEqProofs[A6N]
 |cons r rs=>
  have b:A0u (r::rs)=r.row::A0u rs:=by rw[A0u]
  have hs:((r::rs).getLast?).isSome=true:=by simp
  simp -dsimp -implicitDefEqProofs[A6N,b,hs]
end
end
section
def D8O{α:Type}(r:List α):r=[]\/(∃w,r=[w])\/∃rs p w,r=rs++[p,w]:=by
 rcases Z3w r with rfl|⟨q,w,rfl⟩
 .exact .inl rfl
 .rcases Z3w q with rfl|⟨rs,p,rfl⟩
  .exact .inr (.inl ⟨w,rfl⟩)
  .exact .inr (.inr ⟨rs,p,w,by simp⟩)
def D3A(x:IdD)(u:A0a):Option A0a:=(A2p x u).dropLast.getLast?
def D1q(x:IdD)(u:A0a):AV:=match D3A x u with
 |none=>.tuple [.agg [I 0,I 0,I 0],I (-1),B false]
 |some p=>.tuple [.agg p.id.row,I (A3t (λk=>(A0U x k).isSome) p.kids 0),B true]
mutual
def C1K(x:IdD):∀u:A0a,∀v∈A2p x u,v∈A3X u
 |.mk id k l h w ks,v,hv=>by
  rw[A2p]at hv;rw[A3X];split at hv
  .simp only[Z1k]at hv;subst hv;simp
  .split at hv
   .simp at hv
   .rename_i r rs e;rcases Z0u.1 hv with rfl|hv
    .simp
    .exact Z1I _ (B8G x ks v (by rw[e];exact hv))
def B8G(x:IdD):∀ks:List A0a,∀v∈A4I x ks,v∈A6g ks
 |[],v,hv=>by rw[A4I]at hv;simp at hv
 |k::ks,v,hv=>by
  rw[A4I]at hv;rw[A6g];split at hv
  .exact Z2F _ (B8G x ks v hv)
  .rename_i r rs e;exact Z2d _ (C1K x k v (by rw[e];exact hv))
end
section
variable (gl:Nat->AV)
def C1J(u:A0a)(x:IdD)(M:Mem)(hf:Fit u):A0e (WC gl) 34 [.agg u.row,.agg x.row] M (λv M'=>v=D1q x u/\M'=M):=by
 refine A0e.dataX ?_;have hx:x.row=[I x.act,I x.item,I x.n]:=rfl;obtain⟨z3,a2⟩:∃z3,z3=A0j.cells 23 [I 0,I 0,I 0]:=⟨_,rfl⟩;obtain⟨Ma,j⟩:∃Ma,Ma=M++[z3]:=⟨_,rfl⟩;have m:Grow M Ma:=by rw[j];exact A0c.app none _ _
 have h:Ma[M.length]?=some (A0j.cells 23 [I 0,I 0,I 0]):=by rw[j,a2];simp
 have q:M.length<Ma.length:=(Z0b.1 h).1;have g:=B1s gl u x Ma hf.1 hf.2.2;have z:=A9O x u;have ae:=hf.2.2;have a1:=C1K x u;unfold D1q D3A;rw[u.row_eq,hx]at g|-;refine A0m hB func34 ?_;simp -dsimp -implicitDefEqProofs[A0k];rw[<-a2,<-j];refine A0g func88 g ?_;generalize hr:A2p x u=r at*;rcases D8O r with rfl|⟨w,rfl⟩|⟨rs,p,w,rfl⟩
 .simp -dsimp -implicitDefEqProofs[A6N,A0f h,A0L,A0K,A0v q,A0h];exact⟨A1g m (Z0n _),.same (by simp[bdd,A1K]) .nil⟩
 .have a9:A0u [w]=[w.row]:=by rw[A0u,A0u]
  simp -dsimp -implicitDefEqProofs[A6N,a9,A0f h,A0L,A0K,A0v q,A0h];exact⟨A1g m (Z0n _),.same (by simp[bdd,A1K]) .nil⟩
 .have a5:A6N (rs++[p,w])=.list 8 (A0u (rs++[p,w])) .no:=by rw[<-hr];exact B6c (by rw[hr];simp)
  have hi:rs.length<(rs++[p,w]).length:=by simp
  have aa:(A0u (rs++[p,w]))[rs.length]?=some p.row:=by rw[A9T _ _ hi];simp
  have w1:IntKind.i64.wrap (rs.length:Int)=rs.length:=by rw[A0Z (by omega) (by simp at z;omega)]
  have a4:¬(rs.length:Int)+2<2:=by omega
  have y:(rs.length:Int)<rs.length+2:=by omega
  have i:=C3i u hf p (a1 p (by simp));obtain⟨M2,o⟩:∃M2,M2=Ma++[A0j.cells 27 p.row]:=⟨_,rfl⟩;have a0:Grow Ma M2:=by rw[o];exact A0c.app none _ _
  have l:M2[Ma.length]?=some (A0j.cells 27 p.row):=by rw[o];simp
  have s:=a0.get h (by simp);have a3:M.length<M2.length:=(Z0b.1 s).1;have ab:=A2q p.kids;have ad:A0x p.kids<A0o p:=by obtain⟨a,b,c,d,e,f⟩:=p;rw[A0o];show A0x f<_;omega
  have ac:=i.2.2;have a7:=((A0a.good_iff _).1 i.1).2.2.2.2.2.2.2.2;have a6:=A3E.1 (A3r _ i.2.1).2;have t:=C9C gl (λk=>(A0U x k).isSome) 91 [.cptr [I x.act,I x.item,I x.n]] p.kids .no M2 (by omega) (λk hk=>A1T func91 rfl rfl (D6y gl k x M2 ⟨a7 k hk,a6 k hk,by have:=A4j hk;omega⟩));rw[a5];simp -dsimp -implicitDefEqProofs[a4,w1,aa,y,A0k,A0l,A0d,A0L,A0K];rw[<-o];rw[A0a.row_eq]at l;simp -dsimp -implicitDefEqProofs[A0b l];refine A0g func90 t ?_;have a8:p.id.row=[I p.id.act,I p.id.item,I p.id.n]:=rfl;simp -dsimp -implicitDefEqProofs[A0b l,A0f s,A0L,A0K,A0v a3,A0h,a8];exact⟨A1g (m.trans a0) (Z0n _),.same (by simp[bdd,A1K]) .nil⟩
end
end
def kl2(x k:A0a):Bool:=decide (k.kind=x.kind)&&decide (k.label=x.label)
def D8f:IntKind.i64.wrap (-1)=-1:=by decide
def B5r(p x:A0a):Int:=if A4v p.kind x.kind=false then 9 else if p.kids.any (kl2 x)=true then 10 else 0
section
variable (gl:Nat->AV)
def D2d(k x:A0a)(M:Mem):A0e (WC gl) 355 [.agg k.row,.cptr x.row] M (λv M'=>v=B (kl2 x k)/\M'=M):=by
 rw[k.row_eq,x.row_eq];refine A0m hB func355 ?_;by_cases h1:k.kind=x.kind
 .by_cases h2:k.label=x.label
  .simp -dsimp -implicitDefEqProofs[kl2,h1,h2]
  .have h3:¬x.label=k.label:=λh=>h2 h.symm;simp -dsimp -implicitDefEqProofs[kl2,h1,h2,h3]
 .have h3:¬x.kind=k.kind:=λh=>h1 h.symm;simp -dsimp -implicitDefEqProofs[kl2,h1,h3]
def D3g(a:gl 0=A2u)(p x:A0a)(M:Mem)(hp:p.kids.length<=1000):A0e (WC gl) 284 [.agg p.row,.agg x.row] M (λv M'=>v=I (B5r p x)/\M'=M):=by
 have h2:=D6H gl (kl2 x) 355 [.cptr x.row] p.kids .no M hp (λk _=>A1T func355 rfl rfl (D2d gl k x M));rw[x.row_eq]at h2|-;rw[p.row_eq];refine A0m hB func284 ?_;simp -dsimp -implicitDefEqProofs;refine A0g func152 (A8X gl M a p.kind x.kind) ?_;unfold B5r;cases h:A4v p.kind x.kind
 .simp -dsimp -implicitDefEqProofs
 .simp -dsimp -implicitDefEqProofs;refine A0g func354 h2 ?_;cases p.kids.any (kl2 x)<;>simp -dsimp -implicitDefEqProofs
def D9s(u:A0a)(x:IdD)(M:Mem)(hf:Fit u)(i:u.id=x):A0e (WC gl) 334 [.agg u.row,.agg x.row] M (λv M'=>v=A0E/\M'=M):=by
 have hx:x.row=[I x.act,I x.item,I x.n]:=rfl;have g:=B1s gl u x M hf.1 hf.2.2;have hr:A2p x u=[u]:=by obtain⟨a,b,c,d,e,f⟩:=u;rw[A2p];exact Z0d i
 have h:A0u [u]=[u.row]:=by rw[A0u,A0u]
 rw[hr]at g;rw[u.row_eq,hx]at g|-;refine A0m hB func334 ?_;simp -dsimp -implicitDefEqProofs;refine A0g func88 g ?_;simp -dsimp -implicitDefEqProofs[A6N,h];refine A0F hB 0 7 (λT M1=>M1=M/\T 5=A0E/\T 7=I (-1)) ?_ ?_
 .simp[D8f]
 .rintro T M1 ⟨rfl,t5,t7⟩;simp -dsimp -implicitDefEqProofs[t5,t7]
def D5X(u x:A0a)(M:Mem)(hf:Fit u)(c:Fit x):A0e (WC gl) 285 [.agg u.row,.agg u.id.row,.agg x.row] M (λv M'=>v=B (decide (8<A1R x+1))/\M'=M):=by
 have hx:u.id.row=[I u.id.act,I u.id.item,I u.id.n]:=rfl;have a:=λM=>D9s gl u u.id M hf rfl;have b:=λM=>(B8m gl x M c.1 c.2.2).mono (Q':=λv M'=>v=I (A1R x)/\M'=M) (λv M' h=>by obtain⟨⟨_,rfl,rfl⟩,rfl⟩:=h;exact⟨rfl,rfl⟩);have e:=B9z x;have d:=c.2.2;rw[u.row_eq,hx]at a|-;rw[x.row_eq]at b|-;refine A0m hB func285 ?_;simp -dsimp -implicitDefEqProofs;refine A1v hB (A0I gl) (λ_=>0) (λ_=>0) (by rfl) (by kernel_rfl) ?_;simp -dsimp -implicitDefEqProofs;refine A2F func334 a ?_;simp -dsimp -implicitDefEqProofs;refine A2F func157 b ?_;have w1:IntKind.i64.wrap (1+(A1R x:Int))=1+A1R x:=by rw[A0Z (by omega) (by omega)]
 simp -dsimp -implicitDefEqProofs[w1];rw[show IntKind.i64.wrap 1=1 by decide,w1];omega
def D5F(p:IdD->Bool)(g:FuncId)(cap:List AV)(l:List IdD)(o:Own)(M:Mem)(hl:l.length<=1000)(hp:∀x∈l,A3V (WC gl) g (.agg x.row::cap) M (λv M'=>v=B (p x)/\M'=M)):
 A0e (WC gl) 123 [.list 3 (A4m l) o,.func (.func g) [] cap] M (λv M'=>v=I (A3t p l 0)/\M'=M):=by
 refine A0m hB func123 ?_
 simp -dsimp -implicitDefEqProofs
 refine A0F hB l.length 8 (λT M1=>∃i:Nat,i<=l.length/\M1=M/\T 0=.list 3 (A4m l) o/\T 1=.func (.func g) [] cap/\T 7=I l.length/\T 8=I i/\A3t p l 0=A3t p (l.drop i) i) ?_ ?_
 .exact⟨0,by omega,rfl,by simp,by simp,by simp,by simp,by simp⟩
 .rintro T M1 ⟨i,i1,rfl,t0,t1,t7,t8,ho⟩;by_cases hi:i<l.length
  ·(have a:(i:Int)<l.length:=by omega);have w1:=A2s (i:=i) (by omega)
   have hd:l.drop i=l[i]::l.drop (i+1):=Z0l hi;(have b:(A4m l)[i]?=some l[i].row:=by simp[A4m,hi]);rw[hd,A3t]at ho;simp -dsimp -implicitDefEqProofs[t0,t1,t7,t8,hi,a,b];refine A4o (hp l[i] (Z0y hi)) ?_;rintro _ _ ⟨rfl,rfl⟩;cases hq:p l[i]
   .rw[hq,Z0e (by simp)]at ho;simp -dsimp -implicitDefEqProofs[t0,t1,t7,t8,w1];exact⟨⟨i+1,by clear w1;omega,rfl,ho⟩,by clear w1;omega⟩
   .rw[hq,Z0d rfl]at ho;simp -dsimp -implicitDefEqProofs[t0,t1,t7,t8,ho]
  ·(have a:¬(i:Int)<l.length:=by omega);rw[show l.drop i=[]from Z0x (by omega)]at ho
   simp -dsimp -implicitDefEqProofs[t0,t1,t7,t8,a,ho,A3t]
def D6F(p:IdD->Bool)(g:FuncId)(cap:List AV)(l:List IdD)(o:Own)(M:Mem)(hl:l.length<=1000)(hp:∀x∈l,A3V (WC gl) g (.agg x.row::cap) M (λv M'=>v=B (p x)/\M'=M)):
 A0e (WC gl) 68 [.list 3 (A4m l) o,.func (.func g) [] cap] M (λv M'=>v=B (l.any p)/\M'=M):=by
 refine A0m hB func68 ?_
 simp -dsimp -implicitDefEqProofs
 refine A0g func123 (D5F gl p g cap l o M hl hp) ?_
 rw[<-A7Z _ l 0]
 simp -dsimp -implicitDefEqProofs
def C4b(l:List IdD)(o:Own)(x:IdD)(M:Mem)(hl:l.length<=1000):A0e (WC gl) 356 [.list 3 (A4m l) o,.agg x.row] M (λv M'=>v=I (A3t (λy:IdD=>decide (y=x)) l 0)/\M'=M):=by
 have hx:x.row=[I x.act,I x.item,I x.n]:=rfl;rw[hx];refine A0m hB func356 ?_;simp -dsimp -implicitDefEqProofs;refine A0F hB l.length 8 (λT M1=>∃i:Nat,i<=l.length/\M1=M/\T 0=.list 3 (A4m l) o/\T 3=.cptr [I x.act,I x.item,I x.n]/\T 7=I l.length/\T 8=I i/\A3t (λy:IdD=>decide (y=x)) l 0=A3t (λy:IdD=>decide (y=x)) (l.drop i) i) ?_ ?_
 .exact⟨0,by omega,rfl,by simp,by simp,by simp,by simp,by simp⟩
 .rintro T M1 ⟨i,i1,rfl,t0,t3,t7,t8,ho⟩;by_cases hi:i<l.length
  ·(have a:(i:Int)<l.length:=by omega);have w1:=A2s (i:=i) (by omega)
   have hd:l.drop i=l[i]::l.drop (i+1):=Z0l hi;(have b:(A4m l)[i]?=some l[i].row:=by simp[A4m,hi]);have hy:l[i].row=[I l[i].act,I l[i].item,I l[i].n]:=rfl;have he:=B4h x l[i];rw[hd,A3t]at ho;simp -dsimp -implicitDefEqProofs[t0,t3,t7,t8,hi,a];refine A1v hB (A0I gl) (λ_=>0) (λ_=>0) (by rfl) (by kernel_rfl) ?_;simp -dsimp -implicitDefEqProofs[t0,t3,t7,t8,hi,a,b,hy,he];by_cases hq:l[i]=x
   .rw[Z0w hq,Z0d rfl]at ho;simp -dsimp -implicitDefEqProofs[t0,t3,t7,t8,ho,hq]
   .rw[Z0z hq,Z0e (by simp)]at ho;have c:¬x=l[i]:=λh=>hq h.symm;simp -dsimp -implicitDefEqProofs[t0,t3,t7,t8,w1,c];exact⟨⟨i+1,by clear w1;omega,rfl,ho⟩,by clear w1;omega⟩
  ·(have a:¬(i:Int)<l.length:=by omega);rw[show l.drop i=[]from Z0x (by omega)]at ho
   simp -dsimp -implicitDefEqProofs[t0,t3,t7,t8,a,ho,A3t]
def C8t(l:List IdD)(o:Own)(x:IdD)(M:Mem)(hl:l.length<=1000):A0e (WC gl) 287 [.list 3 (A4m l) o,.agg x.row] M (λv M'=>v=B (l.any λy=>decide (y=x))/\M'=M):=by have hx:x.row=[I x.act,I x.item,I x.n]:=rfl;have a:=C4b gl l o x M hl;rw[hx]at a|-;refine A0m hB func287 ?_;simp -dsimp -implicitDefEqProofs;refine A0g func356 a ?_;rw[<-A7Z _ l 0];simp -dsimp -implicitDefEqProofs
def C7A(l:List IdD)(x:IdD)(b:Nat)(M:Mem)(hl:l.length<=1000)(hb:M[b]?=some (.cells 85 [.list 3 (A4m l) .no])):A0e (WC gl) 286 [.agg x.row,.ptr b 0] M (λv M'=>v=B (l.any λy=>decide (y=x))/\M'=M):=by have hx:x.row=[I x.act,I x.item,I x.n]:=rfl;have a:=C8t gl l .no x M hl;rw[hx]at a|-;refine A0m hB func286 ?_;simp -dsimp -implicitDefEqProofs[A0b hb];refine A0g func287 a ?_;simp -dsimp -implicitDefEqProofs
end
def A3Q(act item:Int):Nat->List ByteArray->List A0M
 |_,[]=>[]
 |n,s::l=>⟨s,act,item,n⟩::A3Q act item (n+1) l
@[simp] def A9w(b a:Int):∀(l:List ByteArray) (n:Nat),(A3Q b a n l).length=l.length
 |[],_=>rfl
 |s::l,n=>by simp[A3Q,A9w b a l (n+1)]
def C1l(d c:Int):∀(a b:List ByteArray) (n:Nat),A3Q d c n (a++b)=A3Q d c n a++A3Q d c (n+a.length) b
 |[],b,n=>by simp[A3Q]
 |s::a,b,n=>by rw[Z1g,A3Q,C1l d c a b (n+1),A3Q,Z1g,Z0v,show n+1+a.length=n+(a.length+1)by omega]
def B3m(b a:Int):∀(l:List ByteArray) (n:Nat),A0H (A3Q b a n l)=l
 |[],_=>rfl
 |s::l,n=>by have:=B3m b a l (n+1);simp only[A0H]at this|-;rw[A3Q,Z0t,this]
section
variable (gl:Nat->AV)
def C7I(ws:List A0M)(o:Own)(M:Mem)(hl:ws.length<=100000000):A0e (WC gl) 388 [.list 4 (A0i ws) o] M (λv M'=>v=.list 1 (A1c (A0H ws)) .no/\M'=M):=by
 refine A0e.dataX ?_;refine A0m (hQ [16]) func388 ?_;simp -dsimp -implicitDefEqProofs;refine A0F (hQ [16]) ws.length 8 (λT M1=>∃i:Nat,i<=ws.length/\T 0=.list 4 (A0i ws) o/\T 6=.list 4 (A0i ws) o/\T 7=I ws.length/\T 8=I i/\A1l 9 1 A6I M1 (T 3) (A0H (ws.take i))/\Grow M M1/\A1m M.length (T 3)) ?_ ?_
 .exact⟨0,by omega,by simp,by simp,by simp,by simp,by simpa[A0H]using A1l.nil,Grow.refl _,by simp[A1m]⟩
 rintro T M1 ⟨i,i1,t0,t6,t7,t8,hv,hg,hL⟩;by_cases hi:i<ws.length
 .have a:(i:Int)<ws.length:=by omega
  have w1:IntKind.i64.wrap ((i:Int)+1)=(i+1:Nat):=by rw[A0Z (by omega) (by omega)];omega
  generalize c:T 3=ov at*;have d:(M1++[A0j.cells 152 [S ws[i].text,I ws[i].act,I ws[i].item,I ws[i].at_]])[M1.length]?=some (A0j.cells 152 [S ws[i].text,I ws[i].act,I ws[i].item,I ws[i].at_]):=by simp
  have b:A1l 9 1 A6I (M1++[A0j.cells 152 [S ws[i].text,I ws[i].act,I ws[i].item,I ws[i].at_]]) ov (A0H (ws.take i)):=hv.keep (A0c.app none M1 _) (by simp);have ht:A0H (ws.take (i+1))=A0H (ws.take i)++[ws[i].text]:=by rw[A0H,A0H,Z1H,Z0k hi,Z0S];rfl
  simp -dsimp -implicitDefEqProofs[t0,t6,t7,t8,hi,a,c,A0k,A0l,A0d,A0M.row,A0b d,A0q,A1f];refine A4C (C:=WC gl) (enc:=A6I) (e:=9) (sz:=1) (news:=[ws[i].text]) A8j B0S B8l (λ_=>rfl) b (by simp[A0A]) (by simp[A0H];omega) rfl ?_;intro v' M' h1 h2 h3 _;obtain⟨k1,k2⟩:=A2V hg hL h2 h3;simp -dsimp -implicitDefEqProofs[t0,t6,t7,t8,w1];exact⟨⟨i+1,by clear w1;omega,rfl,by rw[ht];exact h1,k1,k2⟩,by clear w1;omega⟩
 .have a:¬(i:Int)<ws.length:=by omega
  rw[Z0j (by omega)]at hv;simp -dsimp -implicitDefEqProofs[t0,t6,t7,t8,a];refine⟨hg,?_⟩;have:=A3P (enc:=A6I) (λ_=>rfl) (λn x=>by simp[A1K,bdd]) hv hL;exact this
def C7R(l:List ByteArray)(o:Own)(b a:Int)(n:Nat)(M:Mem)(hl:l.length<=100000000)(hn:n<=1000000000):A0e (WC gl) 296 [.list 1 (A1c l) o,I b,I a,I n] M (λv M'=>v=.list 4 (A0i (A3Q b a n l)) .no/\M'=M):=by
 refine A0e.dataX ?_;refine A0m (hQ [29]) func296 ?_;simp -dsimp -implicitDefEqProofs;refine A0F (hQ [29]) l.length 14 (λT M1=>∃i:Nat,i<=l.length/\T 1=I b/\T 2=I a/\T 3=I n/\T 12=.list 1 (A1c l) o/\T 13=I l.length/\T 14=I i/\A1l 152 4 A0M.row M1 (T 9) (A3Q b a n (l.take i))/\Grow M M1/\A1m M.length (T 9)) ?_ ?_
 .exact⟨0,by omega,by simp,by simp,by simp,by simp,by simp,by simp,by simpa[A3Q]using A1l.nil,Grow.refl _,by simp[A1m]⟩
 rintro T M1 ⟨i,i1,t1,t2,t3,g,d,f,hv,hg,hL⟩;by_cases hi:i<l.length
 .have c:(i:Int)<l.length:=by omega
  have w1:IntKind.i64.wrap ((i:Int)+1)=(i+1:Nat):=by rw[A0Z (by omega) (by omega)];omega
  have w2:IntKind.i64.wrap ((n:Int)+i)=(n:Int)+i:=by rw[A0Z (by omega) (by omega)]
  generalize j:T 9=ov at*;have h:(A1c l)[i]?=some [S l[i]]:=by simp[A1c,hi]
  have ht:A3Q b a n (l.take (i+1))=A3Q b a n (l.take i)++[⟨l[i],b,a,(n:Int)+i⟩]:=by rw[Z1H,Z0k hi,C1l];simp[A3Q,Z1y (Nat.le_of_lt hi)]
  have m:A0D prog 150 [(0,I b),(1,I a),(2,I ((n:Int)+i))]=some (.agg [I b,I a,I ((n:Int)+i)]):=by simp[A0D,A1k,A1E,A0d,AV.cells,AV.storable]
  have k:A0D prog 152 [(0,S l[i]),(1,.agg [I b,I a,I ((n:Int)+i)])]=some (.agg [S l[i],I b,I a,I ((n:Int)+i)]):=by simp[A0D,A1k,A1E,A0d,AV.cells,AV.storable]
  simp -dsimp -implicitDefEqProofs[t1,t2,t3,g,d,f,hi,c,h,j,w2,m,k,A0q,A1f,AV.storable,AV.cells];refine A4C (C:=WC gl) (enc:=A0M.row) (e:=152) (sz:=4) (news:=[⟨l[i],b,a,(n:Int)+i⟩]) C1Z C9U C3G (λ_=>rfl) hv (by simp[A0A,A0M.row]) (by simp;omega) rfl ?_;intro v' M' h1 h2 h3 _;obtain⟨k1,k2⟩:=A2V (X:=[]) hg hL (by simpa using h2) (by simpa using h3);simp -dsimp -implicitDefEqProofs[t1,t2,t3,g,d,f,w1];exact⟨⟨i+1,by clear w1;omega,rfl,by rw[ht];exact h1,k1,k2⟩,by clear w1;omega⟩
 .have c:¬(i:Int)<l.length:=by omega
  rw[Z0j (by omega)]at hv;simp -dsimp -implicitDefEqProofs[t1,t2,t3,g,d,f,c];refine⟨hg,?_⟩;exact A3P (enc:=A0M.row) (λ_=>rfl) A6z hv hL
end
abbrev A8m(act item:Int)(n w:Nat):A0j:=.cells 339 [I act,I item,I n,I w]
section
variable (gl:Nat->AV)
def C1F(ws:List A0M)(o:Own)(c a:Int)(n w b:Nat)(M:Mem)(hl:ws.length<=100000000)(hw:w<=1000000000)(hb:M[b]?=some (A8m c a n w)):A0e (WC gl) 385 [.ptr b 0,.list 4 (A0i ws) o] M (λv M'=>v=.list 4 (A0i (A3Q c a w (A0H ws))) .no/\M'=M.set b (A8m c a n (w+ws.length))):=by
 have hs:=λM=>C7I gl ws o M hl
 have hm:=λM=>C7R gl (A0H ws) .no c a w M (by simpa[A0H]using hl) hw
 have w1:IntKind.i64.wrap ((w:Int)+ws.length)=(w:Int)+ws.length:=by rw[A0Z (by omega) (by omega)]
 have d:(A0H ws).length=ws.length:=by simp[A0H]
 refine A0m hB func385 ?_
 simp -dsimp -implicitDefEqProofs
 refine A1v hB (A0I gl) (λk=>if k=5\/k=9\/k=13 then 1 else 0) (λ_=>b) (by rfl) (by kernel_rfl) ?_
 simp -dsimp -implicitDefEqProofs
 refine A2F func388 hs ?_
 simp -dsimp -implicitDefEqProofs[A0b hb,A0R,A7f]
 refine A2F func296 hm ?_
 simp -dsimp -implicitDefEqProofs[A0b hb,A0f hb,d,w1,A8m]
end
mutual
def wcU:A0a->Nat
 |.mk _ _ _ h ws ks=>h.length+ws.length+wcL ks
def wcL:List A0a->Nat
 |[]=>0
 |k::ks=>wcU k+wcL ks
end
mutual
def A1U(a i:Int):A0a->Nat->Nat->A0a
 |.mk _ k l h ws ks,n,w=>.mk ⟨a,i,(n+1:Nat)⟩ k l (A3Q a i w (A0H h)) (A3Q a i (w+h.length) (A0H ws)) (A2f a i ks (n+1) (w+h.length+ws.length))
def A2f(a i:Int):List A0a->Nat->Nat->List A0a
 |[],_,_=>[]
 |k::ks,n,w=>A1U a i k n w::A2f a i ks (n+A0o k) (w+wcU k)
end
def A9P(a i:Int):∀(ks:List A0a) (n w:Nat),(A2f a i ks n w).length=ks.length
 |[],_,_=>by simp[A2f]
 |k::ks,n,w=>by rw[A2f,Z0v,A9P a i ks,Z0v]
def B8X(a i:Int):∀(xs ys:List A0a) (n w:Nat),A2f a i (xs++ys) n w=A2f a i xs n w++A2f a i ys (n+A0x xs) (w+wcL xs)
 |[],ys,n,w=>by simp[A2f,A0x,wcL]
 |x::xs,ys,n,w=>by rw[Z1g,A2f,B8X a i xs ys,A2f,A0x,wcL,Z1g];simp only[Z2m]
def A7J:∀(xs ys:List A0a),A0x (xs++ys)=A0x xs+A0x ys
 |[],ys=>by rw[A0x];simp
 |x::xs,ys=>by rw[Z1g,A0x,A0x,A7J xs ys];omega
def C9m:∀(xs ys:List A0a),wcL (xs++ys)=wcL xs+wcL ys
 |[],ys=>by rw[wcL];simp
 |x::xs,ys=>by rw[Z1g,wcL,wcL,C9m xs ys];omega
def C9f:∀{ks:List A0a} {i:Nat} (h:i<ks.length),wcL (ks.take i)+wcU ks[i]<=wcL ks
 |k::ks,0,h=>by simp[wcL]
 |k::ks,i+1,h=>by have:=C9f (ks:=ks) (i:=i) (by simpa using h);simp only[Z0A,wcL,Z2U];omega
def C4p{M:Mem}{v:AV}{l:List A0a}(h:A1l 27 8 A0a.row M v l){i:Nat}(hi:i<l.length)(y:A0a):∃f g M',v=.vref f g 8 0 l.length/\A1D prog 27 M (.vptr f g (i*8))=some (.agg l[i].row)/\A0l (some 8) M (.vptr f g (i*8)) (.agg y.row)=some M'/\A1l 27 8 A0a.row M' v (l.set i y)/\M'.length=M.length/\∀j,j≠f->M'[j]?=M[j]?:=by
 have e:=h.at_ (P:=prog) (t:=27) A0a.row_len D7u D8o hi
 rcases h with⟨rfl,rfl⟩|⟨f,g,b,rfl,hm,hl⟩
 .simp at hi
 have d:f<M.length:=(Z0b.1 hm).1
 have a:l=l.take i++l[i]::l.drop (i+1):=by rw[<-Z0l hi,Z0X]
 have c:((l.take i).flatMap A0a.row).length=i*8:=by rw[A3n A0a.row_len,Z0B,Z1y (by omega)]
 have k:A0d (l.flatMap A0a.row) (i*8) y.row=(l.set i y).flatMap A0a.row:=by
  have e1:l.set i y=l.take i++y::l.drop (i+1):=Z3m.trans (Z0d hi);rw[e1,Z1s,Z1a];unfold A0d
  conv=>lhs;rw[a]
  rw[Z1s,Z1a,Z1Z (by omega),Z0j (by omega),Z0W];congr 2;rw[Z3t,c,Z1S (by rw[c];simp),Z1Y,A0a.row_len,Z2h,Z3t,A0a.row_len,Z4q,Z1S (by simp)];rfl
 refine⟨f,g,M.set f (.vec 27 8 ((l.set i y).flatMap A0a.row) g (A1s 8 g (i*8) b)),rfl,?_,?_,.inr ⟨f,g,A1s 8 g (i*8) b,by simp,by simp[d],?_⟩,by simp,λj hj=>Z0f (by omega)⟩
 .obtain⟨p,e1,_,e2,_⟩:=e;simp[hi]at e1;rw[<-e1]at e2;exact e2
 .simp only[A0l,hm,hl];rw[Z0d (by simp[AV.storable,AV.cells];omega)];simp only[AV.cells];rw[k]
 .unfold A1s;rw[Z1l];exact A4k _ hl
def D5z:B6Q prog 27=some 120:=by kernel_rfl
def C7y{ks:List A0a}{M:Mem}(hl:ks.length<=1000):∃zs,A4f prog 25 (I ks.length) (I ks.length) M=some (.vref M.length 0 8 0 ks.length,M++[.vec 27 8 zs 0 [(0,ks.length)]])/\A5o prog 25 25 (M++[.vec 27 8 zs 0 [(0,ks.length)]]) (.vref M.length 0 8 0 ks.length) (.list 8 (A0u ks) .no)=some (I ks.length,M++[.vec 27 8 (ks.flatMap A0a.row) 0 [(0,ks.length)]]):=by
 have hz:((List.replicate ks.length (zU)).flatten).length=ks.length*8:=by simp[List.length_flatten,zU]
 refine⟨(List.replicate ks.length zU).flatten,?_,?_⟩
 .have h1:(ks.length:Int).toNat*8<=16777216:=by omega
  have h2:ks.length*8<=16777216:=by omega
  have h3:(120:Int)*ks.length<=281474976710656:=by omega
  simp[A4f,zU,D5z,h2,h3]
 .have a:(ks.flatMap A0a.row).length=ks.length*8:=A3n A0a.row_len ks;have c:A0d (List.replicate ks.length zU).flatten 0 (ks.flatMap A0a.row)=ks.flatMap A0a.row:=by unfold A0d;rw[Z2r,Z1Y,Z0G,Z1S (by rw[hz,a];exact Z0n _),Z1D]
  have b:(M++[A0j.vec 27 8 (List.replicate ks.length zU).flatten 0 [(0,ks.length)]])[M.length]?=some (.vec 27 8 (List.replicate ks.length zU).flatten 0 [(0,ks.length)]):=by simp
  have hu:=E5T;simp only[A5o,A8T,D8o,A0A,B2g,A9Q,b,List.lookup,Z2M];by_cases h0:ks.length=0
  .have:ks=[]:=Z0s h0;subst this;simp
  .simp only[Z2l,c];simp[h0,A1s,a,-List.length_flatMap]
def C8l{o:Option Nat}{M0 M:Mem}(h:A0c o M0 M):A0c o M0 (A5p M M0.length):=by refine⟨by simpa using h.1,λi hi ho=>?_⟩;have h2:=h.2 i hi ho;rw[<-h2];have:i<M.length:=Z1n hi h.1;rw[Z0k this];exact A8g (Z0k this) λ_ _ _ _ _ _=>hi
def D5y{α:Type}(xs ys:List α)(x y:α):(xs++x::ys).set xs.length y=xs++y::ys:=by simp
def Still.any{M:Mem}{n:Nat}{ok:AV->Prop}{a d:List AV}(h:Still M n ok a d):Still M n (λ_=>True) a d:=by
 induction h with
 |nil=>exact .nil
 |same _ _ ih=>exact .same trivial ih
 |nilS _ ih=>exact .nilS ih
 |vec h1 h2 h3 h3' h4 h5 _ _ ih1 ih2=>exact .vec h1 h2 h3 h3' h4 h5 ih1 ih2
 |dis _ _ ih=>exact .dis trivial ih
 |agg _ _ ih1 ih2=>exact .agg ih1 ih2
 |tuple _ _ ih1 ih2=>exact .tuple ih1 ih2
structure TrM (M Mi:Mem) (b c:Nat) (sb:A0j) (cc:List AV):Prop where
 kb:A0c (some b) M Mi
 hb:Mi[b]?=some sb
 hc:Mi[c]?=some (.cells 27 cc)
 hr:Mi[c+1]?=some z8
section
variable {M Mi:Mem} {b c:Nat} {sb:A0j} {cc:List AV}
def TrM.setb(h:TrM M Mi b c sb cc)(a:b<c)(s':A0j):TrM M (Mi.set b s') b c s' cc:=by have hl:=(Z0b.1 h.hb).1;exact⟨h.kb.trans (A0c.set _ _ _),by simp[hl],by rw[Z0f (by omega)];exact h.hc,by rw[Z0f (by omega)];exact h.hr⟩
def TrM.setc(h:TrM M Mi b c sb cc)(a:b<c)(d:M.length<=c)(c':List AV):TrM M (Mi.set c (.cells 27 c')) b c sb c':=by have hl:=(Z0b.1 h.hc).1;refine⟨⟨by simpa using h.kb.1,λi hi ho=>by rw[Z0f (by omega)];exact h.kb.2 i hi ho⟩,by rw[Z0f (by omega)];exact h.hb,by simp[hl],by rw[Z0f (by omega)];exact h.hr⟩
def TrM.app(h:TrM M Mi b c sb cc)(X:Mem):TrM M (Mi++X) b c sb cc:=by have hk:Grow Mi (Mi++X):=A0c.app none _ _;exact⟨h.kb.trans hk.of_none,hk.get h.hb (by simp),hk.get h.hc (by simp),hk.get h.hr (by simp)⟩
end
def hTr:A2r:=⟨λd=>d !=3,λ_=>false,λ_=>false⟩
@[simp] def E4F:hTr.imm=λd=>d !=3:=rfl
def E1f{a b c:Int}:A0D prog 23 [(0,I a),(1,I b),(2,I c)]=some (.agg [I a,I b,I c]):=by simp[A0D,A1k,A1E,A0d,AV.cells,AV.storable]
section
variable (gl:Nat->AV)
set_option maxHeartbeats 1000000 in
def B8h:∀(u:A0a) (d a:Int) (n w b:Nat) (M:Mem),u.good->u.lims->A0o u<=1000->n+A0o u<=1000000->w+wcU u<=1000000000->M[b]?=some (A8m d a n w)->
 A0e (WC gl) 353 [.ptr b 0,.agg u.row] M (λv M'=>v=.agg (A1U d a u n w).row/\A0c (some b) M M'/\M'[b]?=some (A8m d a (n+A0o u) (w+wcU u)))
 |.mk id kind lab hd ws ks,d,a,n,w,b,M,hg,hlm,a7,hn,hw,hb=>by
  obtain⟨_,_,bh,_,b7,_,bb,b4,a8⟩:=(A0a.good_iff _).1 hg;have a8:∀k∈ks,k.good:=a8;obtain⟨⟨ac,a9,bj,-⟩,ab⟩:=A3r _ hlm;have ac:hd.length<=100000000:=ac;have a9:ws.length<=100000000:=a9;have ab:=A3E.1 ab;have bg:1+A0x ks<=1000:=by rwa[A0o]at a7
  have bi:n+(1+A0x ks)<=1000000:=by rwa[A0o]at hn
  have be:w+(hd.length+ws.length+wcL ks)<=1000000000:=by rwa[wcU]at hw
  have bf:=A2q ks;have am:(A0a.mk id kind lab hd ws ks).row=[I id.act,I id.item,I id.n,I kind,S lab,.list 4 (A0i hd) .no,.list 4 (A0i ws) .no,.list 8 (A0u ks) .no]:=by rw[A0a.row]
  refine A0e.stillN ?_;rw[am];have an:b<M.length:=(Z0b.1 hb).1;obtain⟨c,hc⟩:∃c,c=M.length:=⟨_,rfl⟩;obtain⟨M1,aa⟩:∃M1,M1=M++[A0j.cells 27 [I id.act,I id.item,I id.n,I kind,S lab,.list 4 (A0i hd) .no,.list 4 (A0i ws) .no,.list 8 (A0u ks) .no],z8]:=⟨_,rfl⟩;have f1:TrM M M1 b c (A8m d a n w) [I id.act,I id.item,I id.n,I kind,S lab,.list 4 (A0i hd) .no,.list 4 (A0i ws) .no,.list 8 (A0u ks) .no]:=by rw[aa,hc];exact⟨A0c.app _ _ _,by rw[Z0h an];exact hb,by simp,by simp[Z1h]⟩
  have m:b<c:=by omega
  have z:M.length<=c:=by omega
  have w1:IntKind.i64.wrap ((n:Int)+1)=(n:Int)+1:=by rw[A0Z (by omega) (by omega)]
  refine A0m hTr func353 ?_;simp -dsimp -implicitDefEqProofs[A0k];rw[<-aa,<-hc];clear aa;simp -dsimp -implicitDefEqProofs[A0b f1.hb,A0f f1.hb,w1];have f2:=f1.setb m (A8m d a (n+1) w);rw[show(A0j.cells 339 [I d,I a,I ((n:Int)+1),I w])=A8m d a (n+1) w by simp[A8m]];generalize M1.set b (A8m d a (n+1) w)=M2 at*;refine A1v hTr (A0I gl) (λk=>if k=3\/k=7\/k=11 then 1 else if k=14 then 2 else 0) (λ_=>b) (by rfl) (by kernel_rfl) ?_;simp -dsimp -implicitDefEqProofs[A0b f2.hb,A0R,A7f,E1f,A0f f2.hc];have f3:=f2.setc m z [I d,I a,I ((n:Int)+1),I kind,S lab,.list 4 (A0i hd) .no,.list 4 (A0i ws) .no,.list 8 (A0u ks) .no];generalize M2.set c (.cells 27 [I d,I a,I ((n:Int)+1),I kind,S lab,.list 4 (A0i hd) .no,.list 4 (A0i ws) .no,.list 8 (A0u ks) .no])=M3 at*;simp -dsimp -implicitDefEqProofs[A0b f3.hc];refine A0r func385 (C1F gl hd .no d a (n+1) w b M3 ac (by omega) f3.hb) ?_;rintro _ _ ⟨rfl,rfl⟩;have f4:=f3.setb m (A8m d a (n+1) (w+hd.length));generalize M3.set b (A8m d a (n+1) (w+hd.length))=M4 at*;obtain⟨g,a0⟩:∃g,g=A3Q d a w (A0H hd):=⟨_,rfl⟩;rw[<-a0];simp -dsimp -implicitDefEqProofs[A0f f4.hc];have f5:=f4.setc m z [I d,I a,I ((n:Int)+1),I kind,S lab,.list 4 (A0i g) .no,.list 4 (A0i ws) .no,.list 8 (A0u ks) .no];generalize M4.set c (.cells 27 [I d,I a,I ((n:Int)+1),I kind,S lab,.list 4 (A0i g) .no,.list 4 (A0i ws) .no,.list 8 (A0u ks) .no])=M5 at*;simp -dsimp -implicitDefEqProofs[A0b f5.hc];refine A0r func385 (C1F gl ws .no d a (n+1) (w+hd.length) b M5 a9 (by omega) f5.hb) ?_;rintro _ _ ⟨rfl,rfl⟩;have f6:=f5.setb m (A8m d a (n+1) (w+hd.length+ws.length));generalize M5.set b (A8m d a (n+1) (w+hd.length+ws.length))=M6 at*;obtain⟨l,a6⟩:∃l,l=A3Q d a (w+hd.length) (A0H ws):=⟨_,rfl⟩;rw[<-a6];simp -dsimp -implicitDefEqProofs[A0f f6.hc];have f7:=f6.setc m z [I d,I a,I ((n:Int)+1),I kind,S lab,.list 4 (A0i g) .no,.list 4 (A0i l) .no,.list 8 (A0u ks) .no];generalize M6.set c (.cells 27 [I d,I a,I ((n:Int)+1),I kind,S lab,.list 4 (A0i g) .no,.list 4 (A0i l) .no,.list 8 (A0u ks) .no])=M7 at*;obtain⟨zs,ar,aj⟩:=C7y (ks:=ks) (M:=M7) (by omega);have f8:=f7.app [A0j.vec 27 8 zs 0 [(0,ks.length)]];simp -dsimp -implicitDefEqProofs[A0b f7.hc,ar,A0b f8.hc,aj];have f9:=f7.app [A0j.vec 27 8 (ks.flatMap A0a.row) 0 [(0,ks.length)]];have ae:A1l 27 8 A0a.row (M7++[A0j.vec 27 8 (ks.flatMap A0a.row) 0 [(0,ks.length)]]) (.vref M7.length 0 8 0 ks.length) ks:=.inr ⟨M7.length,0,[(0,ks.length)],rfl,by simp,by simp[List.lookup]⟩;have b5:M.length<=M7.length:=f7.kb.1;have bd:c+1<M7.length:=(Z0b.1 f7.hr).1;obtain⟨f,hf⟩:∃f,f=M7.length:=⟨_,rfl⟩;rw[<-hf]at ae|-;generalize M7++[A0j.vec 27 8 (ks.flatMap A0a.row) 0 [(0,ks.length)]]=M9 at*;refine A6F (.exit 0) (λT Mi=>T 3=.ptr c 0/\T 4=.ptr (c+1) 0/\T 5=.vref f 0 8 0 ks.length/\A1l 27 8 A0a.row Mi (.vref f 0 8 0 ks.length) (A2f d a ks (n+1) (w+hd.length+ws.length))/\TrM M Mi b c (A8m d a (n+1+A0x ks) (w+hd.length+ws.length+wcL ks)) [I d,I a,I ((n:Int)+1),I kind,S lab,.list 4 (A0i g) .no,.list 4 (A0i l) .no,.list 8 (A0u ks) .no]) ?_ ?_
  .refine A0F hTr ks.length 48 (λT Mi=>∃j:Nat,j<=ks.length/\T 0=.ptr b 0/\T 3=.ptr c 0/\T 4=.ptr (c+1) 0/\T 5=.vref f 0 8 0 ks.length/\T 47=I ks.length/\T 48=I j/\A1l 27 8 A0a.row Mi (.vref f 0 8 0 ks.length) (A2f d a (ks.take j) (n+1) (w+hd.length+ws.length)++ks.drop j)/\TrM M Mi b c (A8m d a (n+1+A0x (ks.take j)) (w+hd.length+ws.length+wcL (ks.take j))) [I d,I a,I ((n:Int)+1),I kind,S lab,.list 4 (A0i g) .no,.list 4 (A0i l) .no,.list 8 (A0u ks) .no]) ?_ ?_
   .exact⟨0,by omega,by simp,by simp,by simp,by simp,by simp,by simp,by simpa[A2f]using ae,by simpa[A0x,wcL]using f9⟩
   clear f1 f2 f3 f4 f5 f6 f7 f8 f9 ae ar aj;rintro T Mi ⟨j,j1,t0,t3,t4,t5,ai,ag,o,fi⟩;by_cases hj:j<ks.length;case neg=>
    (have t:¬(j:Int)<ks.length:=by omega);rw[Z0j (by omega),Z0x (by omega),Z1D]at o
    rw[Z0j (by omega)]at fi;simp -dsimp -implicitDefEqProofs[t0,t3,t4,t5,ai,ag,t];exact⟨o,fi⟩
   (have t:(j:Int)<ks.length:=by omega);have p:ks[j]∈ks:=Z0y hj
   have bc:=A4j p;have:=A0a.kid_lt (u:=.mk id kind lab hd ws ks) p;have ba:=C9f hj;(have b6:A0x (ks.take j)+A0o ks[j]<=A0x ks:=by have:=A7J (ks.take j) (ks.drop j);rw[Z0X,Z0l hj,A0x]at this;omega);obtain⟨n',ah⟩:∃n',n'=n+1+A0x (ks.take j):=⟨_,rfl⟩;obtain⟨w',s⟩:∃w',w'=w+hd.length+ws.length+wcL (ks.take j):=⟨_,rfl⟩;have ad:=B8h ks[j] d a n' w' b Mi (a8 _ p) (ab _ p) (by omega) (by omega) (by omega) (by rw[ah,s];exact fi.hb);have b2:=A9P d a (ks.take j) (n+1) (w+hd.length+ws.length);(have b8:(ks.take j).length=j:=by rw[Z0B,Z1y (by omega)]);obtain⟨xs,ap⟩:∃xs,xs=A2f d a (ks.take j) (n+1) (w+hd.length+ws.length):=⟨_,rfl⟩;rw[<-ap]at o b2;(have ao:xs.length=j:=by omega);(have a5:(xs++ks.drop j).length=ks.length:=by simp;omega);(have ay:(xs++ks.drop j)[j]'(by omega)=ks[j]:=by rw[Z3d (by omega)];simp[ao]);obtain⟨f0,g0,-,e0,al,-,-,-,-⟩:=C4p o (i:=j) (by omega) ks[j];rw[a5]at e0;simp only[AV.vref.injEq,Z2n,Z1O]at e0;obtain⟨rfl,rfl⟩:=e0;rw[ay]at al;(have au:(xs++ks.drop j).set j (A1U d a ks[j] n' w')=A2f d a (ks.take (j+1)) (n+1) (w+hd.length+ws.length)++ks.drop (j+1):=by have e1:=D5y xs (ks.drop (j+1)) ks[j] (A1U d a ks[j] n' w');rw[ao]at e1;rw[Z0l hj,e1,Z1H,Z0k hj,B8X,<-ap];simp[A2f,ah,s]);(have a7:n'+A0o ks[j]=n+1+A0x (ks.take (j+1)):=by rw[Z1H,Z0k hj,A7J];simp[A0x,ah];omega);(have az:w'+wcU ks[j]=w+hd.length+ws.length+wcL (ks.take (j+1)):=by rw[Z1H,Z0k hj,C9m];simp[wcL,s];omega);simp -dsimp -implicitDefEqProofs[t0,t3,t4,t5,ai,ag,hj,t,al];refine A0r func353 ad ?_;rintro _ M3 ⟨rfl,k1,k2⟩;have b0:=o.keep k1 (λq hq e=>by simp at hq e;omega);obtain⟨f4,g4,M4,e4,-,af,aq,b9,y⟩:=C4p b0 (i:=j) (by omega) (A1U d a ks[j] n' w');rw[a5]at e4;simp only[AV.vref.injEq,Z2n,Z1O]at e4;obtain⟨rfl,rfl⟩:=e4;rw[au]at aq;have b1:TrM M M4 b c (A8m d a (n+1+A0x (ks.take (j+1))) (w+hd.length+ws.length+wcL (ks.take (j+1)))) [I d,I a,I ((n:Int)+1),I kind,S lab,.list 4 (A0i g) .no,.list 4 (A0i l) .no,.list 8 (A0u ks) .no]:=by
    have a1:=k1.1;have a2:=(Z0b.1 fi.hc).1;have a3:=(Z0b.1 fi.hr).1;have a4:=fi.kb.1;refine⟨⟨by omega,λq hq ho=>?_⟩,?_,?_,?_⟩
    .rw[y q (by omega),k1.2 q (by omega) ho];exact fi.kb.2 q hq ho
    .rw[y b (by omega),k2,a7,az]
    .rw[y c (by omega)];exact k1.get fi.hc (by simp;omega)
    .rw[y (c+1) (by omega)];exact k1.get fi.hr (by simp;omega)
   have w2:=A2s (i:=j) (by omega);simp -dsimp -implicitDefEqProofs[t0,t3,t4,t5,ai,ag,hj,t,af,w2];exact⟨⟨j+1,by clear w2;omega,rfl,aq,b1⟩,by clear w2;omega⟩
  .rintro T Mi ⟨t3,t4,t5,o,fi⟩;have r:=fi.setc m z [I d,I a,I ((n:Int)+1),I kind,S lab,.list 4 (A0i g) .no,.list 4 (A0i l) .no,.vref f 0 8 0 ks.length];have bk:=(Z0b.1 fi.hr).1;have aw:A1l 27 8 A0a.row (Mi.set c (.cells 27 [I d,I a,I ((n:Int)+1),I kind,S lab,.list 4 (A0i g) .no,.list 4 (A0i l) .no,.vref f 0 8 0 ks.length])) (.vref f 0 8 0 ks.length) (A2f d a ks (n+1) (w+hd.length+ws.length)):=o.keep (A0c.set _ _ _) (λq hq e=>by simp at hq e;omega);simp -dsimp -implicitDefEqProofs[t3,t4,t5,A0f fi.hc];generalize Mi.set c (.cells 27 [I d,I a,I ((n:Int)+1),I kind,S lab,.list 4 (A0i g) .no,.list 4 (A0i l) .no,.vref f 0 8 0 ks.length])=Mj at*;have ak:c+1<Mj.length:=(Z0b.1 r.hr).1;simp -dsimp -implicitDefEqProofs[t3,t4,t5,A0b r.hc,A0f r.hr,A0v ak,A0h];have av:=aw.keep (A0c.set Mj (c+1) (.cells 27 [I d,I a,I ((n:Int)+1),I kind,S lab,.list 4 (A0i g) .no,.list 4 (A0i l) .no,.vref f 0 8 0 ks.length])) (λq hq e=>by simp at hq e;omega);have ax:A0c (some b) M (Mj.set (c+1) (.cells 27 [I d,I a,I ((n:Int)+1),I kind,S lab,.list 4 (A0i g) .no,.list 4 (A0i l) .no,.vref f 0 8 0 ks.length])):=⟨by simpa using r.kb.1,λi hi ho=>by rw[Z0f (by omega)];exact r.kb.2 i hi ho⟩;(have b3:(Mj.set (c+1) (.cells 27 [I d,I a,I ((n:Int)+1),I kind,S lab,.list 4 (A0i g) .no,.list 4 (A0i l) .no,.vref f 0 8 0 ks.length]))[b]?=some (A8m d a (n+1+A0x ks) (w+hd.length+ws.length+wcL ks)):=by rw[Z0f (by omega)];exact r.hb);refine⟨M.length,.agg (A1U d a (.mk id kind lab hd ws ks) n w).row,.agg ?_ .nil,rfl,C8l ax,?_⟩
   .rw[A1U,A0a.row,<-a0,<-a6];have af:=(B1k av (n:=M.length) (λq hq=>by simp at hq;omega)).any;simp only[Int.natCast_add,Int.cast_ofNat_Int];exact .same trivial (.same trivial (.same trivial (.same trivial (.same trivial (.same trivial (.same trivial af))))))
   .rw[A8g b3 (λ_ _ _ _ _ h=>by simp at h),A0o,wcU];simp[A8m];omega
termination_by u=>SizeOf.sizeOf u
end
section
variable (gl:Nat->AV)
def D4t(u:A0a)(c a:Int)(M:Mem)(hf:Fit u)(hw:wcU u<=1000000000):A0e (WC gl) 283 [.agg u.row,I c,I a] M (λv M'=>v=.agg (A1U c a u 0 0).row/\M'=M):=by
 refine A0e.dataX ?_;obtain⟨b,hb⟩:∃b,b=M.length:=⟨_,rfl⟩;obtain⟨M1,e⟩:∃M1,M1=M++[z8,A8m c a 0 0]:=⟨_,rfl⟩;have h1:M1[b]?=some z8:=by rw[e,hb];simp
 have h2:M1[b+1]?=some (A8m c a 0 0):=by rw[e,hb];simp[Z1h]
 have f:Grow M M1:=by rw[e];exact A0c.app none _ _
 have h:A0D prog 339 [(0,I c),(1,I a)]=some (.agg [I c,I a,I 0,I 0]):=by simp[A0D,A1k,A1E,A0d,AV.cells,AV.storable]
 have d:=B8h gl u c a 0 0 (b+1) M1 hf.1 hf.2.1 hf.2.2 (by have:=hf.2.2;omega) (by omega) h2;rw[u.row_eq]at d|-;refine A0m hB func283 ?_;simp -dsimp -implicitDefEqProofs[A0k,h,A0l,A0d,AV.storable,AV.cells];rw[show M++[z8,A0j.cells 339 [I c,I a,I 0,I 0]]=M1 by rw[e];simp[A8m],<-hb];refine A0r func353 d ?_;rintro _ M2 ⟨rfl,k1,k2⟩;have h3:=k1.get h1 (by simp);have g:b<M2.length:=(Z0b.1 h3).1;have j:Grow M M2:=⟨by have:=f.1;have:=k1.1;omega,λi hi _=>by rw[k1.2 i (by have:=f.1;omega) (by simp;omega)];exact f.2 i hi (by simp)⟩;simp -dsimp -implicitDefEqProofs[A0f h3,A0L,A0K,A0v g,A0h];exact⟨A1g j (by omega),.same (by simp only[bdd];exact A2D _ _) .nil⟩
end
def C8V(s:A0G):Bool:=decide (s.k=0)&&decide (s.lab=⟨#[]⟩)
def B8f(i:Nat)(s:A0G):Prop:=(i=0/\s=A3o)\/(0<s.k/\s.k<=7/\A0X s.lab=true)
section
variable (gl:Nat->AV)
def B8x(s:A0G)(M:Mem):A0e (WC gl) 324 [.agg s.row] M (λv M'=>v=B (C8V s)/\M'=M):=by
 obtain⟨k,a⟩:=s;have hr:(A0G.mk k a).row=[I k,S a]:=rfl;rw[hr];refine A0m hB func324 ?_;by_cases h1:k=0
 .by_cases h2:a=⟨#[]⟩
  .simp -dsimp -implicitDefEqProofs[h1,h2,C8V]
  .simp -dsimp -implicitDefEqProofs[h1,h2,C8V]
 .simp -dsimp -implicitDefEqProofs[h1,C8V]
set_option maxHeartbeats 1000000 in
def B6l(p:List A0G)(o:Own)(M:Mem)(hl:p.length<=9)(hp:∀i (h:i<p.length),B8f i p[i]):A0e (WC gl) 240 [.list 2 (A1L p) o] M (λv M'=>v=B true/\M'=M):=by
 refine A3Z (λ_=>trivial) ?_;refine A0m hB func240 ?_;simp -dsimp -implicitDefEqProofs;refine A0F hB p.length 7 (λT M1=>∃i:Nat,i<=p.length/\T 0=.list 2 (A1L p) o/\T 5=.list 2 (A1L p) o/\T 6=I p.length/\T 7=I i/\Grow M M1) ?_ ?_
 .exact⟨0,by omega,by simp,by simp,by simp,by simp,Grow.refl _⟩
 rintro T M1 ⟨i,i1,t0,t5,t6,t7,hg⟩;by_cases hi:i<p.length;case neg=>
  have a:¬(i:Int)<p.length:=by omega
  have h9:(p.length:Int)<=9:=by omega
  simp -dsimp -implicitDefEqProofs[t0,t5,t6,t7,a,h9];exact hg
 have a:(i:Int)<p.length:=by omega
 have w1:=A2s (i:=i) (by omega);obtain⟨s,hs⟩:∃s,s=p[i]:=⟨_,rfl⟩;have g:=hp i hi;rw[<-hs]at g;have l:p[i]=s:=hs.symm;have m:(A1L p)[i]?=some [I s.k,S s.lab]:=by simp[A1L,hi,hs,A0G.row]
 obtain⟨M2,b⟩:∃M2,M2=M1++[A0j.cells 159 [I s.k,S s.lab]]:=⟨_,rfl⟩;have hX:M2[M1.length]?=some (A0j.cells 159 [I s.k,S s.lab]):=by rw[b];simp
 have e:Grow M M2:=by rw[b];exact hg.trans (A0c.app none _ _)
 have j:=B8x gl s M2;rw[show s.row=[I s.k,S s.lab]from rfl]at j;have c:∀M,A3V (WC gl) 112 [S s.lab] M (λv M'=>v=B (A0X s.lab)/\M'=M):=λM=>A1T func112 rfl rfl (A3Z (λ_=>trivial) (A9n gl M s.lab));have r:IntKind.i64.wrap 1=1:=by decide
 by_cases h0:i=0
 .have t:(i:Int)=0:=by omega
  subst h0;simp -dsimp -implicitDefEqProofs[t0,t5,t6,t7,a,hi,m,l,A0k,A0l,A0d,A0L,A0K];rw[<-b];simp -dsimp -implicitDefEqProofs[t0,t5,t6,t7,A0b hX];refine A0g func324 j ?_;cases hb:C8V s
  .rcases g with⟨_,rfl⟩|⟨q1,q2,q3⟩
   .simp[C8V,A3o]at hb
   (have d:¬s.k<=0:=by omega);have f:¬s.k>7:=by omega
   rw[q3]at c;simp -dsimp -implicitDefEqProofs[t0,t5,t6,t7,A0b hX,d,f];refine A4o (c M2) ?_;rintro _ _ ⟨rfl,rfl⟩;simp -dsimp -implicitDefEqProofs[t0,t5,t6,t7,w1,r];exact⟨⟨1,by omega,rfl,e⟩,by omega⟩
  .simp -dsimp -implicitDefEqProofs[t0,t5,t6,t7,w1,r];exact⟨⟨1,by omega,rfl,e⟩,by omega⟩
 .rcases g with⟨q,_⟩|⟨q1,q2,q3⟩
  .exact absurd q h0
  have d:¬s.k<=0:=by omega
  have f:¬s.k>7:=by omega
  rw[q3]at c;simp -dsimp -implicitDefEqProofs[t0,t5,t6,t7,a,hi,m,l,A0k,A0l,A0d,A0L,A0K];rw[<-b];simp -dsimp -implicitDefEqProofs[t0,t5,t6,t7,A0b hX,h0,d,f];refine A4o (c M2) ?_;rintro _ _ ⟨rfl,rfl⟩;simp -dsimp -implicitDefEqProofs[t0,t5,t6,t7,w1];exact⟨⟨i+1,by clear w1;omega,rfl,e⟩,by clear w1;omega⟩
end
def A4F(s:A0G)(k:A0a):Bool:=decide (k.kind=s.k)&&decide (k.label=s.lab)
section
variable (gl:Nat->AV)
def C3E(k:A0a)(s:A0G)(M:Mem):A0e (WC gl) 374 [.agg k.row,.agg s.row] M (λv M'=>v=B (A4F s k)/\M'=M):=by
 have hs:s.row=[I s.k,S s.lab]:=rfl;rw[k.row_eq,hs];refine A0m hB func374 ?_;by_cases h1:k.kind=s.k
 .by_cases h2:k.label=s.lab
  .simp -dsimp -implicitDefEqProofs[A4F,h1,h2]
  .simp -dsimp -implicitDefEqProofs[A4F,h1,h2]
 .simp -dsimp -implicitDefEqProofs[A4F,h1]
set_option maxHeartbeats 20000000 in
def D1F(u:A0a)(s:A0G)(o:Own)(M:Mem)(hf:Fit u)(hs:B8f 1 s):A0e (WC gl) 328 [.agg u.row,.list 2 (A1L [A3o,s]) o] M (λv M'=>v=.list 8 (A0u (u.kids.filter (A4F s))) .no/\M'=M):=by
 refine A0e.dataX ?_;have hv:=λM=>B6l gl [A3o,s] o M (by simp) (by
  intro i h
  match i,h with
  |0,_=>exact .inl ⟨rfl,rfl⟩
  |1,_=>exact hs)
 have a7:=λM=>B8x gl A3o M;have av:C8V A3o=true:=rfl;rw[av]at a7;have b4:A1L [A3o,s]=[A3o.row,s.row]:=rfl;rw[b4]at hv|-;have az:A3o.row=[I 0,S ⟨#[]⟩]:=rfl;have ar:s.row=[I s.k,S s.lab]:=rfl;obtain⟨b,hb⟩:∃b,b=M.length:=⟨_,rfl⟩;obtain⟨M1,a4⟩:∃M1,M1=M++[A0j.cells 25 [A0E]]:=⟨_,rfl⟩;have aj:M1[b]?=some (.cells 25 [A0E]):=by rw[a4,hb];simp
 have ax:Grow M M1:=by rw[a4];exact A0c.app none _ _
 rw[az,ar]at hv|-;rw[az]at a7;rw[u.row_eq];refine A0m (hQ [58]) func328 ?_;simp -dsimp -implicitDefEqProofs;refine A0g func240 (hv M) ?_;simp -dsimp -implicitDefEqProofs[A0k];rw[<-a4,<-hb];refine A0g func324 (a7 M1) ?_;simp -dsimp -implicitDefEqProofs[A0q,A1f,AV.storable,AV.cells,A0f aj];generalize A9E _ _ _ _ _=so;rw[<-u.row_eq];obtain⟨M2,y⟩:∃M2,M2=M1.set b (.cells 25 [.list 8 [u.row] .full]):=⟨_,rfl⟩;have ao:b<M1.length:=(Z0b.1 aj).1;have a1:Grow M M2:=by rw[y];exact A1g ax (by omega)
 have aw:M2[b]?=some (.cells 25 [.list 8 [u.row] .full]):=by rw[y];simp[ao]
 have bb:=A2q u.kids;have bc:A0x u.kids<A0o u:=by obtain⟨a,b,c,d,e,f⟩:=u;rw[A0o];show A0x f<_;omega
 have ba:=hf.2.2;rw[<-y];refine A0F (hQ [58]) 1 35 (λT Mi=>∃i:Nat,i<=1/\T 5=.ptr b 0/\T 33=.list 2 [[I s.k,S s.lab]] so/\T 34=I 1/\T 35=I i/\Grow M Mi/\∃v,Mi[b]?=some (.cells 25 [v])/\(i=0->v=.list 8 [u.row] .full)/\(i=1->Arr 27 8 A0a.row M.length Mi v (u.kids.filter (A4F s)))) ?_ ?_
 .exact⟨0,by omega,by simp,by simp,by simp,by simp,a1,_,aw,λ_=>rfl,λh=>by omega⟩
 clear hv a7 a4 y aj aw ax a1 ao;rintro T Mi ⟨i,i1,t5,l,m,g,af,v,ap,ak,b6⟩;by_cases hi:i<1;case neg=>
  have h1:i=1:=by omega
  subst h1;have ab:=b6 rfl;simp -dsimp -implicitDefEqProofs[t5,l,m,g,A0b ap];refine⟨af,?_⟩;rw[hb];exact B1k ab.own ab.lat
 have h0:i=0:=by omega
 subst h0;have ak:=ak rfl;subst ak;obtain⟨M2,y⟩:∃M2,M2=Mi++[A0j.cells 159 [I s.k,S s.lab]]:=⟨_,rfl⟩;have a1:Grow Mi M2:=by rw[y];exact A0c.app none _ _
 have a8:=a1.get ap (by simp);have b1:M2[Mi.length]?=some (.cells 159 [I s.k,S s.lab]):=by rw[y];simp
 obtain⟨q,hq⟩:∃q,q=Mi.length:=⟨_,rfl⟩;simp -dsimp -implicitDefEqProofs[t5,l,m,g,A0k,A0l,A0d,A0L,A0K];rw[<-y,<-hq];rw[<-hq]at b1;simp -dsimp -implicitDefEqProofs[t5,l,m,g,A0b a8];refine A6F (.exit 3) (λT Mj=>T 5=.ptr b 0/\T 33=.list 2 [[I s.k,S s.lab]] so/\T 34=I 1/\T 35=I 0/\Grow M2 Mj/\Arr 27 8 A0a.row M2.length Mj (T 8) (u.kids.filter (A4F s))) ?_ ?_;case refine_2=>
  have aa:=g;have ae:IntKind.i64.wrap 1=1:=by decide
  clear t5 l m g;rintro T Mj ⟨t5,l,m,g,z,ha⟩;have am:=z.get a8 (by simp);have a6:A0l (some 1) Mj (.ptr b 0) (T 8)=some (Mj.set b (.cells 25 [T 8])):=by rw[A0f am,ha.own.cells,Z0d ⟨ha.own.store,by simp,rfl⟩];rfl
  have aq:b<Mj.length:=(Z0b.1 am).1;have b3:Grow M (Mj.set b (.cells 25 [T 8])):=A1g ((af.trans a1).trans z) (by omega);have b9:M.length<=M2.length:=(af.trans a1).1;have b7:Arr 27 8 A0a.row M.length (Mj.set b (.cells 25 [T 8])) (T 8) (u.kids.filter (A4F s)):=⟨ha.own.keep (A0c.set _ _ _) (λf hf e=>by have:=ha.lat f hf;have:=(Z0b.1 a8).1;simp at e;omega),λf hf=>by have:=ha.lat f hf;omega⟩;simp -dsimp -implicitDefEqProofs[t5,l,m,g,a6,aa,ae];exact⟨1,by omega,rfl,b3,T 8,by simp[aq],λh=>by omega,λ_=>b7⟩
 refine A0F (hQ [58]) 1 41 (λT Mj=>∃j:Nat,j<=1/\T 5=.ptr b 0/\T 7=.ptr q 0/\T 33=.list 2 [[I s.k,S s.lab]] so/\T 34=I 1/\T 35=I 0/\T 39=.list 8 [u.row] .full/\T 40=I 1/\T 41=I j/\Grow M2 Mj/\Arr 27 8 A0a.row M2.length Mj (T 8) (if j=0 then[]else u.kids.filter (A4F s))) ?_ ?_
 .exact⟨0,by omega,by simp[t5],by simp,by simp[l],by simp[m],by simp[g],by simp,by simp,by simp,Grow.refl _,by simpa using Arr.nil⟩
 have aa:=g;have ae:IntKind.i64.wrap 1=1:=by decide
 clear t5 l m g;rintro T Mj ⟨j,j1,t5,t7,l,m,g,t,r,p,z,ha⟩;have am:=z.get a8 (by simp);by_cases hj:j<1;case neg=>
  have h1:j=1:=by omega
  subst h1;rw[Z0e (by omega)]at ha;simp -dsimp -implicitDefEqProofs[t5,t7,l,m,g,t,r,p];exact⟨z,ha⟩
 have h0:j=0:=by omega
 subst h0;rw[Z0d rfl]at ha;obtain⟨M3,ah⟩:∃M3,M3=Mj++[A0j.cells 27 u.row]:=⟨_,rfl⟩;have ai:Grow Mj M3:=by rw[ah];exact A0c.app none _ _
 have ay:M3[Mj.length]?=some (.cells 27 u.row):=by rw[ah];simp
 have ag:=ha.keep ai;generalize w:T 8=ov at*;simp -dsimp -implicitDefEqProofs[t5,t7,l,m,g,t,r,p,w,A0k,A0l,A0d,A0L,A0K];rw[<-ah];rw[u.row_eq]at ay;simp -dsimp -implicitDefEqProofs[t5,t7,l,m,g,t,r,p,w,A0b ay];have au:=p;have bd:M2.length<=M3.length:=(z.trans ai).1;refine A6F (.exit 5) (λT Mk=>T 5=.ptr b 0/\T 7=.ptr q 0/\T 33=.list 2 [[I s.k,S s.lab]] so/\T 34=I 1/\T 35=I 0/\T 39=.list 8 [u.row] .full/\T 40=I 1/\T 41=I 0/\Grow M2 Mk/\Arr 27 8 A0a.row M2.length Mk (T 8) (u.kids.filter (A4F s))) ?_ ?_;case refine_2=>clear t5 t7 l m g t r p ha ag w;rintro T Mk ⟨t5,t7,l,m,g,t,r,p,a0,ha⟩;simp -dsimp -implicitDefEqProofs[t5,t7,l,m,g,t,r,p,au,ae];exact⟨1,by omega,rfl,a0,by simpa using ha⟩
 refine A0F (hQ [58]) u.kids.length 48 (λT Mk=>∃k:Nat,k<=u.kids.length/\T 5=.ptr b 0/\T 7=.ptr q 0/\T 33=.list 2 [[I s.k,S s.lab]] so/\T 34=I 1/\T 35=I 0/\T 39=.list 8 [u.row] .full/\T 40=I 1/\T 41=I 0/\T 46=.list 8 (A0u u.kids) .no/\T 47=I u.kids.length/\T 48=I k/\Grow M2 Mk/\Arr 27 8 A0a.row M2.length Mk (T 8) ((u.kids.take k).filter (A4F s))) ?_ ?_
 .exact⟨0,by omega,by simp[t5],by simp[t7],by simp[l],by simp[m],by simp[g],by simp[t],by simp[r],by simp[p],by simp,by simp,by simp,z.trans ai,by simpa[w]using ag⟩
 clear t5 t7 l m g t r p ha ag w;rintro T Mk ⟨k,k1,t5,t7,l,m,g,t,r,p,t46,a3,a2,a0,ha⟩;by_cases hk:k<u.kids.length;case neg=>
  have ac:¬(k:Int)<u.kids.length:=by omega
  rw[Z0j (by omega)]at ha;simp -dsimp -implicitDefEqProofs[t5,t7,l,m,g,t,r,p,t46,a3,a2,ac];exact⟨a0,ha⟩
 have ac:(k:Int)<u.kids.length:=by omega
 obtain⟨x,hx⟩:∃x,x=u.kids[k]:=⟨_,rfl⟩;have b2:u.kids[k]=x:=hx.symm;have b5:=a0.get b1 (by simp);obtain⟨M5,al⟩:∃M5,M5=Mk++[A0j.cells 27 x.row]:=⟨_,rfl⟩;have a9:Grow Mk M5:=by rw[al];exact A0c.app none _ _
 have an:M5[Mk.length]?=some (.cells 27 x.row):=by rw[al];simp
 have b8:=a9.get b5 (by simp);have ad:=ha.keep a9;have b0:=C3E gl x s M5;rw[ar]at b0;have a5:(u.kids.take (k+1)).filter (A4F s)=(u.kids.take k).filter (A4F s)++(if A4F s x=true then[x]else[]):=by rw[Z1H,Z0k hk,List.filter_append,hx];simp only[Option.toList_some,Z2Y,List.filter_nil]
 generalize w:T 8=ov at*;simp -dsimp -implicitDefEqProofs[t5,t7,l,m,g,t,r,p,t46,a3,a2,w,ac,hk,b2,A0k,A0l,A0d,A0L,A0K];rw[<-al];simp -dsimp -implicitDefEqProofs[t5,t7,l,m,g,t,r,p,t46,a3,a2,w,A0b an,A0b b8];refine A0g func374 b0 ?_;have w1:=A2s (i:=k) (by omega);cases a6:A4F s x
 .rw[a6,Z0e (by simp),Z1D]at a5;simp -dsimp -implicitDefEqProofs[t5,t7,l,m,g,t,r,p,t46,a3,a2,w,w1];exact⟨⟨k+1,by clear w1;omega,rfl,a0.trans a9,by rw[a5];exact ad⟩,by clear w1;omega⟩
 .rw[a6,Z0d rfl]at a5;simp -dsimp -implicitDefEqProofs[t5,t7,l,m,g,t,r,p,t46,a3,a2,w,A0b an,A0q,A1f,A0L,A0K];refine A4C (C:=WC gl) (enc:=A0a.row) (e:=27) (sz:=8) (news:=[x]) A8T B4o B3R A0a.row_len ad.own (by simp[A0A]) (by have:=Z3v (A4F s) (u.kids.take k);simp at this|-;omega) rfl ?_;intro v' M' h1 h2 h3 _;obtain⟨g1,g2⟩:=A2V (X:=[]) (a0.trans a9) ad.lat (by simpa using h2) (by simpa using h3);simp -dsimp -implicitDefEqProofs[t5,t7,l,m,g,t,r,p,t46,a3,a2,w1];exact⟨⟨k+1,by clear w1;omega,rfl,g1,by rw[a5];exact⟨h1,g2⟩⟩,by clear w1;omega⟩
end
end Go.Abs
