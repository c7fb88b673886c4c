/- The texts CbL, CbM, CeA, CeB, CeC, CeD, CeE, CeF, CeG. -/
import Derived.Test.YtmpdkagfplajjaaGreatDoorGG33
import Derived.Test.YtmpdkagfplajjaaGreatDoorGG21
import Derived.Test.YtmpdkagfplajjaaGreatDoorGG25
set_option linter.all false
set_option maxRecDepth 100000
namespace Go.Abs
open Go.Proofs TryTypes Tryz
def A4e{α:Type}(e sz:Nat)(enc:α->List AV)(n:Nat)(M:Mem)(v:AV)(l:List α):Prop:=(v=.list sz [] .no/\l=[])\/Arr e sz enc n M v l
section
variable {α:Type} {e sz n:Nat} {enc:α->List AV} {M M':Mem} {v:AV} {l:List α}
def A4e.store(h:A4e e sz enc n M v l):v.storable=true:=by
 rcases h with⟨rfl,rfl⟩|h
 .rfl
 .exact h.own.store
def A4e.cells(h:A4e e sz enc n M v l):v.cells=[v]:=by
 rcases h with⟨rfl,rfl⟩|h
 .rfl
 .exact h.own.cells
def A4e.len(h:A4e e sz enc n M v l){P}{t e':TypeId}(ht:P.underlying t=some (.slice e')):A2v P t v=some l.length:=by
 rcases h with⟨rfl,rfl⟩|h
 .simp[A2v,ht]
 .exact h.own.len ht
def A4e.keep(h:A4e e sz enc n M v l)(hk:Grow M M'):A4e e sz enc n M' v l:=by
 rcases h with h|h
 .exact .inl h
 .exact .inr (h.keep hk)
def A4e.stay(h:A4e e sz enc n M v l)(hk:∀f,obj v=some f->M'[f]?=M[f]?):A4e e sz enc n M' v l:=by
 rcases h with h|⟨h1,h2⟩
 .exact .inl h
 .refine .inr ⟨?_,h2⟩;rcases h1 with h1|⟨f,g,a,rfl,hm,hl⟩
  .exact .inl h1
  .exact .inr ⟨f,g,a,rfl,by rw[hk f rfl];exact hm,hl⟩
def A4e.still(h:A4e e sz enc n M v l)(he:∀x,(enc x).length=sz)(hb:∀n x,A1Y n (enc x)){cs ds}(hr:Still M n (bdd n) cs ds):Still M n (bdd n) (v::cs) (.list sz (l.map enc) .no::ds):=by
 rcases h with⟨rfl,rfl⟩|h
 .exact .same (by simp[bdd,A8U]) hr
 .exact Still.append (a:=[v]) (b:=[.list sz (l.map enc) .no]) (A3i he hb h.own h.lat) hr
end
def A4e.lat{α:Type}{e sz n}{enc:α->List AV}{M}{v}{l}(h:A4e e sz enc n M v l):A1g n v:=by
 rcases h with⟨rfl,rfl⟩|h
 .intro f hf;simp[obj]at hf
 .exact h.lat
def A4e.lt{α:Type}{e sz n}{enc:α->List AV}{M}{v}{l}(h:A4e e sz enc n M v l){f}(hf:obj v=some f):f<M.length:=by
 rcases h with⟨rfl,rfl⟩|h
 .simp[obj]at hf
 .exact h.own.lt hf
def A4e.weak{α:Type}{e sz n m}{enc:α->List AV}{M}{v}{l}(h:A4e e sz enc n M v l)(hm:m<=n):A4e e sz enc m M v l:=by
 rcases h with h|⟨h1,h2⟩
 .exact .inl h
 .exact .inr ⟨h1,λf hf=>by have:=h2 f hf;omega⟩
def Arr.stay{α:Type}{e sz n}{enc:α->List AV}{M M'}{v}{l}(h:Arr e sz enc n M v l)(hk:∀f,obj v=some f->M'[f]?=M[f]?):Arr e sz enc n M' v l:=by
 obtain⟨h1,h2⟩:=h;refine⟨?_,h2⟩;rcases h1 with h1|⟨f,g,a,rfl,hm,hl⟩
 .exact .inl h1
 .exact .inr ⟨f,g,a,rfl,by rw[hk f rfl];exact hm,hl⟩
def D0t{cs part}{off}(h:(cs.drop off).take part.length=part):A0e cs off part=cs:=by
 unfold A0e;rw[<-h,Z0E,Z0T];have e:(cs.drop off).take part.length++cs.drop (off+min part.length (cs.drop off).length)=cs.drop off:=by
  rcases Nat.le_total part.length (cs.drop off).length with hl|hl
  .rw[Z1H hl,<-Z1V,Z0S]
  .rw[Nat.min_eq_right hl,<-Z1V,List.drop_length,Z1b,Z0k hl]
 rw[e,Z0S]
abbrev A6V(u:A0a)(kv:AV):List AV:=[I u.id.act,I u.id.item,I u.id.n,I u.kind,S u.label,.list 4 (A0g u.head) .no,.list 4 (A0g u.words) .no,kv]
def C1h(ks:List A0a)(kv:AV):Prop:=kv=.list 8 (A0q ks) .no\/(ks=[]/\kv=A0x)
def C1h.len{ks}{kv}(h:C1h ks kv):A2v prog 25 kv=some ks.length:=by rcases h with rfl|⟨rfl,rfl⟩<;>simp
def C1h.store{ks}{kv}(h:C1h ks kv):kv.storable=true:=by rcases h with rfl|⟨rfl,rfl⟩<;>rfl
def C1h.cells{ks}{kv}(h:C1h ks kv):kv.cells=[kv]:=by rcases h with rfl|⟨rfl,rfl⟩<;>rfl
structure D4w (M:Mem) (u:A0a) (hv wv kv:AV) (M':Mem):Prop where
 grow:Grow M M'
 h:A4e 152 4 A0H.row M.length M' hv u.head
 w:A4e 152 4 A0H.row M.length M' wv u.words
 k:Arr 27 8 A0a.row M.length M' kv u.kids
 a12:A8L hv wv
 a13:A8L hv kv
 a23:A8L wv kv
abbrev D5n(u:A0a)(hv wv kv:AV):List AV:=[I u.id.act,I u.id.item,I u.id.n,I u.kind,S u.label,hv,wv,kv]
def D4w.still{M M'}{u}{hv wv kv}(h:D4w M u hv wv kv M'):Grow M M'/\Still M' M.length (bdd M.length) [.agg (D5n u hv wv kv)] [.agg u.row]:=by refine⟨h.grow,?_⟩;rw[u.row_eq,A3T];exact .agg (.same trivial (.same trivial (.same trivial (.same trivial (.same trivial (h.h.still (λ_=>rfl) A5v (h.w.still (λ_=>rfl) A5v (A3i A0a.row_len A2U h.k.own h.k.lat)))))))) .nil
def hCp:A2r:=⟨λd=>d !=1,λ_=>false,λd=>d==25⟩
@[simp] def E6I:hCp.imm=λd=>d !=1:=rfl
@[simp] def E5r:hCp.own=λ_=>false:=rfl
@[simp] def E6j:hCp.vec=λd=>d==25:=rfl
section
variable (gl:Nat->AV)
def C3k(l:List A0H)(M:Mem)(hl:l.length<=1000000000):A0c (WC gl) 141 [.list 4 (A0g l) .no] M (λv M'=>A1b 152 4 A0H.row M' v l/\Grow M M'/\A1g M.length v):=by
 refine A0o hW func141 ?_;have tail:∀(K:AV->Mem->Prop) (tg:Tag K),(∀v M',(A1b 152 4 A0H.row M' v l/\Grow M M'/\A1g M.length v)->K v M')->A5x (WC gl) (A2y hW.own (some 7)) (A2y hW.vec (some 7)) 24 24 (.vref M.length 0 4 0 0) (.list 4 (A0g l) .no) (M++[.vec 152 4 [] 0 [(0,0)]]) K tg:=by intro K tg hk;have ho:A1b 152 4 A0H.row (M++[.vec 152 4 [] 0 [(0,0)]]) (.vref M.length 0 4 0 0) []:=.inr ⟨M.length,0,[(0,0)],rfl,by simp,by simp[List.lookup]⟩;refine A3p (C:=WC gl) (enc:=A0H.row) (e:=152) (sz:=4) (news:=l) B3v C0S B4k (λ_=>rfl) ho (by simp[A0A,A0g,List.flatMap]) (by simp;omega) rfl ?_;intro v' M' h1 h2 h3 _;obtain⟨r1,r2⟩:=A2D (X:=[]) (A0d.app none M [.vec 152 4 [] 0 [(0,0)]]) (v:=.vref M.length 0 4 0 0) (λf hf=>by simp at hf;omega) (by simpa using h2) (by simpa using h3);exact hk _ _ ⟨h1,r1,r2⟩
 cases l with
 |nil=>
  simp -dsimp -implicitDefEqProofs[A0g];rw[A7w (.inl rfl) underlying24];intro b;cases b
  .simp -dsimp -implicitDefEqProofs[A1J,A0W];refine tail _ _ λv M' h=>?_;simp -dsimp -implicitDefEqProofs;exact h
  .simp -dsimp -implicitDefEqProofs;exact⟨.nil,A0d.refl _ _,λf h=>by simp at h⟩
 |cons a l=>simp -dsimp -implicitDefEqProofs[A0g,A1J,A0W];refine tail _ _ λv M' h=>?_;simp -dsimp -implicitDefEqProofs;exact h
def B8Y(l:List A0H)(M:Mem)(hl:l.length<=1000000000):∃r M1,A0c (WC gl) 141 [.list 4 (A0g l) .no] M (λv M'=>v=r/\M'=M1)/\Grow M M1/\A4e 152 4 A0H.row M.length M1 r l/\M1.length<=M.length+1:=by
 by_cases h:l=[]
 .exact⟨_,_,A0c.still (enc:=A0H.row) (λ_=>rfl) A5v (C3k gl l M hl),Grow.refl _,.inl ⟨by rw[h];rfl,h⟩,by omega⟩
 .exact⟨_,_,A0c.repack (enc:=A0H.row) (λ_=>rfl) A5v h (C3k gl l M hl),A0d.app none _ _,.inr ⟨.inr ⟨M.length,0,[(0,l.length)],rfl,by simp,by simp[List.lookup]⟩,λf hf=>by simp at hf;omega⟩,by simp⟩
set_option maxHeartbeats 1000000 in
def B6k:∀(u:A0a) (kv:AV) (M:Mem),C1h u.kids kv->u.good->u.lims->A0j u<=1000->
 A0c (WC gl) 89 [.agg (A6V u kv)] M (λv M'=>∃hv wv kw,v=.agg (D5n u hv wv kw)/\D4w M u hv wv kw M')
 |.mk id kind lab hd ws ks,kv,M,t,hg,hlm,hc=>by
  obtain⟨_,_,bm,_,be,_,bg,bc,ae⟩:=(A0a.good_iff _).1 hg;have ae:∀k∈ks,k.good:=ae;obtain⟨⟨aq,al,bn,-⟩,ag⟩:=A3t _ hlm;have aq:hd.length<=100000000:=aq;have al:ws.length<=100000000:=al;have ag:=A3g.1 ag;have bk:1+A0f ks<=1000:=by rwa[A0j]at hc
  have au:=A1Q ks;have t:C1h ks kv:=t;have b1:A6V (.mk id kind lab hd ws ks) kv=[I id.act,I id.item,I id.n,I kind,S lab,.list 4 (A0g hd) .no,.list 4 (A0g ws) .no,kv]:=rfl;have b2:∀a b c,D5n (.mk id kind lab hd ws ks) a b c=[I id.act,I id.item,I id.n,I kind,S lab,a,b,c]:=λ_ _ _=>rfl;rw[b1];simp only[b2];refine A0o hCp func89 ?_;obtain⟨b,hb⟩:∃b,b=M.length:=⟨_,rfl⟩;obtain⟨M1,r⟩:∃M1,M1=M++[A0p.cells 27 [I id.act,I id.item,I id.n,I kind,S lab,.list 4 (A0g hd) .no,.list 4 (A0g ws) .no,kv],z8]:=⟨_,rfl⟩;have a4:M1[b]?=some (A0p.cells 27 [I id.act,I id.item,I id.n,I kind,S lab,.list 4 (A0g hd) .no,.list 4 (A0g ws) .no,kv]):=by rw[r,hb];simp
  have an:M1[b+1]?=some z8:=by rw[r,hb];simp[Z0Z]
  have a3:Grow M M1:=by rw[r];exact A0d.app none _ _
  have b7:M1.length=b+2:=by rw[r,hb];simp
  have bi:=t.store;have bj:=t.cells;simp -dsimp -implicitDefEqProofs[A0l];rw[<-r,<-hb];clear r;obtain⟨hv,M2,b0,l,d,b8⟩:=B8Y gl hd M1 (by omega);obtain⟨wv,M3,ax,s,o,ba⟩:=B8Y gl ws M2 (by omega);have a2:=l.get a4 (by simp);have a5:=s.get a2 (by simp);have aa:M2[b]?=M1[b]?:=by rw[a4,a2]
  have a9:M3[b]?=M2[b]?:=by rw[a2,a5]
  have a8:b<M3.length:=(Z0a.1 a5).1;have ab:A0m (some 1) M3 (.ptr b 5) hv=some (M3.set b (.cells 27 [I id.act,I id.item,I id.n,I kind,S lab,hv,.list 4 (A0g ws) .no,kv])):=by rw[A0h a5,d.cells,Z0d ⟨d.store,by simp,rfl⟩];rfl
  have ac:(M3.set b (.cells 27 [I id.act,I id.item,I id.n,I kind,S lab,hv,.list 4 (A0g ws) .no,kv]))[b]?=some (.cells 27 [I id.act,I id.item,I id.n,I kind,S lab,hv,.list 4 (A0g ws) .no,kv]):=by simp[a8]
  have ad:A0m (some 1) (M3.set b (.cells 27 [I id.act,I id.item,I id.n,I kind,S lab,hv,.list 4 (A0g ws) .no,kv])) (.ptr b 6) wv=some (M3.set b (.cells 27 [I id.act,I id.item,I id.n,I kind,S lab,hv,wv,kv])):=by rw[A0h ac,o.cells,Z0d ⟨o.store,by simp,rfl⟩,Z2z];rfl
  refine B8z hCp (A0t gl) (λk=>if k=1\/k=4 then 1 else if k=2\/k=5\/k=7\/k=9 then 2 else 0) (λ_=>b) (λ_ k=>k==7||k==9) (λk=>if k=7\/k=9 then[]else[b]) (by intro i k _ h;simp at h;simp[h]) (by rfl) (by kernel_rfl) ?_;simp -dsimp -implicitDefEqProofs[A0b a4,A1a,A5n];refine A5i (A0V func141 rfl rfl b0) ?_;refine⟨by simpa using aa,?_⟩;simp -dsimp -implicitDefEqProofs[A0b a2,A1a,A5n];refine A5i (A0V func141 rfl rfl ax) ?_;refine⟨by simpa using a9,?_⟩;simp -dsimp -implicitDefEqProofs[ab,ad];obtain⟨M4,w⟩:∃M4,M4=M3.set b (.cells 27 [I id.act,I id.item,I id.n,I kind,S lab,hv,wv,kv]):=⟨_,rfl⟩;have p:∀f,f≠b->M4[f]?=M3[f]?:=λf hf=>by rw[w,Z0e (λe=>hf e.symm)]
  have ay:M4[b]?=some (.cells 27 [I id.act,I id.item,I id.n,I kind,S lab,hv,wv,kv]):=by rw[w];simp[a8]
  have b5:M4[b+1]?=some z8:=by rw[p _ (by omega)];exact s.get (l.get an (by simp)) (by simp)
  have bf:M4.length=M3.length:=by rw[w];simp
  have e1:=((d.keep s).stay (M':=M4) (λf hf=>p f (by have:=d.lat f hf;omega))).weak (m:=M.length) (by have:=a3.1;omega);have e2:=(o.stay (M':=M4) (λf hf=>p f (by have:=o.lat f hf;have:=l.1;omega))).weak (m:=M.length) (by have:=a3.1;have:=l.1;omega);have ap:A8L hv wv:=λf h1 h2=>by have:=d.lt h1;have:=o.lat f h2;omega
  have a1:Grow M M4:=⟨by have:=a3.1;have:=l.1;have:=s.1;omega,λj hj _=>by rw[p j (by omega)];exact((a3.trans l).trans s).2 j hj (by simp)⟩;have a6:=d.lat;have a7:=o.lat;have bd:=d.store;have bb:=l.1;have b9:b+2<=M4.length:=by have:=s.1;omega
  rw[<-w];clear w ab ad ac a5 a2 aa a9 a4 an b0 ax d o;have au:=t.len;simp -dsimp -implicitDefEqProofs[A0b ay,au];refine A0y hCp ks.length 17 (λT M5=>∃i:Nat,i<=ks.length/\T 1=.ptr b 0/\T 2=.ptr (b+1) 0/\T 15=kv/\T 16=I ks.length/\T 17=I i/\Grow M4 M5/\Arr 27 8 A0a.row M4.length M5 (T 3) (ks.take i)) ?_ ?_
  .refine⟨0,by omega,by simp,by simp,by simp,by simp,by simp,A0d.refl _ _,?_⟩;simp -dsimp -implicitDefEqProofs;exact .nil
  rintro T M5 ⟨i,i1,t1,t2,y,x,a0,g,hf⟩;generalize am:T 3=ov at*;by_cases hi:i<ks.length;case neg=>
   (have af:¬(i:Int)<ks.length:=by omega);rw[Z0k (by omega)]at hf
   have av:=g.get ay (by simp);have ak:=g.get b5 (by simp);have ao:b<M5.length:=(Z0a.1 av).1;have aw:b+1<M5.length:=(Z0a.1 ak).1;(have az:A0m (some 1) M5 (.ptr b 7) ov=some (M5.set b (.cells 27 [I id.act,I id.item,I id.n,I kind,S lab,hv,wv,ov])):=by rw[A0h av,hf.own.cells,Z0d ⟨hf.own.store,by simp,rfl⟩];rfl);(have b3:(M5.set b (.cells 27 [I id.act,I id.item,I id.n,I kind,S lab,hv,wv,ov]))[b]?=some (.cells 27 [I id.act,I id.item,I id.n,I kind,S lab,hv,wv,ov]):=by simp[ao]);(have b6:(M5.set b (.cells 27 [I id.act,I id.item,I id.n,I kind,S lab,hv,wv,ov]))[b+1]?=some z8:=by rw[Z0e (by omega)];exact ak);simp -dsimp -implicitDefEqProofs[t1,t2,y,x,a0,af,am,az,A0b b3,A0h b6,A0z,aw];refine⟨hv,wv,ov,⟨rfl,rfl,rfl⟩,?_⟩;(have hs:∀X Y f,f≠b->f≠b+1->((M5.set b X).set (b+1) Y)[f]?=M5[f]?:=λX Y f h1 h2=>by rw[Z0e (by omega),Z0e (by omega)]);refine⟨⟨by have:=a1.1;have:=g.1;simp;omega,λj hj _=>by rw[hs _ _ j (by omega) (by omega)];exact(a1.trans g).2 j hj (by simp)⟩,?_,?_,?_,ap,?_,?_⟩
   .exact(e1.keep g).stay λf h=>hs _ _ f (by have:=a6 f h;omega) (by have:=a6 f h;omega)
   .exact(e2.keep g).stay λf h=>hs _ _ f (by have:=a7 f h;omega) (by have:=a7 f h;omega)
   .have ar:=hf.stay (M':=(M5.set b (.cells 27 [I id.act,I id.item,I id.n,I kind,S lab,hv,wv,ov])).set (b+1) (.cells 27 [I id.act,I id.item,I id.n,I kind,S lab,hv,wv,ov])) (λf h=>hs _ _ f (by have:=hf.lat f h;omega) (by have:=hf.lat f h;omega));exact⟨ar.own,λf h=>by have:=ar.lat f h;have:=a1.1;omega⟩
   .intro f h1 h2;have:=e1.lt h1;have:=hf.lat f h2;omega
   .intro f h1 h2;have:=e2.lt h1;have:=hf.lat f h2;omega
  have af:(i:Int)<ks.length:=by omega
  have w1:=A1E (i:=i) (by omega);have q:ks[i]∈ks:=Z0q hi;have bh:=A2u q;rcases t with rfl|⟨rfl,_⟩;case inr=>simp at hi
  obtain⟨M6,aj⟩:∃M6,M6=M5++[A0p.cells 27 ks[i].row]:=⟨_,rfl⟩;have ai:Grow M5 M6:=by rw[aj];exact A0d.app none _ _
  have b4:M6[M5.length]?=some (A0p.cells 27 ks[i].row):=by rw[aj];simp
  have:=A0a.kid_lt (u:=.mk id kind lab hd ws ks) q;have z:=A0c.dataX ((B6k ks[i] (.list 8 (A0q ks[i].kids) .no) M6 (.inl rfl) (ae _ q) (ag _ q) (by omega)).mono λv M' ⟨hv,wv,kw,e,h⟩=>by subst e;exact h.still);rw[show A6V ks[i] (.list 8 (A0q ks[i].kids) .no)=ks[i].row from(ks[i].row_eq).symm]at z;have ah:=hf.keep ai;simp -dsimp -implicitDefEqProofs[t1,t2,y,x,a0,hi,af,A0l,A0m,A0e,AV.storable,AV.cells];rw[<-aj];simp -dsimp -implicitDefEqProofs[t1,t2,y,x,a0,A0b b4];refine A0i func89 z ?_;simp -dsimp -implicitDefEqProofs[t1,t2,y,x,a0,am,A0n,A0W,AV.storable,AV.cells];refine A3p (C:=WC gl) (enc:=A0a.row) (e:=27) (sz:=8) (news:=[ks[i]]) A7P B2g B1T A0a.row_len ah.own (by simp[A0A]) (by simp;omega) rfl ?_;intro v' M7 q1 q2 q3 _;simp -dsimp -implicitDefEqProofs[t1,t2,y,x,a0,w1];refine⟨⟨i+1,by clear w1;omega,rfl,ah.grow (g.trans ai) q2,?_⟩,by clear w1;omega⟩;rw[Z0D hi];exact⟨q1,ah.later (g.trans ai).1 q3⟩
termination_by u=>SizeOf.sizeOf u
end
def hSt:A2r:=⟨λd=>d !=1,λ_=>false,λ_=>false⟩
@[simp] def E5g:hSt.imm=λd=>d !=1:=rfl
@[simp] def E5h:hSt.vec=λ_=>false:=rfl
def D1s:A1h prog 256=some 24:=by kernel_rfl
attribute [simp] underlying256 D1s
def D3T{n m}{M}{hv wv}{a b}(h:A4e 152 4 A0H.row n M hv a)(w:A4e 152 4 A0H.row m M wv b):A0n prog 256 2 [(0,hv),(1,wv)]=some (.list 1 [[hv],[wv]] .full):=by rcases h with⟨rfl,_⟩|⟨⟨rfl,_⟩|⟨f,g,hist,rfl,_,_⟩,_⟩<;>rcases w with⟨rfl,_⟩|⟨⟨rfl,_⟩|⟨f2,g2,c,rfl,_,_⟩,_⟩<;>simp[A0n,D1s,A0W]
def C6n:A0w prog 150 []=some (.agg [I 0,I 0,I 0]):=by simp[A0w,A1e]
def D1T{n}{M}{v}{l}(h:Arr 152 4 A0H.row n M v l){i}(hi:i<l.length)(hb:B1z l[i]):∃f g M',v=.vref f g 4 0 l.length/\A0m (some 3) M (.vptr f g (i*4+1)) (.agg [I 0,I 0,I 0])=some M'/\Arr 152 4 A0H.row n M' v l/\M'.length=M.length/\∀j,j≠f->M'[j]?=M[j]?:=by
 obtain⟨h1,h2⟩:=h
 rcases h1 with⟨rfl,rfl⟩|⟨f,g,a,rfl,hm,hl⟩
 .simp at hi
 have b:f<M.length:=(Z0a.1 hm).1
 have c:A0e (l.flatMap A0H.row) (i*4+1) [I 0,I 0,I 0]=l.flatMap A0H.row:=by refine D0t ?_;rw[<-Z1V,A5w (enc:=A0H.row) (sz:=4) (λ_=>rfl),Z0i hi,Z0W,C2t hb];rfl
 refine⟨f,g,M.set f (.vec 152 4 (l.flatMap A0H.row) g (A1w 4 g (i*4+1) a)),rfl,?_,⟨.inr ⟨f,g,A1w 4 g (i*4+1) a,rfl,by simp[b],?_⟩,h2⟩,by simp,λj hj=>Z0e (by omega)⟩
 .simp only[A0m,hm,hl];rw[Z0d (by simp;omega)];simp only[AV.cells];rw[c]
 .unfold A1w;exact A3m _ hl
def D2r{n}{M}{v}{l}(h:Arr 27 8 A0a.row n M v l){i}(hi:i<l.length):∃f g M',v=.vref f g 8 0 l.length/\A1m prog 27 M (.vptr f g (i*8))=some (.agg l[i].row)/\A0m (some 8) M (.vptr f g (i*8)) (.agg l[i].row)=some M'/\Arr 27 8 A0a.row n M' v l/\M'.length=M.length/\∀j,j≠f->M'[j]?=M[j]?:=by
 obtain⟨h1,h2⟩:=h
 have c:=h1.at_ (P:=prog) (t:=27) A0a.row_len D9l E0d hi
 rcases h1 with⟨rfl,rfl⟩|⟨f,g,a,rfl,hm,hl⟩
 .simp at hi
 have b:f<M.length:=(Z0a.1 hm).1
 have d:A0e (l.flatMap A0a.row) (i*8) l[i].row=l.flatMap A0a.row:=by refine D0t ?_;rw[A5w A0a.row_len,Z0i hi,Z0W,A0a.row_len,Z2h (by simp)];simp
 refine⟨f,g,M.set f (.vec 27 8 (l.flatMap A0a.row) g (A1w 8 g (i*8) a)),rfl,?_,?_,⟨.inr ⟨f,g,A1w 8 g (i*8) a,rfl,by simp[b],?_⟩,h2⟩,by simp,λj hj=>Z0e (by omega)⟩
 .obtain⟨p,e1,_,e2,_⟩:=c;simp[hi]at e1;rw[<-e1]at e2;exact e2
 .simp only[A0m,hm,hl];rw[Z0d (by simp[AV.storable,AV.cells];omega)];simp only[AV.cells];rw[d]
 .unfold A1w;exact A3m _ hl
section
variable (gl:Nat->AV)
set_option maxHeartbeats 1000000 in
def B9X:∀(u:A0a) (kv:AV) (M:Mem),C1h u.kids kv->u.good->u.lims->A0j u<=1000->A3n u->
 A0c (WC gl) 180 [.agg (A6V u kv)] M (λv M'=>v=.agg u.row/\M'=M)
 |.mk id kind lab hd ws ks,kv,M,ad,hg,hlm,hc,hbt=>by
  obtain⟨_,_,c0,_,br,_,bs,bp,al⟩:=(A0a.good_iff _).1 hg;have al:∀k∈ks,k.good:=al;obtain⟨⟨b7,b2,c1,-⟩,ar⟩:=A3t _ hlm;have b7:hd.length<=100000000:=b7;have b2:ws.length<=100000000:=b2;have ar:=A3g.1 ar;have bz:1+A0f ks<=1000:=by rwa[A0j]at hc
  have bv:=A1Q ks;have ad:C1h ks kv:=ad;obtain⟨aw,be,bc,ay⟩:=(A7u _).1 hbt;have aw:id=idZ:=aw;have be:∀x∈hd,B1z x:=be;have bc:∀x∈ws,B1z x:=bc;have ay:∀k∈ks,A3n k:=ay;subst aw;refine A0c.dataX ?_;have b0:A6V (.mk idZ kind lab hd ws ks) kv=[I 0,I 0,I 0,I kind,S lab,.list 4 (A0g hd) .no,.list 4 (A0g ws) .no,kv]:=rfl;have bh:∀a b c,D5n (.mk idZ kind lab hd ws ks) a b c=[I 0,I 0,I 0,I kind,S lab,a,b,c]:=λ_ _ _=>rfl;rw[b0];refine A0o hSt func180 ?_;obtain⟨b,hb⟩:∃b,b=M.length:=⟨_,rfl⟩;obtain⟨M1,a5⟩:∃M1,M1=M++[A0p.cells 27 [I 0,I 0,I 0,I kind,S lab,.list 4 (A0g hd) .no,.list 4 (A0g ws) .no,kv],z8]:=⟨_,rfl⟩;have a8:M1[b]?=some (A0p.cells 27 [I 0,I 0,I 0,I kind,S lab,.list 4 (A0g hd) .no,.list 4 (A0g ws) .no,kv]):=by rw[a5,hb];simp
  have b6:M1[b+1]?=some z8:=by rw[a5,hb];simp[Z0Z]
  have ba:Grow M M1:=by rw[a5];exact A0d.app none _ _
  have bn:M1.length=b+2:=by rw[a5,hb];simp
  have bw:=ad.store;have bx:=ad.cells;have ag:=B6k gl (.mk idZ kind lab hd ws ks) kv M1 ad hg hlm hc;rw[b0]at ag;simp only[bh]at ag;simp -dsimp -implicitDefEqProofs[A0l];rw[<-a5,<-hb];clear a5;simp -dsimp -implicitDefEqProofs[A0b a8];refine A0s func89 ag ?_;rintro _ M2 ⟨hv,wv,kw,rfl,ae,e1,e2,e3,b8,bg,b9⟩;have e1:A4e 152 4 A0H.row M1.length M2 hv hd:=e1;have e2:A4e 152 4 A0H.row M1.length M2 wv ws:=e2;have e3:Arr 27 8 A0a.row M1.length M2 kw ks:=e3;have a9:=ae.get a8 (by simp);have b1:=ae.get b6 (by simp);have bd:b<M2.length:=(Z0a.1 a9).1;obtain⟨M3,ab⟩:∃M3,M3=M2.set b (.cells 27 [I 0,I 0,I 0,I kind,S lab,hv,wv,kw]):=⟨_,rfl⟩;have a4:∀f,f≠b->M3[f]?=M2[f]?:=λf hf=>by rw[ab,Z0e (λe=>hf e.symm)]
  have y:M3[b]?=some (.cells 27 [I 0,I 0,I 0,I kind,S lab,hv,wv,kw]):=by rw[ab];simp[bd]
  have ax:M3[b+1]?=some z8:=by rw[a4 _ (by omega)];exact b1
  have bo:M3.length=M2.length:=by rw[ab];simp
  have f1:=e1.stay (M':=M3) (λf h=>a4 f (by have:=e1.lat f h;omega));have f2:=e2.stay (M':=M3) (λf h=>a4 f (by have:=e2.lat f h;omega));have f3:=e3.stay (M':=M3) (λf h=>a4 f (by have:=e3.lat f h;omega));have a7:M3.set b (.cells 27 [I 0,I 0,I 0,I kind,S lab,hv,wv,kw])=M3:=List.set_eq_of_getElem? y;simp -dsimp -implicitDefEqProofs[A0h a9];rw[<-ab];have az:=D3T f1 f2;simp -dsimp -implicitDefEqProofs[D0w,A0h y,a7,A0b y,az];have b4:∀M5,(∀j,j<b->M5[j]?=M3[j]?)->M3.length<=M5.length->Grow M M5:=λM5 h1 h2=>⟨by have:=ba.1;have:=ae.1;omega,λj hj _=>by rw[h1 j (by omega),a4 j (by omega)];exact(ba.trans ae).2 j hj (by simp)⟩;have bq:b+2<=M3.length:=by have:=ae.1;omega
  clear az a7 ab a4 a9 b1 ag a8 b6;refine A7L (.exit 0) (λT M5=>T 1=.ptr b 0/\T 2=.ptr (b+1) 0/\M5[b]?=some (.cells 27 [I 0,I 0,I 0,I kind,S lab,hv,wv,kw])/\M5[b+1]?=some z8/\M5.length=M3.length/\(∀j,j<b->M5[j]?=M3[j]?)/\A4e 152 4 A0H.row M1.length M5 hv hd/\A4e 152 4 A0H.row M1.length M5 wv ws/\Arr 27 8 A0a.row M1.length M5 kw ks) ?_ ?_
  .refine A0y hSt 2 17 (λT M5=>∃k:Nat,k<=2/\T 1=.ptr b 0/\T 2=.ptr (b+1) 0/\T 15=.list 1 [[hv],[wv]] .full/\T 16=I 2/\T 17=I k/\M5[b]?=some (.cells 27 [I 0,I 0,I 0,I kind,S lab,hv,wv,kw])/\M5[b+1]?=some z8/\M5.length=M3.length/\(∀j,j<b->M5[j]?=M3[j]?)/\A4e 152 4 A0H.row M1.length M5 hv hd/\A4e 152 4 A0H.row M1.length M5 wv ws/\Arr 27 8 A0a.row M1.length M5 kw ks) ?_ ?_
   .exact⟨0,by omega,by simp,by simp,by simp,by simp,by simp,y,ax,rfl,λ_ _=>rfl,f1,f2,f3⟩
   clear y ax f1 f2 f3;rintro T M5 ⟨k,k1,t1,t2,w,s,r,d,l,o,n,f1,f2,f3⟩;by_cases hk:k<2;case neg=>
    (have am:¬(k:Int)<2:=by omega);simp -dsimp -implicitDefEqProofs[t1,t2,w,s,r,am]
    exact⟨d,l,o,n,f1,f2,f3⟩
   (have am:(k:Int)<2:=by omega);have w1:=A1E (i:=k) (by omega)
   obtain⟨xv,ai⟩:∃xv,xv=if k=0 then hv else wv:=⟨_,rfl⟩;obtain⟨xs,ac⟩:∃xs,xs=if k=0 then hd else ws:=⟨_,rfl⟩;(have bm:∀x∈xs,B1z x:=by rw[ac];split<;>assumption);(have bu:xs.length<=100000000:=by rw[ac];split<;>assumption);(have af:∀M6:Mem,A4e 152 4 A0H.row M1.length M6 hv hd->A4e 152 4 A0H.row M1.length M6 wv ws->A4e 152 4 A0H.row M1.length M6 xv xs:=λM6 h1 h2=>by rw[ai,ac];by_cases c:k=0<;>simp only[c,Z0M,Z1o]<;>assumption);have aq:∀(M6 M7:Mem) (f:Nat),obj xv=some f->A4e 152 4 A0H.row M1.length M7 xv xs->(∀j,j≠f->M7[j]?=M6[j]?)->A4e 152 4 A0H.row M1.length M6 hv hd->A4e 152 4 A0H.row M1.length M6 wv ws->Arr 27 8 A0a.row M1.length M6 kw ks->A4e 152 4 A0H.row M1.length M7 hv hd/\A4e 152 4 A0H.row M1.length M7 wv ws/\Arr 27 8 A0a.row M1.length M7 kw ks:=λM6 M7 f hf hx hj g1 g2 g3=>by
    by_cases c:k=0
    .rw[ai,Z0d c]at hf hx;rw[ac,Z0d c]at hx;exact⟨hx,g2.stay λq hq=>hj q λe=>b8 f hf (e▸hq),g3.stay λq hq=>hj q λe=>bg f hf (e▸hq)⟩
    .rw[ai,Z0c c]at hf hx;rw[ac,Z0c c]at hx;exact⟨g1.stay λq hq=>hj q λe=>b8 f (e▸hq) hf,hx,g3.stay λq hq=>hj q λe=>b9 f hf (e▸hq)⟩
   have a3:([[hv],[wv]]:List (List AV))[k]?=some [xv]:=by rw[ai];(have:k=0\/k=1:=by omega);rcases this with rfl|rfl<;>rfl
   (have a2:([[hv],[wv]]:List (List AV)).getD k []=[xv]:=by rw[Z2O,a3];rfl);have au:=(af M5 f1 f2).len (P:=prog) (t:=24) (e':=152) (by simp)
   simp -dsimp -implicitDefEqProofs[t1,t2,w,s,r,am,a3,a2,au];refine A7L (.exit 2) (λT M6=>T 1=.ptr b 0/\T 2=.ptr (b+1) 0/\T 15=.list 1 [[hv],[wv]] .full/\T 16=I 2/\T 17=I k/\M6[b]?=some (.cells 27 [I 0,I 0,I 0,I kind,S lab,hv,wv,kw])/\M6[b+1]?=some z8/\M6.length=M3.length/\(∀j,j<b->M6[j]?=M3[j]?)/\A4e 152 4 A0H.row M1.length M6 hv hd/\A4e 152 4 A0H.row M1.length M6 wv ws/\Arr 27 8 A0a.row M1.length M6 kw ks) ?_ ?_
   .refine A0y hSt xs.length 23 (λT M6=>∃i:Nat,i<=xs.length/\T 1=.ptr b 0/\T 2=.ptr (b+1) 0/\T 15=.list 1 [[hv],[wv]] .full/\T 16=I 2/\T 17=I k/\T 4=xv/\T 22=I xs.length/\T 23=I i/\M6[b]?=some (.cells 27 [I 0,I 0,I 0,I kind,S lab,hv,wv,kw])/\M6[b+1]?=some z8/\M6.length=M3.length/\(∀j,j<b->M6[j]?=M3[j]?)/\A4e 152 4 A0H.row M1.length M6 hv hd/\A4e 152 4 A0H.row M1.length M6 wv ws/\Arr 27 8 A0a.row M1.length M6 kw ks) ?_ ?_
    .exact⟨0,by omega,by simp[t1],by simp[t2],by simp[w],by simp[s],by simp[r],by simp,by simp,by simp,d,l,o,n,f1,f2,f3⟩
    clear d l o n f1 f2 f3 t1 t2 w s r au a3 a2;rintro T M5 ⟨i,i1,t1,t2,w,s,r,t4,b5,bf,d,l,o,n,f1,f2,f3⟩;by_cases hi:i<xs.length;case neg=>
     (have z:¬(i:Int)<xs.length:=by omega);simp -dsimp -implicitDefEqProofs[t1,t2,w,s,r,t4,b5,bf,z]
     exact⟨d,l,o,n,f1,f2,f3⟩
    (have z:(i:Int)<xs.length:=by omega);have w2:IntKind.i64.wrap ((i:Int)+1)=((i+1:Nat):Int):=by rw[A0J (by omega) (by omega)];omega
    have hx:Arr 152 4 A0H.row M1.length M5 xv xs:=by
     rcases af M5 f1 f2 with⟨_,h⟩|h
     .rw[h]at hi;simp at hi
     .exact h
    obtain⟨f,g,M6,a1,ap,ao,bj,p⟩:=D1T hx hi (bm _ (Z0q hi));(have a6:obj xv=some f:=by rw[a1];rfl);have bi:=hx.lat f a6;obtain⟨g1,g2,g3⟩:=aq M5 M6 f a6 (.inr ao) p f1 f2 f3;(have an:M6[b]?=some (.cells 27 [I 0,I 0,I 0,I kind,S lab,hv,wv,kw]):=by rw[p b (by omega)];exact d);(have av:M6[b+1]?=some z8:=by rw[p (b+1) (by omega)];exact l);rw[a1]at t4;simp -dsimp -implicitDefEqProofs[t1,t2,w,s,r,t4,b5,bf,z,hi,C6n,ap,w2];refine⟨⟨i+1,by clear w2;omega,a1.symm,rfl,an,av,by omega,λj hj=>by rw[p j (by omega)];exact n j hj,g1,g2,g3⟩,by clear w2;omega⟩
   have b3:=r;clear d l o n f1 f2 f3 t1 t2 w s r au a3 a2;rintro T M5 ⟨t1,t2,w,s,r,d,l,o,n,f1,f2,f3⟩;simp -dsimp -implicitDefEqProofs[t1,t2,w,s,r,b3,w1];refine⟨⟨k+1,by clear w1;omega,rfl,d,l,o,n,f1,f2,f3⟩,by clear w1;omega⟩
  clear y ax f1 f2 f3;rintro T M5 ⟨t1,t2,d,l,o,n,f1,f2,f3⟩;have ak:=f3.own.len (P:=prog) (t:=25) (e:=27) underlying25;simp -dsimp -implicitDefEqProofs[t1,t2,A0b d,ak];refine A0y hSt ks.length 36 (λT M6=>∃i:Nat,i<=ks.length/\T 1=.ptr b 0/\T 2=.ptr (b+1) 0/\T 35=I ks.length/\T 36=I i/\M6[b]?=some (.cells 27 [I 0,I 0,I 0,I kind,S lab,hv,wv,kw])/\M6[b+1]?=some z8/\M3.length<=M6.length/\(∀j,j<b->M6[j]?=M3[j]?)/\A4e 152 4 A0H.row M1.length M6 hv hd/\A4e 152 4 A0H.row M1.length M6 wv ws/\Arr 27 8 A0a.row M1.length M6 kw ks) ?_ ?_
  .exact⟨0,by omega,by simp[t1],by simp[t2],by simp,rfl,d,l,by omega,n,f1,f2,f3⟩
  clear d l o n f1 f2 f3 t1 t2 ak;rintro T M5 ⟨i,i1,t1,t2,ah,aj,d,l,o,n,f1,f2,f3⟩;by_cases hi:i<ks.length;case neg=>
   (have z:¬(i:Int)<ks.length:=by omega);have bb:b+1<M5.length:=(Z0a.1 l).1
   (have hs:∀X f,f≠b+1->(M5.set (b+1) X)[f]?=M5[f]?:=λX f h1=>by rw[Z0e (by omega)]);simp -dsimp -implicitDefEqProofs[t1,t2,ah,aj,z,A0b d,A0h l,A0z,bb]
   refine⟨b4 _ (λj hj=>by rw[hs _ j (by omega)];exact n j hj) (by simpa using o),?_⟩;rw[A0a.row_eq,A3T];have l1:=f1.lat;have l2:=f2.lat;have l3:=f3.lat;have g1:=(f1.stay (M':=M5.set (b+1) (.cells 27 [I 0,I 0,I 0,I kind,S lab,hv,wv,kw])) (λf h=>hs _ f (by have:=l1 f h;omega))).weak (m:=b) (by omega);have g2:=(f2.stay (M':=M5.set (b+1) (.cells 27 [I 0,I 0,I 0,I kind,S lab,hv,wv,kw])) (λf h=>hs _ f (by have:=l2 f h;omega))).weak (m:=b) (by omega);have g3:=f3.stay (M':=M5.set (b+1) (.cells 27 [I 0,I 0,I 0,I kind,S lab,hv,wv,kw])) (λf h=>hs _ f (by have:=l3 f h;omega));exact .agg (.same trivial (.same trivial (.same trivial (.same trivial (.same trivial (g1.still (λ_=>rfl) A5v (g2.still (λ_=>rfl) A5v (A3i A0a.row_len A2U g3.own (λf h=>by have:=l3 f h;omega))))))))) .nil
  have z:(i:Int)<ks.length:=by omega
  have w1:=A1E (i:=i) (by omega);have a0:ks[i]∈ks:=Z0q hi;have bt:=A2u a0;have:=A0a.kid_lt (u:=.mk idZ kind lab hd ws ks) a0;have aa:=λM=>B9X ks[i] (.list 8 (A0q ks[i].kids) .no) M (.inl rfl) (al _ a0) (ar _ a0) (by omega) (ay _ a0);rw[show A6V ks[i] (.list 8 (A0q ks[i].kids) .no)=ks[i].row from(ks[i].row_eq).symm]at aa;obtain⟨f,g,M6,a1,bk,ap,ao,bj,p⟩:=D2r f3 hi;have a6:obj kw=some f:=by rw[a1];rfl
  have bi:=f3.lat f a6;simp -dsimp -implicitDefEqProofs[t1,t2,ah,aj,z];refine B8z hSt (A0t gl) (λk=>if k=1\/k=4\/k=7 then 1 else if k=10 then 2 else 0) (λk=>if k=7 then f else b) (λi k=>i==7&&k==10) (λk=>if k=10 then[b]else[b,f]) (by intro i k _ h;by_cases h7:i=7<;>by_cases h10:k=10<;>simp[h7,h10]at h|-) (by rfl) (by kernel_rfl) ?_;rw[a1]at d;simp -dsimp -implicitDefEqProofs[t1,t2,ah,aj,A0b d,A1a,A5n,bk];refine⟨hi,A1G func180 aa ?_⟩;simp -dsimp -implicitDefEqProofs[t1,t2,ah,aj,z,hi,ap,w1];have an:M6[b]?=some (.cells 27 [I 0,I 0,I 0,I kind,S lab,hv,wv,kw]):=by rw[p b (by omega),a1];exact d
  have av:M6[b+1]?=some z8:=by rw[p (b+1) (by omega)];exact l
  exact⟨p b (by omega),⟨i+1,by clear w1;omega,by simp,an,av,by omega,λj hj=>by rw[p j (by omega)];exact n j hj,f1.stay λq hq=>p q λe=>bg q hq (e▸a6),f2.stay λq hq=>p q λe=>b9 q hq (e▸a6),ao⟩,by clear w1;omega⟩
termination_by u=>SizeOf.sizeOf u
end
mutual
def A2A(x:IdD):A0a->List A0a
 |.mk id k l h w ks=>if id=x then[.mk id k l h w ks]else match A4U x ks with
  |[]=>[]
  |r::rs=>.mk id k l h w ks::r::rs
def A4U(x:IdD):List A0a->List A0a
 |[]=>[]
 |k::ks=>match A2A x k with
  |[]=>A4U x ks
  |r::rs=>r::rs
end
def A7l:List A0a->AV
 |[]=>A0x
 |u::r=>.list 8 (A0q (u::r)) .no
mutual
def B0A(x:IdD):∀u:A0a,(A2A x u).length<=A0j u
 |.mk id k l h w ks=>by
  have:=B9b x ks;rw[A2A,A0j];split
  .simp
  .split
   .simp
   .rename_i r rs e;rw[e]at this;simp at this|-;omega
def B9b(x:IdD):∀ks:List A0a,(A4U x ks).length<=A0f ks
 |[]=>by rw[A4U];simp
 |k::ks=>by
  have h1:=B0A x k;have h2:=B9b x ks;rw[A4U,A0f];split
  .omega
  .rename_i r rs e;rw[e]at h1;omega
end
mutual
def A8x(x:IdD):∀u:A0a,A1i x u=(A2A x u).getLast?
 |.mk id k l h w ks=>by
  have:=B6I x ks;rw[A2A,A1i];split
  .rfl
  .rw[this];cases A4U x ks with
   |nil=>rfl
   |cons r rs=>simp
def B6I(x:IdD):∀ks:List A0a,A9Y x ks=(A4U x ks).getLast?
 |[]=>by rw[A4U,A9Y];rfl
 |k::ks=>by
  have h1:=A8x x k;have h2:=B6I x ks;rw[A4U,A9Y,h1,h2];cases A2A x k with
  |nil=>rfl
  |cons r rs=>
   cases h:(r::rs).getLast? with
   |none=>simp at h
   |some v=>simp[h]
end
def B6S{x:IdD}{u:A0a}(h:A2A x u≠[]):A7l (A2A x u)=.list 8 (A0q (A2A x u)) .no:=by
 cases e:A2A x u with
 |nil=>exact absurd e h
 |cons r rs=>rfl
def C2q(n:Nat)(l:List A0a):bdd n (.list 8 (A0q l) .no):=by simp only[bdd,Z1M];exact B5G n l
def B0D(l:List A0a):(A0q l).flatten=l.flatMap A0a.row:=by rw[A3T];simp[List.flatMap]
def A9h{M:Mem}{n:Nat}{v:AV}{l:List A0a}(h:A1b 27 8 A0a.row M v l)(hn:A1g n v):Still M n (bdd n) [v] [.list 8 (A0q l) .no]:=by rw[A3T];exact A3i A0a.row_len A2U h hn
section
variable (gl:Nat->AV)
def B2n:∀(u:A0a) (x:IdD) (M:Mem),u.good->A0j u<=1000->A0c (WC gl) 88 [.agg u.row,.agg x.row] M (λv M'=>v=A7l (A2A x u)/\M'=M)
 |.mk id kind lab hd ws ks,x,M,hg,hc=>by
  obtain⟨_,_,a3,_,a1,_,a4,z,o⟩:=(A0a.good_iff _).1 hg;have o:∀k∈ks,k.good:=o;have a2:1+A0f ks<=1000:=by rwa[A0j]at hc
  have a0:=A1Q ks;obtain⟨u,hu⟩:∃u,u=A0a.mk id kind lab hd ws ks:=⟨_,rfl⟩;have g:(A0a.mk id kind lab hd ws ks).row=[I id.act,I id.item,I id.n,I kind,S lab,.list 4 (A0g hd) .no,.list 4 (A0g ws) .no,.list 8 (A0q ks) .no]:=by rw[A0a.row]
  have hx:x.row=[I x.act,I x.item,I x.n]:=rfl;have he:=B3h id x;refine A0c.dataX ?_;rw[g,hx];refine A0o (hQ [27,29]) func88 ?_;by_cases h0:id=x
  .rw[Z0v h0]at he;(have hr:A2A x (.mk id kind lab hd ws ks)=[.mk id kind lab hd ws ks]:=by rw[A2A,Z0d h0]);rw[hr];simp -dsimp -implicitDefEqProofs[he,A0n,A0W,AV.storable,AV.cells];refine⟨Grow.refl _,?_⟩;have hb:=C2q M.length [.mk id kind lab hd ws ks];simp only[A7l];rw[A0q,A0q,g]at hb|-;exact .dis hb .nil
  rw[Z0y h0]at he;have hr:A2A x (.mk id kind lab hd ws ks)=match A4U x ks with
   |[]=>[]
   |r::rs=>.mk id kind lab hd ws ks::r::rs:=by rw[A2A,Z0c h0]
  rw[hr];generalize hR:A4U x ks=R;simp -dsimp -implicitDefEqProofs[he];refine A0y (hQ [27,29]) ks.length 17 (λT M1=>∃i:Nat,Grow M M1/\i<=ks.length/\T 2=.cptr [I id.act,I id.item,I id.n,I kind,S lab,.list 4 (A0g hd) .no,.list 4 (A0g ws) .no,.list 8 (A0q ks) .no]/\T 3=.cptr [I x.act,I x.item,I x.n]/\T 15=.list 8 (A0q ks) .no/\T 16=I ks.length/\T 17=I i/\R=A4U x (ks.drop i)) ?_ ?_
  .exact⟨0,Grow.refl _,by omega,by simp,by simp,by simp,by simp,by simp,by simp[hR]⟩
  rintro T M1 ⟨i,j,i1,t2,t3,c,a,b,ho⟩;by_cases hi:i<ks.length;case neg=>
   (have p:¬(i:Int)<ks.length:=by omega);rw[show ks.drop i=[]from Z0o (by omega),A4U]at ho
   subst ho;simp -dsimp -implicitDefEqProofs[t2,t3,c,a,b,p];exact⟨j,.same trivial .nil⟩
  have p:(i:Int)<ks.length:=by omega
  have w1:=A1E (i:=i) (by omega);have d:ks[i]∈ks:=Z0q hi;have a5:=A2u d;rw[Z0i hi,A4U]at ho;obtain⟨M2,q⟩:∃M2,M2=M1++[A0p.cells 27 ks[i].row]:=⟨_,rfl⟩;have m:Grow M1 M2:=by rw[q];exact A0d.app none _ _
  have t:M2[M1.length]?=some (A0p.cells 27 ks[i].row):=by rw[q];simp
  have:=A0a.kid_lt (u:=.mk id kind lab hd ws ks) d;have h:=B2n ks[i] x M2 (o _ d) (by omega);have l:=B0A x ks[i];rw[hx]at h;simp -dsimp -implicitDefEqProofs[t2,t3,c,a,b,hi,p,A0l,A0m,A0e,AV.storable,AV.cells];rw[<-q];simp -dsimp -implicitDefEqProofs[t2,t3,c,a,b,A0b t];refine A0i func88 h ?_;cases hw:A2A x ks[i]with
  |nil=>rw[hw]at ho;simp -dsimp -implicitDefEqProofs[t2,t3,c,a,b,w1,A7l];exact⟨⟨j.trans m,i+1,by clear w1;omega,rfl,ho⟩,by clear w1;omega⟩
  |cons r rs=>rw[hw]at ho l;subst ho;(have w:A1J prog 25 1 [(0,.agg [I id.act,I id.item,I id.n,I kind,S lab,.list 4 (A0g hd) .no,.list 4 (A0g ws) .no,.list 8 (A0q ks) .no])] M2=some (.vref M2.length 0 8 0 1,M2++[.vec 27 8 [I id.act,I id.item,I id.n,I kind,S lab,.list 4 (A0g hd) .no,.list 4 (A0g ws) .no,.list 8 (A0q ks) .no] 0 [(0,1)]]):=by simp[A1J,A0W,AV.storable,AV.cells]);(have s:A0q (r::rs)=r.row::A0q rs:=by rw[A0q]);simp -dsimp -implicitDefEqProofs[t2,t3,c,a,b,A7l,s,w];rw[<-s,<-g];have y:A1b 27 8 A0a.row (M2++[.vec 27 8 (A0a.mk id kind lab hd ws ks).row 0 [(0,1)]]) (.vref M2.length 0 8 0 1) [.mk id kind lab hd ws ks]:=.inr ⟨M2.length,0,[(0,1)],rfl,by simp,by simp[List.lookup]⟩;refine A3p (C:=WC gl) (enc:=A0a.row) (e:=27) (sz:=8) (news:=r::rs) A7P B2g B1T A0a.row_len y (by simp only[A0A,B0D,B3a];simp) (by simp at l|-;omega) rfl ?_;intro v' M3 q1 q2 q3 _;obtain⟨r1,r2⟩:=A2D (X:=[]) ((j.trans m).trans (A0d.app none _ [.vec 27 8 (A0a.mk id kind lab hd ws ks).row 0 [(0,1)]])) (v:=.vref M2.length 0 8 0 1) (λf hf=>by simp at hf;have:=(j.trans m).1;omega) (by simpa using q2) (by simpa using q3);simp -dsimp -implicitDefEqProofs;exact⟨r1,A9h q1 r2⟩
termination_by u=>SizeOf.sizeOf u
end
section
def A5k(l:List A0a)(i:Nat)(h:i<l.length):(A0q l)[i]?=some (l[i]).row:=by rw[A3T];simp[h]
def D7Z{x:IdD}{u v:A0a}(h:(A2A x u).getLast?=some v):v.id=x/\v∈A5m u:=by rw[<-A8x]at h;rw[B0a]at h;exact⟨by have:=List.find?_some h;simpa using this,Z3m h⟩
mutual
def C4I:∀u:A0a,Fit u->∀v∈A5m u,Fit v
 |.mk a b c d e ks,h,v,hv=>by
  rw[A5m]at hv;rcases Z0t.1 hv with rfl|hv
  .exact h
  .refine C6f ks (λk hm=>?_) v hv;have h1:=((A0a.good_iff _).1 h.1).2.2.2.2.2.2.2.2;have h2:=A3g.1 (A3t _ h.2.1).2;have h3:=h.2.2;have h4:=A2u hm;rw[A0j]at h3;exact⟨h1 k hm,h2 k hm,by omega⟩
def C6f:∀ks:List A0a,(∀k∈ks,Fit k)->∀v∈A4Q ks,Fit v
 |[],_,v,hv=>by rw[A4Q]at hv;simp at hv
 |k::ks,h,v,hv=>by
  rw[A4Q]at hv;rcases Z0P.1 hv with hv|hv
  .exact C4I k (h k (by simp)) v hv
  .exact C6f ks (λq hq=>h q (by simp[hq])) v hv
end
section
variable (gl:Nat->AV)
def B7T(u:A0a)(x:IdD)(M:Mem)(hf:Fit u):A0c (WC gl) 32 [.agg u.row,.agg x.row] M (λv M'=>v=.tuple [.agg (A2p (A1i x u)),B (A1i x u).isSome]/\M'=M):=by
 refine A0c.dataX ?_;have hx:x.row=[I x.act,I x.item,I x.n]:=rfl;obtain⟨Ma,c⟩:∃Ma,Ma=M++[z8]:=⟨_,rfl⟩;have q:Grow M Ma:=by rw[c];exact A0d.app none _ _
 have d:Ma[M.length]?=some z8:=by rw[c];simp
 have b:=B2n gl u x Ma hf.1 hf.2.2;have o:=B0A x u;have a5:=hf.2.2;have a2:=A8x x u;rw[u.row_eq,hx]at b|-;rw[a2];refine A0o hB func32 ?_;simp -dsimp -implicitDefEqProofs[A0l];rw[<-c];refine A0i func88 b ?_;generalize hr:A2A x u=r at*;rcases Z3F r with rfl|⟨rs,w,rfl⟩
 .have t:M.length<Ma.length:=(Z0a.1 d).1;simp -dsimp -implicitDefEqProofs[A7l,A0h d,A0K,A0I,A0z t,A0k];exact⟨A1o q (Z0n _),.tuple (.same (C1Z _ none) (.same trivial .nil)) .nil⟩
 .rw[List.concat_eq_append]at*;have hw:=D7Z (x:=x) (u:=u) (v:=w) (by rw[hr];simp);have g:=C4I u hf w hw.2;have z:A7l (rs++[w])=.list 8 (A0q (rs++[w])) .no:=by rw[<-hr];exact B6S (by rw[hr];simp)
  have hi:rs.length<(rs++[w]).length:=by simp
  have a0:(A0q (rs++[w]))[rs.length]?=some w.row:=by rw[A5k _ _ hi];simp
  have w1:IntKind.i64.wrap (rs.length:Int)=rs.length:=by rw[A0J (by omega) (by simp at o;omega)]
  have y:¬(rs.length:Int)+1=0:=by omega
  have l:(rs.length:Int)<rs.length+1:=by omega
  have i:=B6k gl w (.list 8 (A0q w.kids) .no) Ma (.inl rfl) g.1 g.2.1 g.2.2;rw[show A6V w (.list 8 (A0q w.kids) .no)=w.row from(w.row_eq).symm]at i;rw[z];simp -dsimp -implicitDefEqProofs[y,w1,a0,l];refine A0s func89 i ?_;rintro _ M2 ⟨hv,wv,kw,rfl,a⟩;obtain⟨p,a4⟩:=a.still;have j:=p.get d (by simp);have s:M.length<M2.length:=(Z0a.1 j).1;simp -dsimp -implicitDefEqProofs[A0h j,A0K,A0I,A0z s,A0k];have a3:Ma.length=M.length+1:=by rw[c];simp
  obtain⟨M3,e⟩:∃M3,M3=M2.set M.length (A0p.cells 27 (D5n w hv wv kw)):=⟨_,rfl⟩;have hs:∀f,f≠M.length->M3[f]?=M2[f]?:=λf h1=>by rw[e,Z0e (by omega)]
  have l1:=a.h.lat;have l2:=a.w.lat;have l3:=a.k.lat;have g1:=(a.h.stay (M':=M3) (λf h=>hs f (by have:=l1 f h;omega))).weak (m:=M.length) (by omega);have g2:=(a.w.stay (M':=M3) (λf h=>hs f (by have:=l2 f h;omega))).weak (m:=M.length) (by omega);have g3:=a.k.stay (M':=M3) (λf h=>hs f (by have:=l3 f h;omega));have a1:Grow M M3:=by rw[e];exact A1o (q.trans p) (Z0n _)
  rw[<-e];refine⟨a1,.tuple ?_ .nil⟩;rw[A2p,w.row_eq,A3T];exact .agg (.same trivial (.same trivial (.same trivial (.same trivial (.same trivial (g1.still (λ_=>rfl) A5v (g2.still (λ_=>rfl) A5v (A3i A0a.row_len A2U g3.own (λf h=>by have:=l3 f h;omega))))))))) (.same trivial .nil)
def D0Q(p:A0a->Bool)(g:FuncId)(cap:List AV)(l:List A0a)(o:Own)(M:Mem)(hl:l.length<=1000)(hp:∀u∈l,A4A (WC gl) g (.agg u.row::cap) M (λv M'=>v=B (p u)/\M'=M)):
 A0c (WC gl) 90 [.list 8 (A0q l) o,.func (.func g) [] cap] M (λv M'=>v=I (A3S p l 0)/\M'=M):=by
 refine A0o hB func90 ?_
 simp -dsimp -implicitDefEqProofs
 refine A0y hB l.length 8 (λT M1=>∃i:Nat,i<=l.length/\M1=M/\T 0=.list 8 (A0q l) o/\T 1=.func (.func g) [] cap/\T 7=I l.length/\T 8=I i/\A3S p l 0=A3S p (l.drop i) i) ?_ ?_
 .exact⟨0,by omega,rfl,by simp,by simp,by simp,by simp,by simp⟩
 .rintro T M1 ⟨i,i1,rfl,t0,t1,t7,t8,ho⟩;by_cases hi:i<l.length
  ·(have a:(i:Int)<l.length:=by omega);have w1:=A1E (i:=i) (by omega)
   have hd:l.drop i=l[i]::l.drop (i+1):=Z0i hi;rw[hd,A3S]at ho;have b:=A5k l i hi;simp -dsimp -implicitDefEqProofs[t0,t1,t7,t8,hi,a,b];refine A1l (hp l[i] (Z0q hi)) ?_;rintro _ _ ⟨rfl,rfl⟩;cases hq:p l[i]
   .rw[hq,Z0c (by simp)]at ho;simp -dsimp -implicitDefEqProofs[t0,t1,t7,t8,w1];exact⟨⟨i+1,by clear w1;omega,rfl,ho⟩,by clear w1;omega⟩
   .rw[hq,Z0d rfl]at ho;simp -dsimp -implicitDefEqProofs[t0,t1,t7,t8,ho]
  ·(have a:¬(i:Int)<l.length:=by omega);rw[show l.drop i=[]from Z0o (by omega)]at ho
   simp -dsimp -implicitDefEqProofs[t0,t1,t7,t8,a,ho,A3S]
def D8u(p:A0a->Bool)(g:FuncId)(cap:List AV)(l:List A0a)(o:Own)(M:Mem)(hl:l.length<=1000)(hp:∀u∈l,A4A (WC gl) g (.agg u.row::cap) M (λv M'=>v=B (p u)/\M'=M)):
 A0c (WC gl) 354 [.list 8 (A0q l) o,.func (.func g) [] cap] M (λv M'=>v=B (l.any p)/\M'=M):=by
 refine A0o hB func354 ?_
 simp -dsimp -implicitDefEqProofs
 refine A0i func90 (D0Q gl p g cap l o M hl hp) ?_
 rw[<-A8H _ l 0]
 simp -dsimp -implicitDefEqProofs
def D8l(u:A0a)(x:IdD)(M:Mem)(hf:Fit u):A0c (WC gl) 91 [.agg u.row,.cptr [I x.act,I x.item,I x.n]] M (λv M'=>v=B (A1i x u).isSome/\M'=M):=by
 have a:=B2n gl u x M hf.1 hf.2.2;have hx:x.row=[I x.act,I x.item,I x.n]:=rfl;have c:=A8x x u;rw[u.row_eq,hx]at a;rw[u.row_eq,c];refine A0o hB func91 ?_;simp -dsimp -implicitDefEqProofs;refine A0i func88 a ?_;cases hr:A2A x u with
 |nil=>simp -dsimp -implicitDefEqProofs[A7l]
 |cons r rs=>
  have b:A0q (r::rs)=r.row::A0q rs:=by rw[A0q]
  have hs:((r::rs).getLast?).isSome=true:=by simp
  simp -dsimp -implicitDefEqProofs[A7l,b,hs]
end
end
section
def E0C{α:Type}(r:List α):r=[]\/(∃w,r=[w])\/∃rs p w,r=rs++[p,w]:=by
 rcases Z3F r with rfl|⟨q,w,rfl⟩
 .exact .inl rfl
 .rcases Z3F q with rfl|⟨rs,p,rfl⟩
  .exact .inr (.inl ⟨w,rfl⟩)
  .exact .inr (.inr ⟨rs,p,w,by simp⟩)
def D8g(x:IdD)(u:A0a):Option A0a:=(A2A x u).dropLast.getLast?
def D8t(x:IdD)(u:A0a):AV:=match D8g x u with
 |none=>.tuple [.agg [I 0,I 0,I 0],I (-1),B false]
 |some p=>.tuple [.agg p.id.row,I (A3S (λk=>(A1i x k).isSome) p.kids 0),B true]
mutual
def C3l(x:IdD):∀u:A0a,∀v∈A2A x u,v∈A5m u
 |.mk id k l h w ks,v,hv=>by
  rw[A2A]at hv;rw[A5m];split at hv
  .simp only[Z1m]at hv;subst hv;simp
  .split at hv
   .simp at hv
   .rename_i r rs e;rcases Z0t.1 hv with rfl|hv
    .simp
    .exact Z1Y _ (B9S x ks v (by rw[e];exact hv))
def B9S(x:IdD):∀ks:List A0a,∀v∈A4U x ks,v∈A4Q ks
 |[],v,hv=>by rw[A4U]at hv;simp at hv
 |k::ks,v,hv=>by
  rw[A4U]at hv;rw[A4Q];split at hv
  .exact Z2v _ (B9S x ks v hv)
  .rename_i r rs e;exact Z1K _ (C3l x k v (by rw[e];exact hv))
end
section
variable (gl:Nat->AV)
def D3s(u:A0a)(x:IdD)(M:Mem)(hf:Fit u):A0c (WC gl) 34 [.agg u.row,.agg x.row] M (λv M'=>v=D8t x u/\M'=M):=by
 refine A0c.dataX ?_;have hx:x.row=[I x.act,I x.item,I x.n]:=rfl;obtain⟨z3,a2⟩:∃z3,z3=A0p.cells 23 [I 0,I 0,I 0]:=⟨_,rfl⟩;obtain⟨Ma,j⟩:∃Ma,Ma=M++[z3]:=⟨_,rfl⟩;have m:Grow M Ma:=by rw[j];exact A0d.app none _ _
 have h:Ma[M.length]?=some (A0p.cells 23 [I 0,I 0,I 0]):=by rw[j,a2];simp
 have q:M.length<Ma.length:=(Z0a.1 h).1;have g:=B2n gl u x Ma hf.1 hf.2.2;have z:=B0A x u;have ae:=hf.2.2;have a1:=C3l x u;unfold D8t D8g;rw[u.row_eq,hx]at g|-;refine A0o hB func34 ?_;simp -dsimp -implicitDefEqProofs[A0l];rw[<-a2,<-j];refine A0i func88 g ?_;generalize hr:A2A x u=r at*;rcases E0C r with rfl|⟨w,rfl⟩|⟨rs,p,w,rfl⟩
 .simp -dsimp -implicitDefEqProofs[A7l,A0h h,A0K,A0I,A0z q,A0k];exact⟨A1o m (Z0n _),.same (by simp[bdd,A1Y]) .nil⟩
 .have a9:A0q [w]=[w.row]:=by rw[A0q,A0q]
  simp -dsimp -implicitDefEqProofs[A7l,a9,A0h h,A0K,A0I,A0z q,A0k];exact⟨A1o m (Z0n _),.same (by simp[bdd,A1Y]) .nil⟩
 .have a5:A7l (rs++[p,w])=.list 8 (A0q (rs++[p,w])) .no:=by rw[<-hr];exact B6S (by rw[hr];simp)
  have hi:rs.length<(rs++[p,w]).length:=by simp
  have aa:(A0q (rs++[p,w]))[rs.length]?=some p.row:=by rw[A5k _ _ hi];simp
  have w1:IntKind.i64.wrap (rs.length:Int)=rs.length:=by rw[A0J (by omega) (by simp at z;omega)]
  have a4:¬(rs.length:Int)+2<2:=by omega
  have y:(rs.length:Int)<rs.length+2:=by omega
  have i:=C4I u hf p (a1 p (by simp));obtain⟨M2,o⟩:∃M2,M2=Ma++[A0p.cells 27 p.row]:=⟨_,rfl⟩;have a0:Grow Ma M2:=by rw[o];exact A0d.app none _ _
  have l:M2[Ma.length]?=some (A0p.cells 27 p.row):=by rw[o];simp
  have s:=a0.get h (by simp);have a3:M.length<M2.length:=(Z0a.1 s).1;have ab:=A1Q p.kids;have ad:A0f p.kids<A0j p:=by obtain⟨a,b,c,d,e,f⟩:=p;rw[A0j];show A0f f<_;omega
  have ac:=i.2.2;have a7:=((A0a.good_iff _).1 i.1).2.2.2.2.2.2.2.2;have a6:=A3g.1 (A3t _ i.2.1).2;have t:=D0Q gl (λk=>(A1i x k).isSome) 91 [.cptr [I x.act,I x.item,I x.n]] p.kids .no M2 (by omega) (λk hk=>A0V func91 rfl rfl (D8l gl k x M2 ⟨a7 k hk,a6 k hk,by have:=A2u hk;omega⟩));rw[a5];simp -dsimp -implicitDefEqProofs[a4,w1,aa,y,A0l,A0m,A0e,A0K,A0I];rw[<-o];rw[A0a.row_eq]at l;simp -dsimp -implicitDefEqProofs[A0b l];refine A0i func90 t ?_;have a8:p.id.row=[I p.id.act,I p.id.item,I p.id.n]:=rfl;simp -dsimp -implicitDefEqProofs[A0b l,A0h s,A0K,A0I,A0z a3,A0k,a8];exact⟨A1o (m.trans a0) (Z0n _),.same (by simp[bdd,A1Y]) .nil⟩
end
end
def kl2(x k:A0a):Bool:=decide (k.kind=x.kind)&&decide (k.label=x.label)
def D9U:IntKind.i64.wrap (-1)=-1:=by decide
def B5W(p x:A0a):Int:=if A1Z p.kind x.kind=false then 9 else if p.kids.any (kl2 x)=true then 10 else 0
section
variable (gl:Nat->AV)
def D3v(k x:A0a)(M:Mem):A0c (WC gl) 355 [.agg k.row,.cptr x.row] M (λv M'=>v=B (kl2 x k)/\M'=M):=by
 rw[k.row_eq,x.row_eq];refine A0o hB func355 ?_;by_cases h1:k.kind=x.kind
 .by_cases h2:k.label=x.label
  .simp -dsimp -implicitDefEqProofs[kl2,h1,h2]
  .have h3:¬x.label=k.label:=λh=>h2 h.symm;simp -dsimp -implicitDefEqProofs[kl2,h1,h2,h3]
 .have h3:¬x.kind=k.kind:=λh=>h1 h.symm;simp -dsimp -implicitDefEqProofs[kl2,h1,h3]
def D4H(a:gl 0=A2h)(p x:A0a)(M:Mem)(hp:p.kids.length<=1000):A0c (WC gl) 284 [.agg p.row,.agg x.row] M (λv M'=>v=I (B5W p x)/\M'=M):=by
 have h2:=D8u gl (kl2 x) 355 [.cptr x.row] p.kids .no M hp (λk _=>A0V func355 rfl rfl (D3v gl k x M));rw[x.row_eq]at h2|-;rw[p.row_eq];refine A0o hB func284 ?_;simp -dsimp -implicitDefEqProofs;refine A0i func152 (A9G gl M a p.kind x.kind) ?_;unfold B5W;cases h:A1Z p.kind x.kind
 .simp -dsimp -implicitDefEqProofs
 .simp -dsimp -implicitDefEqProofs;refine A0i func354 h2 ?_;cases p.kids.any (kl2 x)<;>simp -dsimp -implicitDefEqProofs
def E1g(u:A0a)(x:IdD)(M:Mem)(hf:Fit u)(i:u.id=x):A0c (WC gl) 334 [.agg u.row,.agg x.row] M (λv M'=>v=A0x/\M'=M):=by
 have hx:x.row=[I x.act,I x.item,I x.n]:=rfl;have g:=B2n gl u x M hf.1 hf.2.2;have hr:A2A x u=[u]:=by obtain⟨a,b,c,d,e,f⟩:=u;rw[A2A];exact Z0d i
 have h:A0q [u]=[u.row]:=by rw[A0q,A0q]
 rw[hr]at g;rw[u.row_eq,hx]at g|-;refine A0o hB func334 ?_;simp -dsimp -implicitDefEqProofs;refine A0i func88 g ?_;simp -dsimp -implicitDefEqProofs[A7l,h];refine A0y hB 0 7 (λT M1=>M1=M/\T 5=A0x/\T 7=I (-1)) ?_ ?_
 .simp[D9U]
 .rintro T M1 ⟨rfl,t5,t7⟩;simp -dsimp -implicitDefEqProofs[t5,t7]
def D7F(u x:A0a)(M:Mem)(hf:Fit u)(c:Fit x):A0c (WC gl) 285 [.agg u.row,.agg u.id.row,.agg x.row] M (λv M'=>v=B (decide (8<A1D x+1))/\M'=M):=by
 have hx:u.id.row=[I u.id.act,I u.id.item,I u.id.n]:=rfl;have a:=λM=>E1g gl u u.id M hf rfl;have b:=λM=>(B9x gl x M c.1 c.2.2).mono (Q':=λv M'=>v=I (A1D x)/\M'=M) (λv M' h=>by obtain⟨⟨_,rfl,rfl⟩,rfl⟩:=h;exact⟨rfl,rfl⟩);have e:=B5f x;have d:=c.2.2;rw[u.row_eq,hx]at a|-;rw[x.row_eq]at b|-;refine A0o hB func285 ?_;simp -dsimp -implicitDefEqProofs;refine A0X hB (A0t gl) (λ_=>0) (λ_=>0) (by rfl) (by kernel_rfl) ?_;simp -dsimp -implicitDefEqProofs;refine A1G func334 a ?_;simp -dsimp -implicitDefEqProofs;refine A1G func157 b ?_;have w1:IntKind.i64.wrap (1+(A1D x:Int))=1+A1D x:=by rw[A0J (by omega) (by omega)]
 simp -dsimp -implicitDefEqProofs[w1];rw[show IntKind.i64.wrap 1=1 by decide,w1];omega
def D7n(p:IdD->Bool)(g:FuncId)(cap:List AV)(l:List IdD)(o:Own)(M:Mem)(hl:l.length<=1000)(hp:∀x∈l,A4A (WC gl) g (.agg x.row::cap) M (λv M'=>v=B (p x)/\M'=M)):
 A0c (WC gl) 123 [.list 3 (A4C l) o,.func (.func g) [] cap] M (λv M'=>v=I (A3S p l 0)/\M'=M):=by
 refine A0o hB func123 ?_
 simp -dsimp -implicitDefEqProofs
 refine A0y hB l.length 8 (λT M1=>∃i:Nat,i<=l.length/\M1=M/\T 0=.list 3 (A4C l) o/\T 1=.func (.func g) [] cap/\T 7=I l.length/\T 8=I i/\A3S p l 0=A3S p (l.drop i) i) ?_ ?_
 .exact⟨0,by omega,rfl,by simp,by simp,by simp,by simp,by simp⟩
 .rintro T M1 ⟨i,i1,rfl,t0,t1,t7,t8,ho⟩;by_cases hi:i<l.length
  ·(have a:(i:Int)<l.length:=by omega);have w1:=A1E (i:=i) (by omega)
   have hd:l.drop i=l[i]::l.drop (i+1):=Z0i hi;(have b:(A4C l)[i]?=some l[i].row:=by simp[A4C,hi]);rw[hd,A3S]at ho;simp -dsimp -implicitDefEqProofs[t0,t1,t7,t8,hi,a,b];refine A1l (hp l[i] (Z0q hi)) ?_;rintro _ _ ⟨rfl,rfl⟩;cases hq:p l[i]
   .rw[hq,Z0c (by simp)]at ho;simp -dsimp -implicitDefEqProofs[t0,t1,t7,t8,w1];exact⟨⟨i+1,by clear w1;omega,rfl,ho⟩,by clear w1;omega⟩
   .rw[hq,Z0d rfl]at ho;simp -dsimp -implicitDefEqProofs[t0,t1,t7,t8,ho]
  ·(have a:¬(i:Int)<l.length:=by omega);rw[show l.drop i=[]from Z0o (by omega)]at ho
   simp -dsimp -implicitDefEqProofs[t0,t1,t7,t8,a,ho,A3S]
def D8s(p:IdD->Bool)(g:FuncId)(cap:List AV)(l:List IdD)(o:Own)(M:Mem)(hl:l.length<=1000)(hp:∀x∈l,A4A (WC gl) g (.agg x.row::cap) M (λv M'=>v=B (p x)/\M'=M)):
 A0c (WC gl) 68 [.list 3 (A4C l) o,.func (.func g) [] cap] M (λv M'=>v=B (l.any p)/\M'=M):=by
 refine A0o hB func68 ?_
 simp -dsimp -implicitDefEqProofs
 refine A0i func123 (D7n gl p g cap l o M hl hp) ?_
 rw[<-A8H _ l 0]
 simp -dsimp -implicitDefEqProofs
def C5E(l:List IdD)(o:Own)(x:IdD)(M:Mem)(hl:l.length<=1000):A0c (WC gl) 356 [.list 3 (A4C l) o,.agg x.row] M (λv M'=>v=I (A3S (λy:IdD=>decide (y=x)) l 0)/\M'=M):=by
 have hx:x.row=[I x.act,I x.item,I x.n]:=rfl;rw[hx];refine A0o hB func356 ?_;simp -dsimp -implicitDefEqProofs;refine A0y hB l.length 8 (λT M1=>∃i:Nat,i<=l.length/\M1=M/\T 0=.list 3 (A4C l) o/\T 3=.cptr [I x.act,I x.item,I x.n]/\T 7=I l.length/\T 8=I i/\A3S (λy:IdD=>decide (y=x)) l 0=A3S (λy:IdD=>decide (y=x)) (l.drop i) i) ?_ ?_
 .exact⟨0,by omega,rfl,by simp,by simp,by simp,by simp,by simp⟩
 .rintro T M1 ⟨i,i1,rfl,t0,t3,t7,t8,ho⟩;by_cases hi:i<l.length
  ·(have a:(i:Int)<l.length:=by omega);have w1:=A1E (i:=i) (by omega)
   have hd:l.drop i=l[i]::l.drop (i+1):=Z0i hi;(have b:(A4C l)[i]?=some l[i].row:=by simp[A4C,hi]);have hy:l[i].row=[I l[i].act,I l[i].item,I l[i].n]:=rfl;have he:=B3h x l[i];rw[hd,A3S]at ho;simp -dsimp -implicitDefEqProofs[t0,t3,t7,t8,hi,a];refine A0X hB (A0t gl) (λ_=>0) (λ_=>0) (by rfl) (by kernel_rfl) ?_;simp -dsimp -implicitDefEqProofs[t0,t3,t7,t8,hi,a,b,hy,he];by_cases hq:l[i]=x
   .rw[Z0v hq,Z0d rfl]at ho;simp -dsimp -implicitDefEqProofs[t0,t3,t7,t8,ho,hq]
   .rw[Z0y hq,Z0c (by simp)]at ho;have c:¬x=l[i]:=λh=>hq h.symm;simp -dsimp -implicitDefEqProofs[t0,t3,t7,t8,w1,c];exact⟨⟨i+1,by clear w1;omega,rfl,ho⟩,by clear w1;omega⟩
  ·(have a:¬(i:Int)<l.length:=by omega);rw[show l.drop i=[]from Z0o (by omega)]at ho
   simp -dsimp -implicitDefEqProofs[t0,t3,t7,t8,a,ho,A3S]
def C9F(l:List IdD)(o:Own)(x:IdD)(M:Mem)(hl:l.length<=1000):A0c (WC gl) 287 [.list 3 (A4C l) o,.agg x.row] M (λv M'=>v=B (l.any λy=>decide (y=x))/\M'=M):=by have hx:x.row=[I x.act,I x.item,I x.n]:=rfl;have a:=C5E gl l o x M hl;rw[hx]at a|-;refine A0o hB func287 ?_;simp -dsimp -implicitDefEqProofs;refine A0i func356 a ?_;rw[<-A8H _ l 0];simp -dsimp -implicitDefEqProofs
def C8W(l:List IdD)(x:IdD)(b:Nat)(M:Mem)(hl:l.length<=1000)(hb:M[b]?=some (.cells 85 [.list 3 (A4C l) .no])):A0c (WC gl) 286 [.agg x.row,.ptr b 0] M (λv M'=>v=B (l.any λy=>decide (y=x))/\M'=M):=by have hx:x.row=[I x.act,I x.item,I x.n]:=rfl;have a:=C9F gl l .no x M hl;rw[hx]at a|-;refine A0o hB func286 ?_;simp -dsimp -implicitDefEqProofs[A0b hb];refine A0i func287 a ?_;simp -dsimp -implicitDefEqProofs
end
def A4c(act item:Int):Nat->List ByteArray->List A0H
 |_,[]=>[]
 |n,s::l=>⟨s,act,item,n⟩::A4c act item (n+1) l
@[simp] def B0d(b a:Int):∀(l:List ByteArray) (n:Nat),(A4c b a n l).length=l.length
 |[],_=>rfl
 |s::l,n=>by simp[A4c,B0d b a l (n+1)]
def C2N(d c:Int):∀(a b:List ByteArray) (n:Nat),A4c d c n (a++b)=A4c d c n a++A4c d c (n+a.length) b
 |[],b,n=>by simp[A4c]
 |s::a,b,n=>by rw[Z1a,A4c,C2N d c a b (n+1),A4c,Z1a,Z0x,show n+1+a.length=n+(a.length+1)by omega]
section
variable (gl:Nat->AV)
def C9e(ws:List A0H)(o:Own)(M:Mem)(hl:ws.length<=100000000):A0c (WC gl) 388 [.list 4 (A0g ws) o] M (λv M'=>v=.list 1 (A1d (A0N ws)) .no/\M'=M):=by
 refine A0c.dataX ?_;refine A0o (hQ [16]) func388 ?_;simp -dsimp -implicitDefEqProofs;refine A0y (hQ [16]) ws.length 8 (λT M1=>∃i:Nat,i<=ws.length/\T 0=.list 4 (A0g ws) o/\T 6=.list 4 (A0g ws) o/\T 7=I ws.length/\T 8=I i/\A1b 9 1 A6U M1 (T 3) (A0N (ws.take i))/\Grow M M1/\A1g M.length (T 3)) ?_ ?_
 .exact⟨0,by omega,by simp,by simp,by simp,by simp,by simpa[A0N]using A1b.nil,Grow.refl _,by simp[A1g]⟩
 rintro T M1 ⟨i,i1,t0,t6,t7,t8,hv,hg,hL⟩;by_cases hi:i<ws.length
 .have a:(i:Int)<ws.length:=by omega
  have w1:IntKind.i64.wrap ((i:Int)+1)=(i+1:Nat):=by rw[A0J (by omega) (by omega)];omega
  generalize c:T 3=ov at*;have d:(M1++[A0p.cells 152 [S ws[i].text,I ws[i].act,I ws[i].item,I ws[i].at_]])[M1.length]?=some (A0p.cells 152 [S ws[i].text,I ws[i].act,I ws[i].item,I ws[i].at_]):=by simp
  have b:A1b 9 1 A6U (M1++[A0p.cells 152 [S ws[i].text,I ws[i].act,I ws[i].item,I ws[i].at_]]) ov (A0N (ws.take i)):=hv.keep (A0d.app none M1 _) (by simp);have ht:A0N (ws.take (i+1))=A0N (ws.take i)++[ws[i].text]:=by rw[A0N,A0N,Z1j,Z0m hi,Z0Q];rfl
  simp -dsimp -implicitDefEqProofs[t0,t6,t7,t8,hi,a,c,A0l,A0m,A0e,A0H.row,A0b d,A0n,A0W];refine A3p (C:=WC gl) (enc:=A6U) (e:=9) (sz:=1) (news:=[ws[i].text]) A8Q B1E B9w (λ_=>rfl) b (by simp[A0A]) (by simp[A0N];omega) rfl ?_;intro v' M' h1 h2 h3 _;obtain⟨k1,k2⟩:=A2D hg hL h2 h3;simp -dsimp -implicitDefEqProofs[t0,t6,t7,t8,w1];exact⟨⟨i+1,by clear w1;omega,rfl,by rw[ht];exact h1,k1,k2⟩,by clear w1;omega⟩
 .have a:¬(i:Int)<ws.length:=by omega
  rw[Z0k (by omega)]at hv;simp -dsimp -implicitDefEqProofs[t0,t6,t7,t8,a];refine⟨hg,?_⟩;have:=A3i (enc:=A6U) (λ_=>rfl) (λn x=>by simp[A1Y,bdd]) hv hL;exact this
def C9k(l:List ByteArray)(o:Own)(b a:Int)(n:Nat)(M:Mem)(hl:l.length<=100000000)(hn:n<=1000000000):A0c (WC gl) 296 [.list 1 (A1d l) o,I b,I a,I n] M (λv M'=>v=.list 4 (A0g (A4c b a n l)) .no/\M'=M):=by
 refine A0c.dataX ?_;refine A0o (hQ [29]) func296 ?_;simp -dsimp -implicitDefEqProofs;refine A0y (hQ [29]) l.length 14 (λT M1=>∃i:Nat,i<=l.length/\T 1=I b/\T 2=I a/\T 3=I n/\T 12=.list 1 (A1d l) o/\T 13=I l.length/\T 14=I i/\A1b 152 4 A0H.row M1 (T 9) (A4c b a n (l.take i))/\Grow M M1/\A1g M.length (T 9)) ?_ ?_
 .exact⟨0,by omega,by simp,by simp,by simp,by simp,by simp,by simp,by simpa[A4c]using A1b.nil,Grow.refl _,by simp[A1g]⟩
 rintro T M1 ⟨i,i1,t1,t2,t3,g,d,f,hv,hg,hL⟩;by_cases hi:i<l.length
 .have c:(i:Int)<l.length:=by omega
  have w1:IntKind.i64.wrap ((i:Int)+1)=(i+1:Nat):=by rw[A0J (by omega) (by omega)];omega
  have w2:IntKind.i64.wrap ((n:Int)+i)=(n:Int)+i:=by rw[A0J (by omega) (by omega)]
  generalize j:T 9=ov at*;have h:(A1d l)[i]?=some [S l[i]]:=by simp[A1d,hi]
  have ht:A4c b a n (l.take (i+1))=A4c b a n (l.take i)++[⟨l[i],b,a,(n:Int)+i⟩]:=by rw[Z1j,Z0m hi,C2N];simp[A4c,Z1H (Nat.le_of_lt hi)]
  have m:A0w prog 150 [(0,I b),(1,I a),(2,I ((n:Int)+i))]=some (.agg [I b,I a,I ((n:Int)+i)]):=by simp[A0w,A1e,A1r,A0e,AV.cells,AV.storable]
  have k:A0w prog 152 [(0,S l[i]),(1,.agg [I b,I a,I ((n:Int)+i)])]=some (.agg [S l[i],I b,I a,I ((n:Int)+i)]):=by simp[A0w,A1e,A1r,A0e,AV.cells,AV.storable]
  simp -dsimp -implicitDefEqProofs[t1,t2,t3,g,d,f,hi,c,h,j,w2,m,k,A0n,A0W,AV.storable,AV.cells];refine A3p (C:=WC gl) (enc:=A0H.row) (e:=152) (sz:=4) (news:=[⟨l[i],b,a,(n:Int)+i⟩]) B3v C0S B4k (λ_=>rfl) hv (by simp[A0A,A0H.row]) (by simp;omega) rfl ?_;intro v' M' h1 h2 h3 _;obtain⟨k1,k2⟩:=A2D (X:=[]) hg hL (by simpa using h2) (by simpa using h3);simp -dsimp -implicitDefEqProofs[t1,t2,t3,g,d,f,w1];exact⟨⟨i+1,by clear w1;omega,rfl,by rw[ht];exact h1,k1,k2⟩,by clear w1;omega⟩
 .have c:¬(i:Int)<l.length:=by omega
  rw[Z0k (by omega)]at hv;simp -dsimp -implicitDefEqProofs[t1,t2,t3,g,d,f,c];refine⟨hg,?_⟩;exact A3i (enc:=A0H.row) (λ_=>rfl) A5v hv hL
end
abbrev A8T(act item:Int)(n w:Nat):A0p:=.cells 339 [I act,I item,I n,I w]
section
variable (gl:Nat->AV)
def C3i(ws:List A0H)(o:Own)(c a:Int)(n w b:Nat)(M:Mem)(hl:ws.length<=100000000)(hw:w<=1000000000)(hb:M[b]?=some (A8T c a n w)):A0c (WC gl) 385 [.ptr b 0,.list 4 (A0g ws) o] M (λv M'=>v=.list 4 (A0g (A4c c a w (A0N ws))) .no/\M'=M.set b (A8T c a n (w+ws.length))):=by
 have hs:=λM=>C9e gl ws o M hl
 have hm:=λM=>C9k gl (A0N ws) .no c a w M (by simpa[A0N]using hl) hw
 have w1:IntKind.i64.wrap ((w:Int)+ws.length)=(w:Int)+ws.length:=by rw[A0J (by omega) (by omega)]
 have d:(A0N ws).length=ws.length:=by simp[A0N]
 refine A0o hB func385 ?_
 simp -dsimp -implicitDefEqProofs
 refine A0X hB (A0t gl) (λk=>if k=5\/k=9\/k=13 then 1 else 0) (λ_=>b) (by rfl) (by kernel_rfl) ?_
 simp -dsimp -implicitDefEqProofs
 refine A1G func388 hs ?_
 simp -dsimp -implicitDefEqProofs[A0b hb,A1a,A5n]
 refine A1G func296 hm ?_
 simp -dsimp -implicitDefEqProofs[A0b hb,A0h hb,d,w1,A8T]
end
mutual
def wcU:A0a->Nat
 |.mk _ _ _ h ws ks=>h.length+ws.length+wcL ks
def wcL:List A0a->Nat
 |[]=>0
 |k::ks=>wcU k+wcL ks
end
mutual
def A1B(a i:Int):A0a->Nat->Nat->A0a
 |.mk _ k l h ws ks,n,w=>.mk ⟨a,i,(n+1:Nat)⟩ k l (A4c a i w (A0N h)) (A4c a i (w+h.length) (A0N ws)) (A1A a i ks (n+1) (w+h.length+ws.length))
def A1A(a i:Int):List A0a->Nat->Nat->List A0a
 |[],_,_=>[]
 |k::ks,n,w=>A1B a i k n w::A1A a i ks (n+A0j k) (w+wcU k)
end
def B0B(a i:Int):∀(ks:List A0a) (n w:Nat),(A1A a i ks n w).length=ks.length
 |[],_,_=>by simp[A1A]
 |k::ks,n,w=>by rw[A1A,Z0x,B0B a i ks,Z0x]
def C0m(a i:Int):∀(xs ys:List A0a) (n w:Nat),A1A a i (xs++ys) n w=A1A a i xs n w++A1A a i ys (n+A0f xs) (w+wcL xs)
 |[],ys,n,w=>by simp[A1A,A0f,wcL]
 |x::xs,ys,n,w=>by rw[Z1a,A1A,C0m a i xs ys,A1A,A0f,wcL,Z1a];simp only[Z2j]
def A8m:∀(xs ys:List A0a),A0f (xs++ys)=A0f xs+A0f ys
 |[],ys=>by rw[A0f];simp
 |x::xs,ys=>by rw[Z1a,A0f,A0f,A8m xs ys];omega
def D0E:∀(xs ys:List A0a),wcL (xs++ys)=wcL xs+wcL ys
 |[],ys=>by rw[wcL];simp
 |x::xs,ys=>by rw[Z1a,wcL,wcL,D0E xs ys];omega
def D0s:∀{ks:List A0a} {i:Nat} (h:i<ks.length),wcL (ks.take i)+wcU ks[i]<=wcL ks
 |k::ks,0,h=>by simp[wcL]
 |k::ks,i+1,h=>by have:=D0s (ks:=ks) (i:=i) (by simpa using h);simp only[Z0C,wcL,Z3b];omega
def C5P{M:Mem}{v:AV}{l:List A0a}(h:A1b 27 8 A0a.row M v l){i:Nat}(hi:i<l.length)(y:A0a):∃f g M',v=.vref f g 8 0 l.length/\A1m prog 27 M (.vptr f g (i*8))=some (.agg l[i].row)/\A0m (some 8) M (.vptr f g (i*8)) (.agg y.row)=some M'/\A1b 27 8 A0a.row M' v (l.set i y)/\M'.length=M.length/\∀j,j≠f->M'[j]?=M[j]?:=by
 have e:=h.at_ (P:=prog) (t:=27) A0a.row_len D9l E0d hi
 rcases h with⟨rfl,rfl⟩|⟨f,g,b,rfl,hm,hl⟩
 .simp at hi
 have d:f<M.length:=(Z0a.1 hm).1
 have a:l=l.take i++l[i]::l.drop (i+1):=by rw[<-Z0i hi,Z0S]
 have c:((l.take i).flatMap A0a.row).length=i*8:=by rw[A3c A0a.row_len,Z0E,Z1H (by omega)]
 have k:A0e (l.flatMap A0a.row) (i*8) y.row=(l.set i y).flatMap A0a.row:=by
  have e1:l.set i y=l.take i++y::l.drop (i+1):=Z2T.trans (Z0d hi);rw[e1,Z1r,Z0W];unfold A0e
  conv=>lhs;rw[a]
  rw[Z1r,Z0W,Z2h (by omega),Z0k (by omega),Z0T];congr 2;rw[Z3h,c,Z2d (by rw[c];simp),Z1g,A0a.row_len,Z2E,Z3h,A0a.row_len,Z4h,Z2d (by simp)];rfl
 refine⟨f,g,M.set f (.vec 27 8 ((l.set i y).flatMap A0a.row) g (A1w 8 g (i*8) b)),rfl,?_,?_,.inr ⟨f,g,A1w 8 g (i*8) b,by simp,by simp[d],?_⟩,by simp,λj hj=>Z0e (by omega)⟩
 .obtain⟨p,e1,_,e2,_⟩:=e;simp[hi]at e1;rw[<-e1]at e2;exact e2
 .simp only[A0m,hm,hl];rw[Z0d (by simp[AV.storable,AV.cells];omega)];simp only[AV.cells];rw[k]
 .unfold A1w;rw[Z1W];exact A3m _ hl
def D7k:C4q prog 27=some 120:=by kernel_rfl
def C8V{ks:List A0a}{M:Mem}(hl:ks.length<=1000):∃zs,A4V prog 25 (I ks.length) (I ks.length) M=some (.vref M.length 0 8 0 ks.length,M++[.vec 27 8 zs 0 [(0,ks.length)]])/\A7m prog 25 25 (M++[.vec 27 8 zs 0 [(0,ks.length)]]) (.vref M.length 0 8 0 ks.length) (.list 8 (A0q ks) .no)=some (I ks.length,M++[.vec 27 8 (ks.flatMap A0a.row) 0 [(0,ks.length)]]):=by
 have hz:((List.replicate ks.length (zU)).flatten).length=ks.length*8:=by simp[List.length_flatten,zU]
 refine⟨(List.replicate ks.length zU).flatten,?_,?_⟩
 .have h1:(ks.length:Int).toNat*8<=16777216:=by omega
  have h2:ks.length*8<=16777216:=by omega
  have h3:(120:Int)*ks.length<=281474976710656:=by omega
  simp[A4V,zU,D7k,h2,h3]
 .have a:(ks.flatMap A0a.row).length=ks.length*8:=A3c A0a.row_len ks;have c:A0e (List.replicate ks.length zU).flatten 0 (ks.flatMap A0a.row)=ks.flatMap A0a.row:=by unfold A0e;rw[Z2l,Z1g,Z0I,Z2d (by rw[hz,a];exact Z0n _),Z1b]
  have b:(M++[A0p.vec 27 8 (List.replicate ks.length zU).flatten 0 [(0,ks.length)]])[M.length]?=some (.vec 27 8 (List.replicate ks.length zU).flatten 0 [(0,ks.length)]):=by simp
  have hu:=E3o;simp only[A7m,A7P,E0d,A0A,B3a,B0D,b,List.lookup,Z2V];by_cases h0:ks.length=0
  .have:ks=[]:=Z0z h0;subst this;simp
  .simp only[Z2q,c];simp[h0,A1w,a,-List.length_flatMap]
end Go.Abs
