/- The texts CbL, CbM, CeA, CeB, CeC, CeD, CeE, CeF, CeG, CeH, CeI, CeJ. -/
import Derived.Test.YtmpdkagfplajjaaGreatDoorFG32
import Derived.Test.YtmpdkagfplajjaaGreatDoorFG23
import Derived.Test.YtmpdkagfplajjaaGreatDoorFG25
set_option linter.all false
set_option maxRecDepth 100000
namespace Go.Abs
open Go.Proofs TryTypes Tryz
def A4c{α:Type}(e sz:Nat)(enc:α->List AV)(n:Nat)(M:Mem)(v:AV)(l:List α):Prop:=(v=.list sz [] .no/\l=[])\/Arr e sz enc n M v l
section
variable {α:Type} {e sz n:Nat} {enc:α->List AV} {M M':Mem} {v:AV} {l:List α}
def A4c.store(h:A4c e sz enc n M v l):v.storable=true:=by
 rcases h with⟨rfl,rfl⟩|h
 .rfl
 .exact h.own.store
def A4c.cells(h:A4c e sz enc n M v l):v.cells=[v]:=by
 rcases h with⟨rfl,rfl⟩|h
 .rfl
 .exact h.own.cells
def A4c.len(h:A4c e sz enc n M v l){P}{t e':TypeId}(ht:P.underlying t=some (.slice e')):A1Z P t v=some l.length:=by
 rcases h with⟨rfl,rfl⟩|h
 .simp[A1Z,ht]
 .exact h.own.len ht
def A4c.keep(h:A4c e sz enc n M v l)(hk:Grow M M'):A4c e sz enc n M' v l:=by
 rcases h with h|h
 .exact .inl h
 .exact .inr (h.keep hk)
def A4c.stay(h:A4c e sz enc n M v l)(hk:∀f,obj v=some f->M'[f]?=M[f]?):A4c e sz enc n M' v l:=by
 rcases h with h|⟨h1,h2⟩
 .exact .inl h
 .refine .inr ⟨?_,h2⟩;rcases h1 with h1|⟨f,g,a,rfl,hm,hl⟩
  .exact .inl h1
  .exact .inr ⟨f,g,a,rfl,by rw[hk f rfl];exact hm,hl⟩
def A4c.still(h:A4c e sz enc n M v l)(he:∀x,(enc x).length=sz)(hb:∀n x,A1Q n (enc x)){cs ds}(hr:Still M n (bdd n) cs ds):Still M n (bdd n) (v::cs) (.list sz (l.map enc) .no::ds):=by
 rcases h with⟨rfl,rfl⟩|h
 .exact .same (by simp[bdd,A9S]) hr
 .exact Still.append (a:=[v]) (b:=[.list sz (l.map enc) .no]) (A2W he hb h.own h.lat) hr
end
def A4c.lat{α:Type}{e sz n}{enc:α->List AV}{M}{v}{l}(h:A4c e sz enc n M v l):A1r n v:=by
 rcases h with⟨rfl,rfl⟩|h
 .intro f hf;simp[obj]at hf
 .exact h.lat
def A4c.lt{α:Type}{e sz n}{enc:α->List AV}{M}{v}{l}(h:A4c e sz enc n M v l){f}(hf:obj v=some f):f<M.length:=by
 rcases h with⟨rfl,rfl⟩|h
 .simp[obj]at hf
 .exact h.own.lt hf
def A4c.weak{α:Type}{e sz n m}{enc:α->List AV}{M}{v}{l}(h:A4c e sz enc n M v l)(hm:m<=n):A4c e sz enc m M v l:=by
 rcases h with h|⟨h1,h2⟩
 .exact .inl h
 .exact .inr ⟨h1,λf hf=>by have:=h2 f hf;omega⟩
def Arr.stay{α:Type}{e sz n}{enc:α->List AV}{M M'}{v}{l}(h:Arr e sz enc n M v l)(hk:∀f,obj v=some f->M'[f]?=M[f]?):Arr e sz enc n M' v l:=by
 obtain⟨h1,h2⟩:=h;refine⟨?_,h2⟩;rcases h1 with h1|⟨f,g,a,rfl,hm,hl⟩
 .exact .inl h1
 .exact .inr ⟨f,g,a,rfl,by rw[hk f rfl];exact hm,hl⟩
def D0j{cs part}{off}(h:(cs.drop off).take part.length=part):A0e cs off part=cs:=by
 unfold A0e;rw[<-h,Z0F,Z0X];have e:(cs.drop off).take part.length++cs.drop (off+min part.length (cs.drop off).length)=cs.drop off:=by
  rcases Nat.le_total part.length (cs.drop off).length with hl|hl
  .rw[Z1E hl,<-Z1Y,Z0U]
  .rw[Nat.min_eq_right hl,<-Z1Y,List.drop_length,Z1F,Z0k hl]
 rw[e,Z0U]
abbrev A6T(u:A0a)(kv:AV):List AV:=[I u.id.act,I u.id.item,I u.id.n,I u.kind,S u.label,.list 4 (A0g u.head) .no,.list 4 (A0g u.words) .no,kv]
def C0C(ks:List A0a)(kv:AV):Prop:=kv=.list 8 (A0r ks) .no\/(ks=[]/\kv=A0i)
def C0C.len{ks}{kv}(h:C0C ks kv):A1Z prog 25 kv=some ks.length:=by rcases h with rfl|⟨rfl,rfl⟩<;>simp
def C0C.store{ks}{kv}(h:C0C ks kv):kv.storable=true:=by rcases h with rfl|⟨rfl,rfl⟩<;>rfl
def C0C.cells{ks}{kv}(h:C0C ks kv):kv.cells=[kv]:=by rcases h with rfl|⟨rfl,rfl⟩<;>rfl
structure D4o (M:Mem) (u:A0a) (hv wv kv:AV) (M':Mem):Prop where
 grow:Grow M M'
 h:A4c 152 4 A0H.row M.length M' hv u.head
 w:A4c 152 4 A0H.row M.length M' wv u.words
 k:Arr 27 8 A0a.row M.length M' kv u.kids
 a12:A8B hv wv
 a13:A8B hv kv
 a23:A8B wv kv
abbrev D4X(u:A0a)(hv wv kv:AV):List AV:=[I u.id.act,I u.id.item,I u.id.n,I u.kind,S u.label,hv,wv,kv]
def D4o.still{M M'}{u}{hv wv kv}(h:D4o M u hv wv kv M'):Grow M M'/\Still M' M.length (bdd M.length) [.agg (D4X u hv wv kv)] [.agg u.row]:=by refine⟨h.grow,?_⟩;rw[u.row_eq,A4k];exact .agg (.same trivial (.same trivial (.same trivial (.same trivial (.same trivial (h.h.still (λ_=>rfl) A5t (h.w.still (λ_=>rfl) A5t (A2W A0a.row_len A2J h.k.own h.k.lat)))))))) .nil
def hCp:A2x:=⟨λd=>d !=1,λ_=>false,λd=>d==25⟩
@[simp] def E6h:hCp.imm=λd=>d !=1:=rfl
@[simp] def E4X:hCp.own=λ_=>false:=rfl
@[simp] def E5J:hCp.vec=λd=>d==25:=rfl
section
variable (gl:Nat->AV)
def C2y(l:List A0H)(M:Mem)(hl:l.length<=1000000000):A0d (WC gl) 141 [.list 4 (A0g l) .no] M (λv M'=>A1n 152 4 A0H.row M' v l/\Grow M M'/\A1r M.length v):=by
 refine A0j hW func141 ?_;have tail:∀(K:AV->Mem->Prop) (tg:Tag K),(∀v M',(A1n 152 4 A0H.row M' v l/\Grow M M'/\A1r M.length v)->K v M')->A6a (WC gl) (A1V hW.own (some 7)) (A1V hW.vec (some 7)) 24 24 (.vref M.length 0 4 0 0) (.list 4 (A0g l) .no) (M++[.vec 152 4 [] 0 [(0,0)]]) K tg:=by intro K tg hk;have ho:A1n 152 4 A0H.row (M++[.vec 152 4 [] 0 [(0,0)]]) (.vref M.length 0 4 0 0) []:=.inr ⟨M.length,0,[(0,0)],rfl,by simp,by simp[List.lookup]⟩;refine A3V (C:=WC gl) (enc:=A0H.row) (e:=152) (sz:=4) (news:=l) B5a C2G B5W (λ_=>rfl) ho (by simp[A0z,A0g,List.flatMap]) (by simp;omega) rfl ?_;intro v' M' h1 h2 h3 _;obtain⟨r1,r2⟩:=A2T (X:=[]) (A0c.app none M [.vec 152 4 [] 0 [(0,0)]]) (v:=.vref M.length 0 4 0 0) (λf hf=>by simp at hf;omega) (by simpa using h2) (by simpa using h3);exact hk _ _ ⟨h1,r1,r2⟩
 cases l with
 |nil=>
  simp -dsimp -implicitDefEqProofs[A0g];rw[A9i (.inl rfl) underlying24];intro b;cases b
  .simp -dsimp -implicitDefEqProofs[A1C,A0Z];refine tail _ _ λv M' h=>?_;simp -dsimp -implicitDefEqProofs;exact h
  .simp -dsimp -implicitDefEqProofs;exact⟨.nil,A0c.refl _ _,λf h=>by simp at h⟩
 |cons a l=>simp -dsimp -implicitDefEqProofs[A0g,A1C,A0Z];refine tail _ _ λv M' h=>?_;simp -dsimp -implicitDefEqProofs;exact h
def B8q(l:List A0H)(M:Mem)(hl:l.length<=1000000000):∃r M1,A0d (WC gl) 141 [.list 4 (A0g l) .no] M (λv M'=>v=r/\M'=M1)/\Grow M M1/\A4c 152 4 A0H.row M.length M1 r l/\M1.length<=M.length+1:=by
 by_cases h:l=[]
 .exact⟨_,_,A0d.still (enc:=A0H.row) (λ_=>rfl) A5t (C2y gl l M hl),Grow.refl _,.inl ⟨by rw[h];rfl,h⟩,by omega⟩
 .exact⟨_,_,A0d.repack (enc:=A0H.row) (λ_=>rfl) A5t h (C2y gl l M hl),A0c.app none _ _,.inr ⟨.inr ⟨M.length,0,[(0,l.length)],rfl,by simp,by simp[List.lookup]⟩,λf hf=>by simp at hf;omega⟩,by simp⟩
set_option maxHeartbeats 1000000 in
def B5O:∀(u:A0a) (kv:AV) (M:Mem),C0C u.kids kv->u.good->u.lims->A0o u<=1000->
 A0d (WC gl) 89 [.agg (A6T u kv)] M (λv M'=>∃hv wv kw,v=.agg (D4X u hv wv kw)/\D4o M u hv wv kw M')
 |.mk id kind lab hd ws ks,kv,M,t,hg,hlm,hc=>by
  obtain⟨_,_,bm,_,bf,_,bh,bd,af⟩:=(A0a.good_iff _).1 hg;have af:∀k∈ks,k.good:=af;obtain⟨⟨ar,am,bn,-⟩,ah⟩:=A3f _ hlm;have ar:hd.length<=100000000:=ar;have am:ws.length<=100000000:=am;have ah:=A2Z.1 ah;have bl:1+A0u ks<=1000:=by rwa[A0o]at hc
  have av:=A1O ks;have t:C0C ks kv:=t;have b2:A6T (.mk id kind lab hd ws ks) kv=[I id.act,I id.item,I id.n,I kind,S lab,.list 4 (A0g hd) .no,.list 4 (A0g ws) .no,kv]:=rfl;have b3:∀a b c,D4X (.mk id kind lab hd ws ks) a b c=[I id.act,I id.item,I id.n,I kind,S lab,a,b,c]:=λ_ _ _=>rfl;rw[b2];simp only[b3];refine A0j hCp func89 ?_;obtain⟨b,hb⟩:∃b,b=M.length:=⟨_,rfl⟩;obtain⟨M1,r⟩:∃M1,M1=M++[A0l.cells 27 [I id.act,I id.item,I id.n,I kind,S lab,.list 4 (A0g hd) .no,.list 4 (A0g ws) .no,kv],z8]:=⟨_,rfl⟩;have a5:M1[b]?=some (A0l.cells 27 [I id.act,I id.item,I id.n,I kind,S lab,.list 4 (A0g hd) .no,.list 4 (A0g ws) .no,kv]):=by rw[r,hb];simp
  have ao:M1[b+1]?=some z8:=by rw[r,hb];simp[]
  have a4:Grow M M1:=by rw[r];exact A0c.app none _ _
  have b8:M1.length=b+2:=by rw[r,hb];simp
  have bj:=t.store;have bk:=t.cells;simp -dsimp -implicitDefEqProofs[A0m];rw[<-r,<-hb];clear r;obtain⟨hv,M2,b1,l,d,b9⟩:=B8q gl hd M1 (by omega);obtain⟨wv,M3,ay,s,o,bb⟩:=B8q gl ws M2 (by omega);have a3:=l.get a5 (by simp);have a6:=s.get a3 (by simp);have ab:M2[b]?=M1[b]?:=by rw[a5,a3]
  have aa:M3[b]?=M2[b]?:=by rw[a3,a6]
  have a9:b<M3.length:=(Z0b.1 a6).1;have ac:A0n (some 1) M3 (.ptr b 5) hv=some (M3.set b (.cells 27 [I id.act,I id.item,I id.n,I kind,S lab,hv,.list 4 (A0g ws) .no,kv])):=by rw[A0h a6,d.cells,Z0d ⟨d.store,by simp,rfl⟩];rfl
  have ad:(M3.set b (.cells 27 [I id.act,I id.item,I id.n,I kind,S lab,hv,.list 4 (A0g ws) .no,kv]))[b]?=some (.cells 27 [I id.act,I id.item,I id.n,I kind,S lab,hv,.list 4 (A0g ws) .no,kv]):=by simp[a9]
  have ae:A0n (some 1) (M3.set b (.cells 27 [I id.act,I id.item,I id.n,I kind,S lab,hv,.list 4 (A0g ws) .no,kv])) (.ptr b 6) wv=some (M3.set b (.cells 27 [I id.act,I id.item,I id.n,I kind,S lab,hv,wv,kv])):=by rw[A0h ad,o.cells,Z0d ⟨o.store,by simp,rfl⟩,Z2h];rfl
  refine B7Y hCp (A0G gl) (λk=>if k=1\/k=4 then 1 else if k=2\/k=5\/k=7\/k=9 then 2 else 0) (λ_=>b) (λ_ k=>k==7||k==9) (λk=>if k=7\/k=9 then[]else[b]) (by intro i k _ h;simp at h;simp[h]) (by rfl) (by kernel_rfl) ?_;simp -dsimp -implicitDefEqProofs[A0b a5,A6w];refine A5f (A1Y func141 rfl rfl b1) ?_;refine⟨by simpa using ab,?_⟩;simp -dsimp -implicitDefEqProofs[A0b a3,A6w];refine A5f (A1Y func141 rfl rfl ay) ?_;refine⟨by simpa using aa,?_⟩;simp -dsimp -implicitDefEqProofs[ac,ae];obtain⟨M4,w⟩:∃M4,M4=M3.set b (.cells 27 [I id.act,I id.item,I id.n,I kind,S lab,hv,wv,kv]):=⟨_,rfl⟩;have p:∀f,f≠b->M4[f]?=M3[f]?:=λf hf=>by rw[w,Z0f (λe=>hf e.symm)]
  have az:M4[b]?=some (.cells 27 [I id.act,I id.item,I id.n,I kind,S lab,hv,wv,kv]):=by rw[w];simp[a9]
  have b6:M4[b+1]?=some z8:=by rw[p _ (by omega)];exact s.get (l.get ao (by simp)) (by simp)
  have bg:M4.length=M3.length:=by rw[w];simp
  have e1:=((d.keep s).stay (M':=M4) (λf hf=>p f (by have:=d.lat f hf;omega))).weak (m:=M.length) (by have:=a4.1;omega);have e2:=(o.stay (M':=M4) (λf hf=>p f (by have:=o.lat f hf;have:=l.1;omega))).weak (m:=M.length) (by have:=a4.1;have:=l.1;omega);have ap:A8B hv wv:=λf h1 h2=>by have:=d.lt h1;have:=o.lat f h2;omega
  have a2:Grow M M4:=⟨by have:=a4.1;have:=l.1;have:=s.1;omega,λj hj _=>by rw[p j (by omega)];exact((a4.trans l).trans s).2 j hj (by simp)⟩;have a7:=d.lat;have a8:=o.lat;have be:=d.store;have bc:=l.1;have ba:b+2<=M4.length:=by have:=s.1;omega
  rw[<-w];clear w ac ae ad a6 a3 ab aa a5 ao b1 ay d o;have av:=t.len;simp -dsimp -implicitDefEqProofs[A0b az,av];refine A0v hCp ks.length 17 (λT M5=>∃i:Nat,i<=ks.length/\T 1=.ptr b 0/\T 2=.ptr (b+1) 0/\T 15=kv/\T 16=I ks.length/\T 17=I i/\Grow M4 M5/\Arr 27 8 A0a.row M4.length M5 (T 3) (ks.take i)) ?_ ?_
  .refine⟨0,by omega,by simp,by simp,by simp,by simp,by simp,A0c.refl _ _,?_⟩;simp -dsimp -implicitDefEqProofs;exact .nil
  rintro T M5 ⟨i,i1,t1,t2,z,y,a1,g,hf⟩;generalize an:T 3=ov at*;by_cases hi:i<ks.length;case neg=>
   (have ag:¬(i:Int)<ks.length:=by omega);rw[Z0k (by omega)]at hf
   have aw:=g.get az (by simp);have al:=g.get b6 (by simp);have aq:b<M5.length:=(Z0b.1 aw).1;have ax:b+1<M5.length:=(Z0b.1 al).1;(have b0:A0n (some 1) M5 (.ptr b 7) ov=some (M5.set b (.cells 27 [I id.act,I id.item,I id.n,I kind,S lab,hv,wv,ov])):=by rw[A0h aw,hf.own.cells,Z0d ⟨hf.own.store,by simp,rfl⟩];rfl);(have b4:(M5.set b (.cells 27 [I id.act,I id.item,I id.n,I kind,S lab,hv,wv,ov]))[b]?=some (.cells 27 [I id.act,I id.item,I id.n,I kind,S lab,hv,wv,ov]):=by simp[aq]);(have b7:(M5.set b (.cells 27 [I id.act,I id.item,I id.n,I kind,S lab,hv,wv,ov]))[b+1]?=some z8:=by rw[Z0f (by omega)];exact al);simp -dsimp -implicitDefEqProofs[t1,t2,y,a1,ag,an,b0,A0b b4,A0h b7,A0y,ax];refine⟨hv,wv,ov,⟨rfl,rfl,rfl⟩,?_⟩;(have hs:∀X Y f,f≠b->f≠b+1->((M5.set b X).set (b+1) Y)[f]?=M5[f]?:=λX Y f h1 h2=>by rw[Z0f (by omega),Z0f (by omega)]);refine⟨⟨by have:=a2.1;have:=g.1;simp;omega,λj hj _=>by rw[hs _ _ j (by omega) (by omega)];exact(a2.trans g).2 j hj (by simp)⟩,?_,?_,?_,ap,?_,?_⟩
   .exact(e1.keep g).stay λf h=>hs _ _ f (by have:=a7 f h;omega) (by have:=a7 f h;omega)
   .exact(e2.keep g).stay λf h=>hs _ _ f (by have:=a8 f h;omega) (by have:=a8 f h;omega)
   .have au:=hf.stay (M':=(M5.set b (.cells 27 [I id.act,I id.item,I id.n,I kind,S lab,hv,wv,ov])).set (b+1) (.cells 27 [I id.act,I id.item,I id.n,I kind,S lab,hv,wv,ov])) (λf h=>hs _ _ f (by have:=hf.lat f h;omega) (by have:=hf.lat f h;omega));exact⟨au.own,λf h=>by have:=au.lat f h;have:=a2.1;omega⟩
   .intro f h1 h2;have:=e1.lt h1;have:=hf.lat f h2;omega
   .intro f h1 h2;have:=e2.lt h1;have:=hf.lat f h2;omega
  have ag:(i:Int)<ks.length:=by omega
  have w1:=A1y (i:=i) (by omega);have q:ks[i]∈ks:=Z0u hi;have bi:=A2G q;rcases t with rfl|⟨rfl,_⟩;case inr=>simp at hi
  obtain⟨M6,ak⟩:∃M6,M6=M5++[A0l.cells 27 ks[i].row]:=⟨_,rfl⟩;have aj:Grow M5 M6:=by rw[ak];exact A0c.app none _ _
  have b5:M6[M5.length]?=some (A0l.cells 27 ks[i].row):=by rw[ak];simp
  have:=A0a.kid_lt (u:=.mk id kind lab hd ws ks) q;have a0:=A0d.dataX ((B5O ks[i] (.list 8 (A0r ks[i].kids) .no) M6 (.inl rfl) (af _ q) (ah _ q) (by omega)).mono λv M' ⟨hv,wv,kw,e,h⟩=>by subst e;exact h.still);rw[show A6T ks[i] (.list 8 (A0r ks[i].kids) .no)=ks[i].row from(ks[i].row_eq).symm]at a0;have ai:=hf.keep aj;simp -dsimp -implicitDefEqProofs[z,y,a1,hi,ag,A0m,A0n,A0e,AV.storable,AV.cells];rw[<-ak];simp -dsimp -implicitDefEqProofs[A0b b5];refine A0f func89 a0 ?_;simp -dsimp -implicitDefEqProofs[an,A0p,A0Z,AV.storable,AV.cells];refine A3V (C:=WC gl) (enc:=A0a.row) (e:=27) (sz:=8) (news:=[ks[i]]) A8n B2L B2H A0a.row_len ai.own (by simp[A0z]) (by simp;omega) rfl ?_;intro v' M7 q1 q2 q3 _;simp -dsimp -implicitDefEqProofs[t1,t2,z,y,a1,w1];refine⟨⟨i+1,by clear w1;omega,rfl,ai.grow (g.trans aj) q2,?_⟩,by clear w1;omega⟩;rw[Z0E hi];exact⟨q1,ai.later (g.trans aj).1 q3⟩
termination_by u=>SizeOf.sizeOf u
end
def hSt:A2x:=⟨λd=>d !=1,λ_=>false,λ_=>false⟩
@[simp] def E4M:hSt.imm=λd=>d !=1:=rfl
@[simp] def E4N:hSt.vec=λ_=>false:=rfl
def D1k:A0R prog 256=some 24:=by kernel_rfl
attribute [simp] underlying256 D1k
def D3L{n m}{M}{hv wv}{a b}(h:A4c 152 4 A0H.row n M hv a)(w:A4c 152 4 A0H.row m M wv b):A0p prog 256 2 [(0,hv),(1,wv)]=some (.list 1 [[hv],[wv]] .full):=by rcases h with⟨rfl,_⟩|⟨⟨rfl,_⟩|⟨f,g,hist,rfl,_,_⟩,_⟩<;>rcases w with⟨rfl,_⟩|⟨⟨rfl,_⟩|⟨f2,g2,c,rfl,_,_⟩,_⟩<;>simp[A0p,D1k,A0Z]
def C5R:A0D prog 150 []=some (.agg [I 0,I 0,I 0]):=by simp[A0D,A1l]
def D1P{n}{M}{v}{l}(h:Arr 152 4 A0H.row n M v l){i}(hi:i<l.length)(hb:B0b l[i]):∃f g M',v=.vref f g 4 0 l.length/\A0n (some 3) M (.vptr f g (i*4+1)) (.agg [I 0,I 0,I 0])=some M'/\Arr 152 4 A0H.row n M' v l/\M'.length=M.length/\∀j,j≠f->M'[j]?=M[j]?:=by
 obtain⟨h1,h2⟩:=h
 rcases h1 with⟨rfl,rfl⟩|⟨f,g,a,rfl,hm,hl⟩
 .simp at hi
 have b:f<M.length:=(Z0b.1 hm).1
 have c:A0e (l.flatMap A0H.row) (i*4+1) [I 0,I 0,I 0]=l.flatMap A0H.row:=by refine D0j ?_;rw[<-Z1Y,A7X (enc:=A0H.row) (sz:=4) (λ_=>rfl),Z0j hi,Z1f,C1P hb];rfl
 refine⟨f,g,M.set f (.vec 152 4 (l.flatMap A0H.row) g (A1A 4 g (i*4+1) a)),rfl,?_,⟨.inr ⟨f,g,A1A 4 g (i*4+1) a,rfl,by simp[b],?_⟩,h2⟩,by simp,λj hj=>Z0f (by omega)⟩
 .simp only[A0n,hm,hl];rw[Z0d (by simp;omega)];simp only[AV.cells];rw[c]
 .unfold A1A;exact A4w _ hl
def D2l{n}{M}{v}{l}(h:Arr 27 8 A0a.row n M v l){i}(hi:i<l.length):∃f g M',v=.vref f g 8 0 l.length/\A1D prog 27 M (.vptr f g (i*8))=some (.agg l[i].row)/\A0n (some 8) M (.vptr f g (i*8)) (.agg l[i].row)=some M'/\Arr 27 8 A0a.row n M' v l/\M'.length=M.length/\∀j,j≠f->M'[j]?=M[j]?:=by
 obtain⟨h1,h2⟩:=h
 have c:=h1.at_ (P:=prog) (t:=27) A0a.row_len D8H D9E hi
 rcases h1 with⟨rfl,rfl⟩|⟨f,g,a,rfl,hm,hl⟩
 .simp at hi
 have b:f<M.length:=(Z0b.1 hm).1
 have d:A0e (l.flatMap A0a.row) (i*8) l[i].row=l.flatMap A0a.row:=by refine D0j ?_;rw[A7X A0a.row_len,Z0j hi,Z1f,A0a.row_len,Z2f (by simp)];simp
 refine⟨f,g,M.set f (.vec 27 8 (l.flatMap A0a.row) g (A1A 8 g (i*8) a)),rfl,?_,?_,⟨.inr ⟨f,g,A1A 8 g (i*8) a,rfl,by simp[b],?_⟩,h2⟩,by simp,λj hj=>Z0f (by omega)⟩
 .obtain⟨p,e1,_,e2,_⟩:=c;simp[hi]at e1;rw[<-e1]at e2;exact e2
 .simp only[A0n,hm,hl];rw[Z0d (by simp[AV.storable,AV.cells];omega)];simp only[AV.cells];rw[d]
 .unfold A1A;exact A4w _ hl
section
variable (gl:Nat->AV)
set_option maxHeartbeats 1000000 in
def B9q:∀(u:A0a) (kv:AV) (M:Mem),C0C u.kids kv->u.good->u.lims->A0o u<=1000->A2P u->
 A0d (WC gl) 180 [.agg (A6T u kv)] M (λv M'=>v=.agg u.row/\M'=M)
 |.mk id kind lab hd ws ks,kv,M,ae,hg,hlm,hc,hbt=>by
  obtain⟨_,_,c0,_,br,_,bs,bp,am⟩:=(A0a.good_iff _).1 hg;have am:∀k∈ks,k.good:=am;obtain⟨⟨b8,b3,c1,-⟩,au⟩:=A3f _ hlm;have b8:hd.length<=100000000:=b8;have b3:ws.length<=100000000:=b3;have au:=A2Z.1 au;have bz:1+A0u ks<=1000:=by rwa[A0o]at hc
  have bv:=A1O ks;have ae:C0C ks kv:=ae;obtain⟨ax,bf,bd,az⟩:=(A6v _).1 hbt;have ax:id=idZ:=ax;have bf:∀x∈hd,B0b x:=bf;have bd:∀x∈ws,B0b x:=bd;have az:∀k∈ks,A2P k:=az;subst ax;refine A0d.dataX ?_;have b1:A6T (.mk idZ kind lab hd ws ks) kv=[I 0,I 0,I 0,I kind,S lab,.list 4 (A0g hd) .no,.list 4 (A0g ws) .no,kv]:=rfl;have bi:∀a b c,D4X (.mk idZ kind lab hd ws ks) a b c=[I 0,I 0,I 0,I kind,S lab,a,b,c]:=λ_ _ _=>rfl;rw[b1];refine A0j hSt func180 ?_;obtain⟨b,hb⟩:∃b,b=M.length:=⟨_,rfl⟩;obtain⟨M1,a6⟩:∃M1,M1=M++[A0l.cells 27 [I 0,I 0,I 0,I kind,S lab,.list 4 (A0g hd) .no,.list 4 (A0g ws) .no,kv],z8]:=⟨_,rfl⟩;have a9:M1[b]?=some (A0l.cells 27 [I 0,I 0,I 0,I kind,S lab,.list 4 (A0g hd) .no,.list 4 (A0g ws) .no,kv]):=by rw[a6,hb];simp
  have b7:M1[b+1]?=some z8:=by rw[a6,hb];simp[]
  have bb:Grow M M1:=by rw[a6];exact A0c.app none _ _
  have bn:M1.length=b+2:=by rw[a6,hb];simp
  have bw:=ae.store;have bx:=ae.cells;have ah:=B5O gl (.mk idZ kind lab hd ws ks) kv M1 ae hg hlm hc;rw[b1]at ah;simp only[bi]at ah;simp -dsimp -implicitDefEqProofs[A0m];rw[<-a6,<-hb];clear a6;simp -dsimp -implicitDefEqProofs[A0b a9];refine A0s func89 ah ?_;rintro _ M2 ⟨hv,wv,kw,rfl,af,e1,e2,e3,b9,bh,ba⟩;have e1:A4c 152 4 A0H.row M1.length M2 hv hd:=e1;have e2:A4c 152 4 A0H.row M1.length M2 wv ws:=e2;have e3:Arr 27 8 A0a.row M1.length M2 kw ks:=e3;have aa:=af.get a9 (by simp);have b2:=af.get b7 (by simp);have be:b<M2.length:=(Z0b.1 aa).1;obtain⟨M3,ac⟩:∃M3,M3=M2.set b (.cells 27 [I 0,I 0,I 0,I kind,S lab,hv,wv,kw]):=⟨_,rfl⟩;have a5:∀f,f≠b->M3[f]?=M2[f]?:=λf hf=>by rw[ac,Z0f (λe=>hf e.symm)]
  have z:M3[b]?=some (.cells 27 [I 0,I 0,I 0,I kind,S lab,hv,wv,kw]):=by rw[ac];simp[be]
  have ay:M3[b+1]?=some z8:=by rw[a5 _ (by omega)];exact b2
  have bo:M3.length=M2.length:=by rw[ac];simp
  have f1:=e1.stay (M':=M3) (λf h=>a5 f (by have:=e1.lat f h;omega));have f2:=e2.stay (M':=M3) (λf h=>a5 f (by have:=e2.lat f h;omega));have f3:=e3.stay (M':=M3) (λf h=>a5 f (by have:=e3.lat f h;omega));have a8:M3.set b (.cells 27 [I 0,I 0,I 0,I kind,S lab,hv,wv,kw])=M3:=List.set_eq_of_getElem? z;simp -dsimp -implicitDefEqProofs[A0h aa];rw[<-ac];have b0:=D3L f1 f2;simp -dsimp -implicitDefEqProofs[A0h z,a8,A0b z,b0];have b5:∀M5,(∀j,j<b->M5[j]?=M3[j]?)->M3.length<=M5.length->Grow M M5:=λM5 h1 h2=>⟨by have:=bb.1;have:=af.1;omega,λj hj _=>by rw[h1 j (by omega),a5 j (by omega)];exact(bb.trans af).2 j hj (by simp)⟩;have bq:b+2<=M3.length:=by have:=af.1;omega
  clear b0 a8 ac a5 aa b2 ah a9 b7;refine A9j (.exit 0) (λT M5=>T 1=.ptr b 0/\T 2=.ptr (b+1) 0/\M5[b]?=some (.cells 27 [I 0,I 0,I 0,I kind,S lab,hv,wv,kw])/\M5[b+1]?=some z8/\M5.length=M3.length/\(∀j,j<b->M5[j]?=M3[j]?)/\A4c 152 4 A0H.row M1.length M5 hv hd/\A4c 152 4 A0H.row M1.length M5 wv ws/\Arr 27 8 A0a.row M1.length M5 kw ks) ?_ ?_
  .refine A0v hSt 2 17 (λT M5=>∃k:Nat,k<=2/\T 1=.ptr b 0/\T 2=.ptr (b+1) 0/\T 15=.list 1 [[hv],[wv]] .full/\T 16=I 2/\T 17=I k/\M5[b]?=some (.cells 27 [I 0,I 0,I 0,I kind,S lab,hv,wv,kw])/\M5[b+1]?=some z8/\M5.length=M3.length/\(∀j,j<b->M5[j]?=M3[j]?)/\A4c 152 4 A0H.row M1.length M5 hv hd/\A4c 152 4 A0H.row M1.length M5 wv ws/\Arr 27 8 A0a.row M1.length M5 kw ks) ?_ ?_
   .exact⟨0,by omega,by simp,by simp,by simp,by simp,by simp,z,ay,rfl,λ_ _=>rfl,f1,f2,f3⟩
   clear z ay f1 f2 f3;rintro T M5 ⟨k,k1,t1,t2,y,w,s,d,l,p,o,f1,f2,f3⟩;by_cases hk:k<2;case neg=>
    (have an:¬(k:Int)<2:=by omega);simp -dsimp -implicitDefEqProofs[t1,t2,w,s,an]
    exact⟨d,l,p,o,f1,f2,f3⟩
   (have an:(k:Int)<2:=by omega);have w1:=A1y (i:=k) (by omega)
   obtain⟨xv,aj⟩:∃xv,xv=if k=0 then hv else wv:=⟨_,rfl⟩;obtain⟨xs,ad⟩:∃xs,xs=if k=0 then hd else ws:=⟨_,rfl⟩;(have bm:∀x∈xs,B0b x:=by rw[ad];split<;>assumption);(have bu:xs.length<=100000000:=by rw[ad];split<;>assumption);(have ag:∀M6:Mem,A4c 152 4 A0H.row M1.length M6 hv hd->A4c 152 4 A0H.row M1.length M6 wv ws->A4c 152 4 A0H.row M1.length M6 xv xs:=λM6 h1 h2=>by rw[aj,ad];by_cases c:k=0<;>simp only[c,Z0H,Z1l]<;>assumption);have ar:∀(M6 M7:Mem) (f:Nat),obj xv=some f->A4c 152 4 A0H.row M1.length M7 xv xs->(∀j,j≠f->M7[j]?=M6[j]?)->A4c 152 4 A0H.row M1.length M6 hv hd->A4c 152 4 A0H.row M1.length M6 wv ws->Arr 27 8 A0a.row M1.length M6 kw ks->A4c 152 4 A0H.row M1.length M7 hv hd/\A4c 152 4 A0H.row M1.length M7 wv ws/\Arr 27 8 A0a.row M1.length M7 kw ks:=λM6 M7 f hf hx hj g1 g2 g3=>by
    by_cases c:k=0
    .rw[aj,Z0d c]at hf hx;rw[ad,Z0d c]at hx;exact⟨hx,g2.stay λq hq=>hj q λe=>b9 f hf (e▸hq),g3.stay λq hq=>hj q λe=>bh f hf (e▸hq)⟩
    .rw[aj,Z0e c]at hf hx;rw[ad,Z0e c]at hx;exact⟨g1.stay λq hq=>hj q λe=>b9 f (e▸hq) hf,hx,g3.stay λq hq=>hj q λe=>ba f hf (e▸hq)⟩
   have a4:([[hv],[wv]]:List (List AV))[k]?=some [xv]:=by rw[aj];(have:k=0\/k=1:=by omega);rcases this with rfl|rfl<;>rfl
   (have a3:([[hv],[wv]]:List (List AV)).getD k []=[xv]:=by rw[Z1u,a4];rfl);have av:=(ag M5 f1 f2).len (P:=prog) (t:=24) (e':=152) (by simp)
   simp -dsimp -implicitDefEqProofs[y,w,s,an,a4,av];refine A9j (.exit 2) (λT M6=>T 1=.ptr b 0/\T 2=.ptr (b+1) 0/\T 15=.list 1 [[hv],[wv]] .full/\T 16=I 2/\T 17=I k/\M6[b]?=some (.cells 27 [I 0,I 0,I 0,I kind,S lab,hv,wv,kw])/\M6[b+1]?=some z8/\M6.length=M3.length/\(∀j,j<b->M6[j]?=M3[j]?)/\A4c 152 4 A0H.row M1.length M6 hv hd/\A4c 152 4 A0H.row M1.length M6 wv ws/\Arr 27 8 A0a.row M1.length M6 kw ks) ?_ ?_
   .refine A0v hSt xs.length 23 (λT M6=>∃i:Nat,i<=xs.length/\T 1=.ptr b 0/\T 2=.ptr (b+1) 0/\T 15=.list 1 [[hv],[wv]] .full/\T 16=I 2/\T 17=I k/\T 4=xv/\T 22=I xs.length/\T 23=I i/\M6[b]?=some (.cells 27 [I 0,I 0,I 0,I kind,S lab,hv,wv,kw])/\M6[b+1]?=some z8/\M6.length=M3.length/\(∀j,j<b->M6[j]?=M3[j]?)/\A4c 152 4 A0H.row M1.length M6 hv hd/\A4c 152 4 A0H.row M1.length M6 wv ws/\Arr 27 8 A0a.row M1.length M6 kw ks) ?_ ?_
    .exact⟨0,by omega,by simp[t1],by simp[t2],by simp[y],by simp[w],by simp[s],by simp,by simp,by simp,d,l,p,o,f1,f2,f3⟩
    clear d l p o f1 f2 f3 t1 t2 y w s av a4 a3;rintro T M5 ⟨i,i1,t1,t2,y,w,s,t4,b6,bg,d,l,p,o,f1,f2,f3⟩;by_cases hi:i<xs.length;case neg=>
     (have a0:¬(i:Int)<xs.length:=by omega);simp -dsimp -implicitDefEqProofs[t1,t2,y,w,s,b6,bg,a0]
     exact⟨d,l,p,o,f1,f2,f3⟩
    (have a0:(i:Int)<xs.length:=by omega);have w2:IntKind.i64.wrap ((i:Int)+1)=((i+1:Nat):Int):=by rw[A0T (by omega) (by omega)];omega
    have hx:Arr 152 4 A0H.row M1.length M5 xv xs:=by
     rcases ag M5 f1 f2 with⟨_,h⟩|h
     .rw[h]at hi;simp at hi
     .exact h
    obtain⟨f,g,M6,a2,aq,ap,bk,r⟩:=D1P hx hi (bm _ (Z0u hi));(have a7:obj xv=some f:=by rw[a2];rfl);have bj:=hx.lat f a7;obtain⟨g1,g2,g3⟩:=ar M5 M6 f a7 (.inr ap) r f1 f2 f3;(have ao:M6[b]?=some (.cells 27 [I 0,I 0,I 0,I kind,S lab,hv,wv,kw]):=by rw[r b (by omega)];exact d);(have aw:M6[b+1]?=some z8:=by rw[r (b+1) (by omega)];exact l);rw[a2]at t4;simp -dsimp -implicitDefEqProofs[t1,t2,y,w,s,t4,b6,bg,a0,C5R,aq,w2];refine⟨⟨i+1,by clear w2;omega,a2.symm,rfl,ao,aw,by omega,λj hj=>by rw[r j (by omega)];exact o j hj,g1,g2,g3⟩,by clear w2;omega⟩
   have b4:=s;clear d l p o f1 f2 f3 t1 t2 y w s av a4 a3;rintro T M5 ⟨t1,t2,y,w,s,d,l,p,o,f1,f2,f3⟩;simp -dsimp -implicitDefEqProofs[t1,t2,y,w,s,b4,w1];refine⟨⟨k+1,by clear w1;omega,rfl,d,l,p,o,f1,f2,f3⟩,by clear w1;omega⟩
  clear z ay f1 f2 f3;rintro T M5 ⟨t1,t2,d,l,p,o,f1,f2,f3⟩;have al:=f3.own.len (P:=prog) (t:=25) (e:=27) underlying25;simp -dsimp -implicitDefEqProofs[t1,A0b d,al];refine A0v hSt ks.length 36 (λT M6=>∃i:Nat,i<=ks.length/\T 1=.ptr b 0/\T 2=.ptr (b+1) 0/\T 35=I ks.length/\T 36=I i/\M6[b]?=some (.cells 27 [I 0,I 0,I 0,I kind,S lab,hv,wv,kw])/\M6[b+1]?=some z8/\M3.length<=M6.length/\(∀j,j<b->M6[j]?=M3[j]?)/\A4c 152 4 A0H.row M1.length M6 hv hd/\A4c 152 4 A0H.row M1.length M6 wv ws/\Arr 27 8 A0a.row M1.length M6 kw ks) ?_ ?_
  .exact⟨0,by omega,by simp[t1],by simp[t2],by simp,rfl,d,l,by omega,o,f1,f2,f3⟩
  clear d l p o f1 f2 f3 t1 t2 al;rintro T M5 ⟨i,i1,t1,t2,ai,ak,d,l,p,o,f1,f2,f3⟩;by_cases hi:i<ks.length;case neg=>
   (have a0:¬(i:Int)<ks.length:=by omega);have bc:b+1<M5.length:=(Z0b.1 l).1
   (have hs:∀X f,f≠b+1->(M5.set (b+1) X)[f]?=M5[f]?:=λX f h1=>by rw[Z0f (by omega)]);simp -dsimp -implicitDefEqProofs[t1,t2,ai,ak,a0,A0b d,A0h l,A0y,bc]
   refine⟨b5 _ (λj hj=>by rw[hs _ j (by omega)];exact o j hj) (by simpa using p),?_⟩;rw[A0a.row_eq,A4k];have l1:=f1.lat;have l2:=f2.lat;have l3:=f3.lat;have g1:=(f1.stay (M':=M5.set (b+1) (.cells 27 [I 0,I 0,I 0,I kind,S lab,hv,wv,kw])) (λf h=>hs _ f (by have:=l1 f h;omega))).weak (m:=b) (by omega);have g2:=(f2.stay (M':=M5.set (b+1) (.cells 27 [I 0,I 0,I 0,I kind,S lab,hv,wv,kw])) (λf h=>hs _ f (by have:=l2 f h;omega))).weak (m:=b) (by omega);have g3:=f3.stay (M':=M5.set (b+1) (.cells 27 [I 0,I 0,I 0,I kind,S lab,hv,wv,kw])) (λf h=>hs _ f (by have:=l3 f h;omega));exact .agg (.same trivial (.same trivial (.same trivial (.same trivial (.same trivial (g1.still (λ_=>rfl) A5t (g2.still (λ_=>rfl) A5t (A2W A0a.row_len A2J g3.own (λf h=>by have:=l3 f h;omega))))))))) .nil
  have a0:(i:Int)<ks.length:=by omega
  have w1:=A1y (i:=i) (by omega);have a1:ks[i]∈ks:=Z0u hi;have bt:=A2G a1;have:=A0a.kid_lt (u:=.mk idZ kind lab hd ws ks) a1;have ab:=λM=>B9q ks[i] (.list 8 (A0r ks[i].kids) .no) M (.inl rfl) (am _ a1) (au _ a1) (by omega) (az _ a1);rw[show A6T ks[i] (.list 8 (A0r ks[i].kids) .no)=ks[i].row from(ks[i].row_eq).symm]at ab;obtain⟨f,g,M6,a2,bl,aq,ap,bk,r⟩:=D2l f3 hi;have a7:obj kw=some f:=by rw[a2];rfl
  have bj:=f3.lat f a7;simp -dsimp -implicitDefEqProofs[ai,ak,a0];refine B7Y hSt (A0G gl) (λk=>if k=1\/k=4\/k=7 then 1 else if k=10 then 2 else 0) (λk=>if k=7 then f else b) (λi k=>i==7&&k==10) (λk=>if k=10 then[b]else[b,f]) (by intro i k _ h;by_cases h7:i=7<;>by_cases h10:k=10<;>simp[h7,h10]at h|-) (by rfl) (by kernel_rfl) ?_;rw[a2]at d;simp -dsimp -implicitDefEqProofs[t1,A0b d,A6w,bl];refine⟨hi,A1M func180 ab ?_⟩;simp -dsimp -implicitDefEqProofs[t1,t2,ai,ak,a0,aq,w1];have ao:M6[b]?=some (.cells 27 [I 0,I 0,I 0,I kind,S lab,hv,wv,kw]):=by rw[r b (by omega),a2];exact d
  have aw:M6[b+1]?=some z8:=by rw[r (b+1) (by omega)];exact l
  exact⟨r b (by omega),⟨i+1,by clear w1;omega,by simp,ao,aw,by omega,λj hj=>by rw[r j (by omega)];exact o j hj,f1.stay λq hq=>r q λe=>bh q hq (e▸a7),f2.stay λq hq=>r q λe=>ba q hq (e▸a7),ap⟩,by clear w1;omega⟩
termination_by u=>SizeOf.sizeOf u
end
mutual
def A2w(x:IdD):A0a->List A0a
 |.mk id k l h w ks=>if id=x then[.mk id k l h w ks]else match A4R x ks with
  |[]=>[]
  |r::rs=>.mk id k l h w ks::r::rs
def A4R(x:IdD):List A0a->List A0a
 |[]=>[]
 |k::ks=>match A2w x k with
  |[]=>A4R x ks
  |r::rs=>r::rs
end
def A7g:List A0a->AV
 |[]=>A0i
 |u::r=>.list 8 (A0r (u::r)) .no
mutual
def B0g(x:IdD):∀u:A0a,(A2w x u).length<=A0o u
 |.mk id k l h w ks=>by
  have:=B8s x ks;rw[A2w,A0o];split
  .simp
  .split
   .simp
   .rename_i r rs e;rw[e]at this;simp at this|-;omega
def B8s(x:IdD):∀ks:List A0a,(A4R x ks).length<=A0u ks
 |[]=>by rw[A4R];simp
 |k::ks=>by
  have h1:=B0g x k;have h2:=B8s x ks;rw[A4R,A0u];split
  .omega
  .rename_i r rs e;rw[e]at h1;omega
end
mutual
def A8r(x:IdD):∀u:A0a,A1k x u=(A2w x u).getLast?
 |.mk id k l h w ks=>by
  have:=B6p x ks;rw[A2w,A1k];split
  .rfl
  .rw[this];cases A4R x ks with
   |nil=>rfl
   |cons r rs=>simp
def B6p(x:IdD):∀ks:List A0a,A9N x ks=(A4R x ks).getLast?
 |[]=>by rw[A4R,A9N];rfl
 |k::ks=>by
  have h1:=A8r x k;have h2:=B6p x ks;rw[A4R,A9N,h1,h2];cases A2w x k with
  |nil=>rfl
  |cons r rs=>
   cases h:(r::rs).getLast? with
   |none=>simp at h
   |some v=>simp[]
end
def B6w{x:IdD}{u:A0a}(h:A2w x u≠[]):A7g (A2w x u)=.list 8 (A0r (A2w x u)) .no:=by
 cases e:A2w x u with
 |nil=>exact absurd e h
 |cons r rs=>rfl
def C1K(n:Nat)(l:List A0a):bdd n (.list 8 (A0r l) .no):=by simp only[bdd,Z1N];exact B5k n l
def B0i(l:List A0a):(A0r l).flatten=l.flatMap A0a.row:=by rw[A4k];simp[List.flatMap]
def A8W{M:Mem}{n:Nat}{v:AV}{l:List A0a}(h:A1n 27 8 A0a.row M v l)(hn:A1r n v):Still M n (bdd n) [v] [.list 8 (A0r l) .no]:=by rw[A4k];exact A2W A0a.row_len A2J h hn
section
variable (gl:Nat->AV)
def B1D:∀(u:A0a) (x:IdD) (M:Mem),u.good->A0o u<=1000->A0d (WC gl) 88 [.agg u.row,.agg x.row] M (λv M'=>v=A7g (A2w x u)/\M'=M)
 |.mk id kind lab hd ws ks,x,M,hg,hc=>by
  obtain⟨_,_,a3,_,a1,_,a4,z,o⟩:=(A0a.good_iff _).1 hg;have o:∀k∈ks,k.good:=o;have a2:1+A0u ks<=1000:=by rwa[A0o]at hc
  have a0:=A1O ks;obtain⟨u,hu⟩:∃u,u=A0a.mk id kind lab hd ws ks:=⟨_,rfl⟩;have g:(A0a.mk id kind lab hd ws ks).row=[I id.act,I id.item,I id.n,I kind,S lab,.list 4 (A0g hd) .no,.list 4 (A0g ws) .no,.list 8 (A0r ks) .no]:=by rw[A0a.row]
  have hx:x.row=[I x.act,I x.item,I x.n]:=rfl;have he:=B5z id x;refine A0d.dataX ?_;rw[g,hx];refine A0j (hQ [27,29]) func88 ?_;by_cases h0:id=x
  .rw[Z0s h0]at he;(have hr:A2w x (.mk id kind lab hd ws ks)=[.mk id kind lab hd ws ks]:=by rw[A2w,Z0d h0]);rw[hr];simp -dsimp -implicitDefEqProofs[he,A0p,A0Z,AV.storable,AV.cells];refine⟨Grow.refl _,?_⟩;have hb:=C1K M.length [.mk id kind lab hd ws ks];simp only[A7g];rw[A0r,A0r,g]at hb|-;exact .dis hb .nil
  rw[Z0w h0]at he;have hr:A2w x (.mk id kind lab hd ws ks)=match A4R x ks with
   |[]=>[]
   |r::rs=>.mk id kind lab hd ws ks::r::rs:=by rw[A2w,Z0e h0]
  rw[hr];generalize hR:A4R x ks=R;simp -dsimp -implicitDefEqProofs[he];refine A0v (hQ [27,29]) ks.length 17 (λT M1=>∃i:Nat,Grow M M1/\i<=ks.length/\T 2=.cptr [I id.act,I id.item,I id.n,I kind,S lab,.list 4 (A0g hd) .no,.list 4 (A0g ws) .no,.list 8 (A0r ks) .no]/\T 3=.cptr [I x.act,I x.item,I x.n]/\T 15=.list 8 (A0r ks) .no/\T 16=I ks.length/\T 17=I i/\R=A4R x (ks.drop i)) ?_ ?_
  .exact⟨0,Grow.refl _,by omega,by simp,by simp,by simp,by simp,by simp,by simp[hR]⟩
  rintro T M1 ⟨i,j,i1,t2,t3,c,a,b,ho⟩;by_cases hi:i<ks.length;case neg=>
   (have p:¬(i:Int)<ks.length:=by omega);rw[show ks.drop i=[]from Z0n (by omega),A4R]at ho
   subst ho;simp -dsimp -implicitDefEqProofs[a,b,p];exact⟨j,.same trivial .nil⟩
  have p:(i:Int)<ks.length:=by omega
  have w1:=A1y (i:=i) (by omega);have d:ks[i]∈ks:=Z0u hi;have a5:=A2G d;rw[Z0j hi,A4R]at ho;obtain⟨M2,q⟩:∃M2,M2=M1++[A0l.cells 27 ks[i].row]:=⟨_,rfl⟩;have m:Grow M1 M2:=by rw[q];exact A0c.app none _ _
  have t:M2[M1.length]?=some (A0l.cells 27 ks[i].row):=by rw[q];simp
  have:=A0a.kid_lt (u:=.mk id kind lab hd ws ks) d;have h:=B1D ks[i] x M2 (o _ d) (by omega);have l:=B0g x ks[i];rw[hx]at h;simp -dsimp -implicitDefEqProofs[c,a,b,hi,p,A0m,A0n,A0e,AV.storable,AV.cells];rw[<-q];simp -dsimp -implicitDefEqProofs[t3,A0b t];refine A0f func88 h ?_;cases hw:A2w x ks[i]with
  |nil=>rw[hw]at ho;simp -dsimp -implicitDefEqProofs[t2,t3,c,a,b,w1,A7g];exact⟨⟨j.trans m,i+1,by clear w1;omega,rfl,ho⟩,by clear w1;omega⟩
  |cons r rs=>rw[hw]at ho l;subst ho;(have w:A1C prog 25 1 [(0,.agg [I id.act,I id.item,I id.n,I kind,S lab,.list 4 (A0g hd) .no,.list 4 (A0g ws) .no,.list 8 (A0r ks) .no])] M2=some (.vref M2.length 0 8 0 1,M2++[.vec 27 8 [I id.act,I id.item,I id.n,I kind,S lab,.list 4 (A0g hd) .no,.list 4 (A0g ws) .no,.list 8 (A0r ks) .no] 0 [(0,1)]]):=by simp[A1C,A0Z,AV.storable,AV.cells]);(have s:A0r (r::rs)=r.row::A0r rs:=by rw[A0r]);simp -dsimp -implicitDefEqProofs[t2,A7g,s,w];rw[<-s,<-g];have y:A1n 27 8 A0a.row (M2++[.vec 27 8 (A0a.mk id kind lab hd ws ks).row 0 [(0,1)]]) (.vref M2.length 0 8 0 1) [.mk id kind lab hd ws ks]:=.inr ⟨M2.length,0,[(0,1)],rfl,by simp,by simp[List.lookup]⟩;refine A3V (C:=WC gl) (enc:=A0a.row) (e:=27) (sz:=8) (news:=r::rs) A8n B2L B2H A0a.row_len y (by simp only[A0z,B0i,B2q];simp) (by simp at l|-;omega) rfl ?_;intro v' M3 q1 q2 q3 _;obtain⟨r1,r2⟩:=A2T (X:=[]) ((j.trans m).trans (A0c.app none _ [.vec 27 8 (A0a.mk id kind lab hd ws ks).row 0 [(0,1)]])) (v:=.vref M2.length 0 8 0 1) (λf hf=>by simp at hf;have:=(j.trans m).1;omega) (by simpa using q2) (by simpa using q3);simp -dsimp -implicitDefEqProofs;exact⟨r1,A8W q1 r2⟩
termination_by u=>SizeOf.sizeOf u
end
section
def A8l(l:List A0a)(i:Nat)(h:i<l.length):(A0r l)[i]?=some (l[i]).row:=by rw[A4k];simp[h]
def D7B{x:IdD}{u v:A0a}(h:(A2w x u).getLast?=some v):v.id=x/\v∈A5G u:=by rw[<-A8r]at h;rw[A9O]at h;exact⟨by have:=List.find?_some h;simpa using this,Z3h h⟩
mutual
def C4c:∀u:A0a,Fit u->∀v∈A5G u,Fit v
 |.mk a b c d e ks,h,v,hv=>by
  rw[A5G]at hv;rcases Z0A.1 hv with rfl|hv
  .exact h
  .refine C5I ks (λk hm=>?_) v hv;have h1:=((A0a.good_iff _).1 h.1).2.2.2.2.2.2.2.2;have h2:=A2Z.1 (A3f _ h.2.1).2;have h3:=h.2.2;have h4:=A2G hm;rw[A0o]at h3;exact⟨h1 k hm,h2 k hm,by omega⟩
def C5I:∀ks:List A0a,(∀k∈ks,Fit k)->∀v∈A6B ks,Fit v
 |[],_,v,hv=>by rw[A6B]at hv;simp at hv
 |k::ks,h,v,hv=>by
  rw[A6B]at hv;rcases Z0Y.1 hv with hv|hv
  .exact C4c k (h k (by simp)) v hv
  .exact C5I ks (λq hq=>h q (by simp[hq])) v hv
end
section
variable (gl:Nat->AV)
def B7t(u:A0a)(x:IdD)(M:Mem)(hf:Fit u):A0d (WC gl) 32 [.agg u.row,.agg x.row] M (λv M'=>v=.tuple [.agg (A2j (A1k x u)),B (A1k x u).isSome]/\M'=M):=by
 refine A0d.dataX ?_;have hx:x.row=[I x.act,I x.item,I x.n]:=rfl;obtain⟨Ma,c⟩:∃Ma,Ma=M++[z8]:=⟨_,rfl⟩;have q:Grow M Ma:=by rw[c];exact A0c.app none _ _
 have d:Ma[M.length]?=some z8:=by rw[c];simp
 have b:=B1D gl u x Ma hf.1 hf.2.2;have o:=B0g x u;have a5:=hf.2.2;have a2:=A8r x u;rw[u.row_eq,hx]at b|-;rw[a2];refine A0j hB func32 ?_;simp -dsimp -implicitDefEqProofs[A0m];rw[<-c];refine A0f func88 b ?_;generalize hr:A2w x u=r at*;rcases Z3B r with rfl|⟨rs,w,rfl⟩
 .have t:M.length<Ma.length:=(Z0b.1 d).1;simp -dsimp -implicitDefEqProofs[A7g,A0h d,A0y t,A0k];exact⟨A1e q (Z0o _),.tuple (.same (C1u _ none) (.same trivial .nil)) .nil⟩
 .rw[List.concat_eq_append]at*;have hw:=D7B (x:=x) (u:=u) (v:=w) (by rw[hr];simp);have g:=C4c u hf w hw.2;have z:A7g (rs++[w])=.list 8 (A0r (rs++[w])) .no:=by rw[<-hr];exact B6w (by rw[hr];simp)
  have hi:rs.length<(rs++[w]).length:=by simp
  have a0:(A0r (rs++[w]))[rs.length]?=some w.row:=by rw[A8l _ _ hi];simp
  have w1:IntKind.i64.wrap (rs.length:Int)=rs.length:=by rw[A0T (by omega) (by simp at o;omega)]
  have y:¬(rs.length:Int)+1=0:=by omega
  have l:(rs.length:Int)<rs.length+1:=by omega
  have i:=B5O gl w (.list 8 (A0r w.kids) .no) Ma (.inl rfl) g.1 g.2.1 g.2.2;rw[show A6T w (.list 8 (A0r w.kids) .no)=w.row from(w.row_eq).symm]at i;rw[z];simp -dsimp -implicitDefEqProofs[y,w1,l];refine A0s func89 i ?_;rintro _ M2 ⟨hv,wv,kw,rfl,a⟩;obtain⟨p,a4⟩:=a.still;have j:=p.get d (by simp);have s:M.length<M2.length:=(Z0b.1 j).1;simp -dsimp -implicitDefEqProofs[A0h j,A0y s,A0k];have a3:Ma.length=M.length+1:=by rw[c];simp
  obtain⟨M3,e⟩:∃M3,M3=M2.set M.length (A0l.cells 27 (D4X w hv wv kw)):=⟨_,rfl⟩;have hs:∀f,f≠M.length->M3[f]?=M2[f]?:=λf h1=>by rw[e,Z0f (by omega)]
  have l1:=a.h.lat;have l2:=a.w.lat;have l3:=a.k.lat;have g1:=(a.h.stay (M':=M3) (λf h=>hs f (by have:=l1 f h;omega))).weak (m:=M.length) (by omega);have g2:=(a.w.stay (M':=M3) (λf h=>hs f (by have:=l2 f h;omega))).weak (m:=M.length) (by omega);have g3:=a.k.stay (M':=M3) (λf h=>hs f (by have:=l3 f h;omega));have a1:Grow M M3:=by rw[e];exact A1e (q.trans p) (Z0o _)
  rw[<-e];refine⟨a1,.tuple ?_ .nil⟩;rw[A2j,w.row_eq,A4k];exact .agg (.same trivial (.same trivial (.same trivial (.same trivial (.same trivial (g1.still (λ_=>rfl) A5t (g2.still (λ_=>rfl) A5t (A2W A0a.row_len A2J g3.own (λf h=>by have:=l3 f h;omega))))))))) (.same trivial .nil)
def D0I(p:A0a->Bool)(g:FuncId)(cap:List AV)(l:List A0a)(o:Own)(M:Mem)(hl:l.length<=1000)(hp:∀u∈l,A4d (WC gl) g (.agg u.row::cap) M (λv M'=>v=B (p u)/\M'=M)):
 A0d (WC gl) 90 [.list 8 (A0r l) o,.func (.func g) [] cap] M (λv M'=>v=I (A3R p l 0)/\M'=M):=by
 refine A0j hB func90 ?_
 simp -dsimp -implicitDefEqProofs
 refine A0v hB l.length 8 (λT M1=>∃i:Nat,i<=l.length/\M1=M/\T 0=.list 8 (A0r l) o/\T 1=.func (.func g) [] cap/\T 7=I l.length/\T 8=I i/\A3R p l 0=A3R p (l.drop i) i) ?_ ?_
 .exact⟨0,by omega,rfl,by simp,by simp,by simp,by simp,by simp⟩
 .rintro T M1 ⟨i,i1,rfl,t0,t1,t7,t8,ho⟩;by_cases hi:i<l.length
  ·(have a:(i:Int)<l.length:=by omega);have w1:=A1y (i:=i) (by omega)
   have hd:l.drop i=l[i]::l.drop (i+1):=Z0j hi;rw[hd,A3R]at ho;have b:=A8l l i hi;simp -dsimp -implicitDefEqProofs[t0,t1,t7,t8,hi,a];refine A4A (hp l[i] (Z0u hi)) ?_;rintro _ _ ⟨rfl,rfl⟩;cases hq:p l[i]
   .rw[hq,Z0e (by simp)]at ho;simp -dsimp -implicitDefEqProofs[t0,t1,t7,t8,w1];exact⟨⟨i+1,by clear w1;omega,rfl,ho⟩,by clear w1;omega⟩
   .rw[hq,Z0d rfl]at ho;simp -dsimp -implicitDefEqProofs[ho]
  ·(have a:¬(i:Int)<l.length:=by omega);rw[show l.drop i=[]from Z0n (by omega)]at ho
   simp -dsimp -implicitDefEqProofs[t7,t8,a,ho,A3R]
def D7X(p:A0a->Bool)(g:FuncId)(cap:List AV)(l:List A0a)(o:Own)(M:Mem)(hl:l.length<=1000)(hp:∀u∈l,A4d (WC gl) g (.agg u.row::cap) M (λv M'=>v=B (p u)/\M'=M)):
 A0d (WC gl) 354 [.list 8 (A0r l) o,.func (.func g) [] cap] M (λv M'=>v=B (l.any p)/\M'=M):=by
 refine A0j hB func354 ?_
 simp -dsimp -implicitDefEqProofs
 refine A0f func90 (D0I gl p g cap l o M hl hp) ?_
 rw[<-A8z _ l 0]
 simp -dsimp -implicitDefEqProofs
def D7O(u:A0a)(x:IdD)(M:Mem)(hf:Fit u):A0d (WC gl) 91 [.agg u.row,.cptr [I x.act,I x.item,I x.n]] M (λv M'=>v=B (A1k x u).isSome/\M'=M):=by
 have a:=B1D gl u x M hf.1 hf.2.2;have hx:x.row=[I x.act,I x.item,I x.n]:=rfl;have c:=A8r x u;rw[u.row_eq,hx]at a;rw[u.row_eq,c];refine A0j hB func91 ?_;simp -dsimp -implicitDefEqProofs;refine A0f func88 a ?_;cases hr:A2w x u with
 |nil=>simp -dsimp -implicitDefEqProofs[A7g]
 |cons r rs=>
  have b:A0r (r::rs)=r.row::A0r rs:=by rw[A0r]
  have hs:((r::rs).getLast?).isSome=true:=by simp
  simp -dsimp -implicitDefEqProofs[A7g,b,hs]
end
end
section
def E0d{α:Type}(r:List α):r=[]\/(∃w,r=[w])\/∃rs p w,r=rs++[p,w]:=by
 rcases Z3B r with rfl|⟨q,w,rfl⟩
 .exact .inl rfl
 .rcases Z3B q with rfl|⟨rs,p,rfl⟩
  .exact .inr (.inl ⟨w,rfl⟩)
  .exact .inr (.inr ⟨rs,p,w,by simp⟩)
def D7I(x:IdD)(u:A0a):Option A0a:=(A2w x u).dropLast.getLast?
def D7W(x:IdD)(u:A0a):AV:=match D7I x u with
 |none=>.tuple [.agg [I 0,I 0,I 0],I (-1),B false]
 |some p=>.tuple [.agg p.id.row,I (A3R (λk=>(A1k x k).isSome) p.kids 0),B true]
mutual
def C2B(x:IdD):∀u:A0a,∀v∈A2w x u,v∈A5G u
 |.mk id k l h w ks,v,hv=>by
  rw[A2w]at hv;rw[A5G];split at hv
  .simp only[Z1m]at hv;subst hv;simp
  .split at hv
   .simp at hv
   .rename_i r rs e;rcases Z0A.1 hv with rfl|hv
    .simp
    .exact Z1W _ (B9l x ks v (by rw[e];exact hv))
def B9l(x:IdD):∀ks:List A0a,∀v∈A4R x ks,v∈A6B ks
 |[],v,hv=>by rw[A4R]at hv;simp at hv
 |k::ks,v,hv=>by
  rw[A4R]at hv;rw[A6B];split at hv
  .exact Z3a _ (B9l x ks v hv)
  .rename_i r rs e;exact Z2x _ (C2B x k v (by rw[e];exact hv))
end
section
variable (gl:Nat->AV)
def D3m(u:A0a)(x:IdD)(M:Mem)(hf:Fit u):A0d (WC gl) 34 [.agg u.row,.agg x.row] M (λv M'=>v=D7W x u/\M'=M):=by
 refine A0d.dataX ?_;have hx:x.row=[I x.act,I x.item,I x.n]:=rfl;obtain⟨z3,a2⟩:∃z3,z3=A0l.cells 23 [I 0,I 0,I 0]:=⟨_,rfl⟩;obtain⟨Ma,j⟩:∃Ma,Ma=M++[z3]:=⟨_,rfl⟩;have m:Grow M Ma:=by rw[j];exact A0c.app none _ _
 have h:Ma[M.length]?=some (A0l.cells 23 [I 0,I 0,I 0]):=by rw[j,a2];simp
 have q:M.length<Ma.length:=(Z0b.1 h).1;have g:=B1D gl u x Ma hf.1 hf.2.2;have z:=B0g x u;have ae:=hf.2.2;have a1:=C2B x u;unfold D7W D7I;rw[u.row_eq,hx]at g|-;refine A0j hB func34 ?_;simp -dsimp -implicitDefEqProofs[A0m];rw[<-a2,<-j];refine A0f func88 g ?_;generalize hr:A2w x u=r at*;rcases E0d r with rfl|⟨w,rfl⟩|⟨rs,p,w,rfl⟩
 .simp -dsimp -implicitDefEqProofs[A7g,A0h h,A0y q,A0k];exact⟨A1e m (Z0o _),.same (by simp[bdd,A1Q]) .nil⟩
 .have a9:A0r [w]=[w.row]:=by rw[A0r,A0r]
  simp -dsimp -implicitDefEqProofs[A7g,a9,A0h h,A0y q,A0k];exact⟨A1e m (Z0o _),.same (by simp[bdd,A1Q]) .nil⟩
 .have a5:A7g (rs++[p,w])=.list 8 (A0r (rs++[p,w])) .no:=by rw[<-hr];exact B6w (by rw[hr];simp)
  have hi:rs.length<(rs++[p,w]).length:=by simp
  have aa:(A0r (rs++[p,w]))[rs.length]?=some p.row:=by rw[A8l _ _ hi];simp
  have w1:IntKind.i64.wrap (rs.length:Int)=rs.length:=by rw[A0T (by omega) (by simp at z;omega)]
  have a4:¬(rs.length:Int)+2<2:=by omega
  have y:(rs.length:Int)<rs.length+2:=by omega
  have i:=C4c u hf p (a1 p (by simp));obtain⟨M2,o⟩:∃M2,M2=Ma++[A0l.cells 27 p.row]:=⟨_,rfl⟩;have a0:Grow Ma M2:=by rw[o];exact A0c.app none _ _
  have l:M2[Ma.length]?=some (A0l.cells 27 p.row):=by rw[o];simp
  have s:=a0.get h (by simp);have a3:M.length<M2.length:=(Z0b.1 s).1;have ab:=A1O p.kids;have ad:A0u p.kids<A0o p:=by obtain⟨a,b,c,d,e,f⟩:=p;rw[A0o];show A0u f<_;omega
  have ac:=i.2.2;have a7:=((A0a.good_iff _).1 i.1).2.2.2.2.2.2.2.2;have a6:=A2Z.1 (A3f _ i.2.1).2;have t:=D0I gl (λk=>(A1k x k).isSome) 91 [.cptr [I x.act,I x.item,I x.n]] p.kids .no M2 (by omega) (λk hk=>A1Y func91 rfl rfl (D7O gl k x M2 ⟨a7 k hk,a6 k hk,by have:=A2G hk;omega⟩));rw[a5];simp -dsimp -implicitDefEqProofs[a4,w1,y,A0m,A0n,A0e];rw[<-o];rw[A0a.row_eq]at l;simp -dsimp -implicitDefEqProofs[A0b l];refine A0f func90 t ?_;have a8:p.id.row=[I p.id.act,I p.id.item,I p.id.n]:=rfl;simp -dsimp -implicitDefEqProofs[A0b l,A0h s,A0y a3,A0k,a8];exact⟨A1e (m.trans a0) (Z0o _),.same (by simp[bdd,A1Q]) .nil⟩
end
end
def kl2(x k:A0a):Bool:=decide (k.kind=x.kind)&&decide (k.label=x.label)
def D9v:IntKind.i64.wrap (-1)=-1:=by decide
def B5C(p x:A0a):Int:=if A1o p.kind x.kind=false then 9 else if p.kids.any (kl2 x)=true then 10 else 0
section
variable (gl:Nat->AV)
def D3q(k x:A0a)(M:Mem):A0d (WC gl) 355 [.agg k.row,.cptr x.row] M (λv M'=>v=B (kl2 x k)/\M'=M):=by
 rw[k.row_eq,x.row_eq];refine A0j hB func355 ?_;by_cases h1:k.kind=x.kind
 .by_cases h2:k.label=x.label
  .simp -dsimp -implicitDefEqProofs[kl2,h1,h2]
  .have h3:¬x.label=k.label:=λh=>h2 h.symm;simp -dsimp -implicitDefEqProofs[kl2,h1,h2]
 .have h3:¬x.kind=k.kind:=λh=>h1 h.symm;simp -dsimp -implicitDefEqProofs[kl2,h1]
def D4x(a:gl 0=A2z)(p x:A0a)(M:Mem)(hp:p.kids.length<=1000):A0d (WC gl) 284 [.agg p.row,.agg x.row] M (λv M'=>v=I (B5C p x)/\M'=M):=by
 have h2:=D7X gl (kl2 x) 355 [.cptr x.row] p.kids .no M hp (λk _=>A1Y func355 rfl rfl (D3q gl k x M));rw[x.row_eq]at h2|-;rw[p.row_eq];refine A0j hB func284 ?_;simp -dsimp -implicitDefEqProofs;refine A0f func152 (A9s gl M a p.kind x.kind) ?_;unfold B5C;cases h:A1o p.kind x.kind
 .simp -dsimp -implicitDefEqProofs
 .simp -dsimp -implicitDefEqProofs;refine A0f func354 h2 ?_;cases p.kids.any (kl2 x)<;>simp -dsimp -implicitDefEqProofs
def E0G(u:A0a)(x:IdD)(M:Mem)(hf:Fit u)(i:u.id=x):A0d (WC gl) 334 [.agg u.row,.agg x.row] M (λv M'=>v=A0i/\M'=M):=by
 have hx:x.row=[I x.act,I x.item,I x.n]:=rfl;have g:=B1D gl u x M hf.1 hf.2.2;have hr:A2w x u=[u]:=by obtain⟨a,b,c,d,e,f⟩:=u;rw[A2w];exact Z0d i
 have h:A0r [u]=[u.row]:=by rw[A0r,A0r]
 rw[hr]at g;rw[u.row_eq,hx]at g|-;refine A0j hB func334 ?_;simp -dsimp -implicitDefEqProofs;refine A0f func88 g ?_;simp -dsimp -implicitDefEqProofs[A7g,h];refine A0v hB 0 7 (λT M1=>M1=M/\T 5=A0i/\T 7=I (-1)) ?_ ?_
 .simp[D9v]
 .rintro T M1 ⟨rfl,t5,t7⟩;simp -dsimp -implicitDefEqProofs[t5,t7]
def D7g(u x:A0a)(M:Mem)(hf:Fit u)(c:Fit x):A0d (WC gl) 285 [.agg u.row,.agg u.id.row,.agg x.row] M (λv M'=>v=B (decide (8<A1w x+1))/\M'=M):=by
 have hx:u.id.row=[I u.id.act,I u.id.item,I u.id.n]:=rfl;have a:=λM=>E0G gl u u.id M hf rfl;have b:=λM=>(B8P gl x M c.1 c.2.2).mono (Q':=λv M'=>v=I (A1w x)/\M'=M) (λv M' h=>by obtain⟨⟨_,rfl,rfl⟩,rfl⟩:=h;exact⟨rfl,rfl⟩);have e:=B4I x;have d:=c.2.2;rw[u.row_eq,hx]at a|-;rw[x.row_eq]at b|-;refine A0j hB func285 ?_;simp -dsimp -implicitDefEqProofs;refine A1i hB (A0G gl) (λ_=>0) (λ_=>0) (by rfl) (by kernel_rfl) ?_;simp -dsimp -implicitDefEqProofs;refine A1M func334 a ?_;simp -dsimp -implicitDefEqProofs;refine A1M func157 b ?_;have w1:IntKind.i64.wrap (1+(A1w x:Int))=1+A1w x:=by rw[A0T (by omega) (by omega)]
 simp -dsimp -implicitDefEqProofs[];rw[show IntKind.i64.wrap 1=1 by decide,w1];omega
def D6P(p:IdD->Bool)(g:FuncId)(cap:List AV)(l:List IdD)(o:Own)(M:Mem)(hl:l.length<=1000)(hp:∀x∈l,A4d (WC gl) g (.agg x.row::cap) M (λv M'=>v=B (p x)/\M'=M)):
 A0d (WC gl) 123 [.list 3 (A4y l) o,.func (.func g) [] cap] M (λv M'=>v=I (A3R p l 0)/\M'=M):=by
 refine A0j hB func123 ?_
 simp -dsimp -implicitDefEqProofs
 refine A0v hB l.length 8 (λT M1=>∃i:Nat,i<=l.length/\M1=M/\T 0=.list 3 (A4y l) o/\T 1=.func (.func g) [] cap/\T 7=I l.length/\T 8=I i/\A3R p l 0=A3R p (l.drop i) i) ?_ ?_
 .exact⟨0,by omega,rfl,by simp,by simp,by simp,by simp,by simp⟩
 .rintro T M1 ⟨i,i1,rfl,t0,t1,t7,t8,ho⟩;by_cases hi:i<l.length
  ·(have a:(i:Int)<l.length:=by omega);have w1:=A1y (i:=i) (by omega)
   have hd:l.drop i=l[i]::l.drop (i+1):=Z0j hi;(have b:(A4y l)[i]?=some l[i].row:=by simp[A4y,hi]);rw[hd,A3R]at ho;simp -dsimp -implicitDefEqProofs[t0,t1,t7,t8,hi,a];refine A4A (hp l[i] (Z0u hi)) ?_;rintro _ _ ⟨rfl,rfl⟩;cases hq:p l[i]
   .rw[hq,Z0e (by simp)]at ho;simp -dsimp -implicitDefEqProofs[t0,t1,t7,t8,w1];exact⟨⟨i+1,by clear w1;omega,rfl,ho⟩,by clear w1;omega⟩
   .rw[hq,Z0d rfl]at ho;simp -dsimp -implicitDefEqProofs[ho]
  ·(have a:¬(i:Int)<l.length:=by omega);rw[show l.drop i=[]from Z0n (by omega)]at ho
   simp -dsimp -implicitDefEqProofs[t7,t8,a,ho,A3R]
def D7V(p:IdD->Bool)(g:FuncId)(cap:List AV)(l:List IdD)(o:Own)(M:Mem)(hl:l.length<=1000)(hp:∀x∈l,A4d (WC gl) g (.agg x.row::cap) M (λv M'=>v=B (p x)/\M'=M)):
 A0d (WC gl) 68 [.list 3 (A4y l) o,.func (.func g) [] cap] M (λv M'=>v=B (l.any p)/\M'=M):=by
 refine A0j hB func68 ?_
 simp -dsimp -implicitDefEqProofs
 refine A0f func123 (D6P gl p g cap l o M hl hp) ?_
 rw[<-A8z _ l 0]
 simp -dsimp -implicitDefEqProofs
def C4Y(l:List IdD)(o:Own)(x:IdD)(M:Mem)(hl:l.length<=1000):A0d (WC gl) 356 [.list 3 (A4y l) o,.agg x.row] M (λv M'=>v=I (A3R (λy:IdD=>decide (y=x)) l 0)/\M'=M):=by
 have hx:x.row=[I x.act,I x.item,I x.n]:=rfl;rw[hx];refine A0j hB func356 ?_;simp -dsimp -implicitDefEqProofs;refine A0v hB l.length 8 (λT M1=>∃i:Nat,i<=l.length/\M1=M/\T 0=.list 3 (A4y l) o/\T 3=.cptr [I x.act,I x.item,I x.n]/\T 7=I l.length/\T 8=I i/\A3R (λy:IdD=>decide (y=x)) l 0=A3R (λy:IdD=>decide (y=x)) (l.drop i) i) ?_ ?_
 .exact⟨0,by omega,rfl,by simp,by simp,by simp,by simp,by simp⟩
 .rintro T M1 ⟨i,i1,rfl,t0,t3,t7,t8,ho⟩;by_cases hi:i<l.length
  ·(have a:(i:Int)<l.length:=by omega);have w1:=A1y (i:=i) (by omega)
   have hd:l.drop i=l[i]::l.drop (i+1):=Z0j hi;(have b:(A4y l)[i]?=some l[i].row:=by simp[A4y,hi]);have hy:l[i].row=[I l[i].act,I l[i].item,I l[i].n]:=rfl;have he:=B5z x l[i];rw[hd,A3R]at ho;simp -dsimp -implicitDefEqProofs[t7,t8,a];refine A1i hB (A0G gl) (λ_=>0) (λ_=>0) (by rfl) (by kernel_rfl) ?_;simp -dsimp -implicitDefEqProofs[t0,t3,t7,t8,hi,a,hy,he];by_cases hq:l[i]=x
   .rw[Z0s hq,Z0d rfl]at ho;simp -dsimp -implicitDefEqProofs[ho,hq]
   .rw[Z0w hq,Z0e (by simp)]at ho;have c:¬x=l[i]:=λh=>hq h.symm;simp -dsimp -implicitDefEqProofs[w1,c];exact⟨⟨i+1,by clear w1;omega,rfl,ho⟩,by clear w1;omega⟩
  ·(have a:¬(i:Int)<l.length:=by omega);rw[show l.drop i=[]from Z0n (by omega)]at ho
   simp -dsimp -implicitDefEqProofs[t7,t8,a,ho,A3R]
def C9v(l:List IdD)(o:Own)(x:IdD)(M:Mem)(hl:l.length<=1000):A0d (WC gl) 287 [.list 3 (A4y l) o,.agg x.row] M (λv M'=>v=B (l.any λy=>decide (y=x))/\M'=M):=by have hx:x.row=[I x.act,I x.item,I x.n]:=rfl;have a:=C4Y gl l o x M hl;rw[hx]at a|-;refine A0j hB func287 ?_;simp -dsimp -implicitDefEqProofs;refine A0f func356 a ?_;rw[<-A8z _ l 0];simp -dsimp -implicitDefEqProofs
def C8B(l:List IdD)(x:IdD)(b:Nat)(M:Mem)(hl:l.length<=1000)(hb:M[b]?=some (.cells 85 [.list 3 (A4y l) .no])):A0d (WC gl) 286 [.agg x.row,.ptr b 0] M (λv M'=>v=B (l.any λy=>decide (y=x))/\M'=M):=by have hx:x.row=[I x.act,I x.item,I x.n]:=rfl;have a:=C9v gl l .no x M hl;rw[hx]at a|-;refine A0j hB func286 ?_;simp -dsimp -implicitDefEqProofs[A0b hb];refine A0f func287 a ?_;simp -dsimp -implicitDefEqProofs
end
def A4J(act item:Int):Nat->List ByteArray->List A0H
 |_,[]=>[]
 |n,s::l=>⟨s,act,item,n⟩::A4J act item (n+1) l
@[simp] def A9Q(b a:Int):∀(l:List ByteArray) (n:Nat),(A4J b a n l).length=l.length
 |[],_=>rfl
 |s::l,n=>by simp[A4J,A9Q b a l (n+1)]
def C2a(d c:Int):∀(a b:List ByteArray) (n:Nat),A4J d c n (a++b)=A4J d c n a++A4J d c (n+a.length) b
 |[],b,n=>by simp[A4J]
 |s::a,b,n=>by rw[Z1g,A4J,C2a d c a b (n+1),A4J,Z1g,Z0C,show n+1+a.length=n+(a.length+1)by omega]
section
variable (gl:Nat->AV)
def C8I(ws:List A0H)(o:Own)(M:Mem)(hl:ws.length<=100000000):A0d (WC gl) 388 [.list 4 (A0g ws) o] M (λv M'=>v=.list 1 (A1b (A0Y ws)) .no/\M'=M):=by
 refine A0d.dataX ?_;refine A0j (hQ [16]) func388 ?_;simp -dsimp -implicitDefEqProofs;refine A0v (hQ [16]) ws.length 8 (λT M1=>∃i:Nat,i<=ws.length/\T 0=.list 4 (A0g ws) o/\T 6=.list 4 (A0g ws) o/\T 7=I ws.length/\T 8=I i/\A1n 9 1 A5F M1 (T 3) (A0Y (ws.take i))/\Grow M M1/\A1r M.length (T 3)) ?_ ?_
 .exact⟨0,by omega,by simp,by simp,by simp,by simp,by simpa[A0Y]using A1n.nil,Grow.refl _,by simp[A1r]⟩
 rintro T M1 ⟨i,i1,t0,t6,t7,t8,hv,hg,hL⟩;by_cases hi:i<ws.length
 .have a:(i:Int)<ws.length:=by omega
  have w1:IntKind.i64.wrap ((i:Int)+1)=(i+1:Nat):=by rw[A0T (by omega) (by omega)];omega
  generalize c:T 3=ov at*;have d:(M1++[A0l.cells 152 [S ws[i].text,I ws[i].act,I ws[i].item,I ws[i].at_]])[M1.length]?=some (A0l.cells 152 [S ws[i].text,I ws[i].act,I ws[i].item,I ws[i].at_]):=by simp
  have b:A1n 9 1 A5F (M1++[A0l.cells 152 [S ws[i].text,I ws[i].act,I ws[i].item,I ws[i].at_]]) ov (A0Y (ws.take i)):=hv.keep (A0c.app none M1 _) (by simp);have ht:A0Y (ws.take (i+1))=A0Y (ws.take i)++[ws[i].text]:=by rw[A0Y,A0Y,Z1k,Z0l hi,Z0Q];rfl
  simp -dsimp -implicitDefEqProofs[t6,t7,t8,hi,a,c,A0m,A0n,A0e,A0H.row,A0b d,A0p,A0Z];refine A3V (C:=WC gl) (enc:=A5F) (e:=9) (sz:=1) (news:=[ws[i].text]) A7n A9D B5x (λ_=>rfl) b (by simp[A0z]) (by simp[A0Y];omega) rfl ?_;intro v' M' h1 h2 h3 _;obtain⟨k1,k2⟩:=A2T hg hL h2 h3;simp -dsimp -implicitDefEqProofs[t0,t6,t7,t8,w1];exact⟨⟨i+1,by clear w1;omega,rfl,by rw[ht];exact h1,k1,k2⟩,by clear w1;omega⟩
 .have a:¬(i:Int)<ws.length:=by omega
  rw[Z0k (by omega)]at hv;simp -dsimp -implicitDefEqProofs[t7,t8,a];refine⟨hg,?_⟩;have:=A2W (enc:=A5F) (λ_=>rfl) (λn x=>by simp[A1Q,bdd]) hv hL;exact this
def C8Q(l:List ByteArray)(o:Own)(b a:Int)(n:Nat)(M:Mem)(hl:l.length<=100000000)(hn:n<=1000000000):A0d (WC gl) 296 [.list 1 (A1b l) o,I b,I a,I n] M (λv M'=>v=.list 4 (A0g (A4J b a n l)) .no/\M'=M):=by
 refine A0d.dataX ?_;refine A0j (hQ [29]) func296 ?_;simp -dsimp -implicitDefEqProofs;refine A0v (hQ [29]) l.length 14 (λT M1=>∃i:Nat,i<=l.length/\T 1=I b/\T 2=I a/\T 3=I n/\T 12=.list 1 (A1b l) o/\T 13=I l.length/\T 14=I i/\A1n 152 4 A0H.row M1 (T 9) (A4J b a n (l.take i))/\Grow M M1/\A1r M.length (T 9)) ?_ ?_
 .exact⟨0,by omega,by simp,by simp,by simp,by simp,by simp,by simp,by simpa[A4J]using A1n.nil,Grow.refl _,by simp[A1r]⟩
 rintro T M1 ⟨i,i1,t1,t2,t3,g,d,f,hv,hg,hL⟩;by_cases hi:i<l.length
 .have c:(i:Int)<l.length:=by omega
  have w1:IntKind.i64.wrap ((i:Int)+1)=(i+1:Nat):=by rw[A0T (by omega) (by omega)];omega
  have w2:IntKind.i64.wrap ((n:Int)+i)=(n:Int)+i:=by rw[A0T (by omega) (by omega)]
  generalize j:T 9=ov at*;have h:(A1b l)[i]?=some [S l[i]]:=by simp[A1b,hi]
  have ht:A4J b a n (l.take (i+1))=A4J b a n (l.take i)++[⟨l[i],b,a,(n:Int)+i⟩]:=by rw[Z1k,Z0l hi,C2a];simp[A4J,Z1E (Nat.le_of_lt hi)]
  have m:A0D prog 150 [(0,I b),(1,I a),(2,I ((n:Int)+i))]=some (.agg [I b,I a,I ((n:Int)+i)]):=by simp[A0D,A1l,A1H,AV.cells,AV.storable]
  have k:A0D prog 152 [(0,S l[i]),(1,.agg [I b,I a,I ((n:Int)+i)])]=some (.agg [S l[i],I b,I a,I ((n:Int)+i)]):=by simp[A0D,A1l,A1H,AV.cells,AV.storable]
  simp -dsimp -implicitDefEqProofs[t1,t2,t3,g,d,f,hi,c,j,w2,m,k,A0p,A0Z,AV.storable,AV.cells];refine A3V (C:=WC gl) (enc:=A0H.row) (e:=152) (sz:=4) (news:=[⟨l[i],b,a,(n:Int)+i⟩]) B5a C2G B5W (λ_=>rfl) hv (by simp[A0z,A0H.row]) (by simp;omega) rfl ?_;intro v' M' h1 h2 h3 _;obtain⟨k1,k2⟩:=A2T (X:=[]) hg hL (by simpa using h2) (by simpa using h3);simp -dsimp -implicitDefEqProofs[t1,t2,t3,g,d,f,w1];exact⟨⟨i+1,by clear w1;omega,rfl,by rw[ht];exact h1,k1,k2⟩,by clear w1;omega⟩
 .have c:¬(i:Int)<l.length:=by omega
  rw[Z0k (by omega)]at hv;simp -dsimp -implicitDefEqProofs[d,f,c];refine⟨hg,?_⟩;exact A2W (enc:=A0H.row) (λ_=>rfl) A5t hv hL
end
abbrev A8K(act item:Int)(n w:Nat):A0l:=.cells 339 [I act,I item,I n,I w]
section
variable (gl:Nat->AV)
def C2x(ws:List A0H)(o:Own)(c a:Int)(n w b:Nat)(M:Mem)(hl:ws.length<=100000000)(hw:w<=1000000000)(hb:M[b]?=some (A8K c a n w)):A0d (WC gl) 385 [.ptr b 0,.list 4 (A0g ws) o] M (λv M'=>v=.list 4 (A0g (A4J c a w (A0Y ws))) .no/\M'=M.set b (A8K c a n (w+ws.length))):=by
 have hs:=λM=>C8I gl ws o M hl
 have hm:=λM=>C8Q gl (A0Y ws) .no c a w M (by simpa[A0Y]using hl) hw
 have w1:IntKind.i64.wrap ((w:Int)+ws.length)=(w:Int)+ws.length:=by rw[A0T (by omega) (by omega)]
 have d:(A0Y ws).length=ws.length:=by simp[A0Y]
 refine A0j hB func385 ?_
 simp -dsimp -implicitDefEqProofs
 refine A1i hB (A0G gl) (λk=>if k=5\/k=9\/k=13 then 1 else 0) (λ_=>b) (by rfl) (by kernel_rfl) ?_
 simp -dsimp -implicitDefEqProofs
 refine A1M func388 hs ?_
 simp -dsimp -implicitDefEqProofs[A0b hb,A6w]
 refine A1M func296 hm ?_
 simp -dsimp -implicitDefEqProofs[A0b hb,A0h hb,d,w1,A8K]
end
mutual
def wcU:A0a->Nat
 |.mk _ _ _ h ws ks=>h.length+ws.length+wcL ks
def wcL:List A0a->Nat
 |[]=>0
 |k::ks=>wcU k+wcL ks
end
mutual
def A2g(a i:Int):A0a->Nat->Nat->A0a
 |.mk _ k l h ws ks,n,w=>.mk ⟨a,i,(n+1:Nat)⟩ k l (A4J a i w (A0Y h)) (A4J a i (w+h.length) (A0Y ws)) (A2B a i ks (n+1) (w+h.length+ws.length))
def A2B(a i:Int):List A0a->Nat->Nat->List A0a
 |[],_,_=>[]
 |k::ks,n,w=>A2g a i k n w::A2B a i ks (n+A0o k) (w+wcU k)
end
def B0h(a i:Int):∀(ks:List A0a) (n w:Nat),(A2B a i ks n w).length=ks.length
 |[],_,_=>by simp[A2B]
 |k::ks,n,w=>by rw[A2B,Z0C,B0h a i ks,Z0C]
def B9D(a i:Int):∀(xs ys:List A0a) (n w:Nat),A2B a i (xs++ys) n w=A2B a i xs n w++A2B a i ys (n+A0u xs) (w+wcL xs)
 |[],ys,n,w=>by simp[A2B,A0u,wcL]
 |x::xs,ys,n,w=>by rw[Z1g,A2B,B9D a i xs ys,A2B,A0u,wcL,Z1g];simp only[Z2r]
def A8g:∀(xs ys:List A0a),A0u (xs++ys)=A0u xs+A0u ys
 |[],ys=>by rw[A0u];simp
 |x::xs,ys=>by rw[Z1g,A0u,A0u,A8g xs ys];omega
def D0s:∀(xs ys:List A0a),wcL (xs++ys)=wcL xs+wcL ys
 |[],ys=>by rw[wcL];simp
 |x::xs,ys=>by rw[Z1g,wcL,wcL,D0s xs ys];omega
def D0i:∀{ks:List A0a} {i:Nat} (h:i<ks.length),wcL (ks.take i)+wcU ks[i]<=wcL ks
 |k::ks,0,h=>by simp[wcL]
 |k::ks,i+1,h=>by have:=D0i (ks:=ks) (i:=i) (by simpa using h);simp only[Z0D,wcL,Z2W];omega
def C5o{M:Mem}{v:AV}{l:List A0a}(h:A1n 27 8 A0a.row M v l){i:Nat}(hi:i<l.length)(y:A0a):∃f g M',v=.vref f g 8 0 l.length/\A1D prog 27 M (.vptr f g (i*8))=some (.agg l[i].row)/\A0n (some 8) M (.vptr f g (i*8)) (.agg y.row)=some M'/\A1n 27 8 A0a.row M' v (l.set i y)/\M'.length=M.length/\∀j,j≠f->M'[j]?=M[j]?:=by
 have e:=h.at_ (P:=prog) (t:=27) A0a.row_len D8H D9E hi
 rcases h with⟨rfl,rfl⟩|⟨f,g,b,rfl,hm,hl⟩
 .simp at hi
 have d:f<M.length:=(Z0b.1 hm).1
 have a:l=l.take i++l[i]::l.drop (i+1):=by rw[<-Z0j hi,Z0U]
 have c:((l.take i).flatMap A0a.row).length=i*8:=by rw[A3C A0a.row_len,Z0F,Z1E (by omega)]
 have k:A0e (l.flatMap A0a.row) (i*8) y.row=(l.set i y).flatMap A0a.row:=by
  have e1:l.set i y=l.take i++y::l.drop (i+1):=Z3r.trans (Z0d hi);rw[e1,Z1z,Z1f];unfold A0e
  conv=>lhs;rw[a]
  rw[Z1z,Z1f,Z2f (by omega),Z0k (by omega),Z0X];congr 2;rw[Z3x,c,Z1Z (by rw[c];simp),Z2d,A0a.row_len,Z2n,Z3x,A0a.row_len,Z4w,Z1Z (by simp)];rfl
 refine⟨f,g,M.set f (.vec 27 8 ((l.set i y).flatMap A0a.row) g (A1A 8 g (i*8) b)),rfl,?_,?_,.inr ⟨f,g,A1A 8 g (i*8) b,by simp,by simp[d],?_⟩,by simp,λj hj=>Z0f (by omega)⟩
 .obtain⟨p,e1,_,e2,_⟩:=e;simp[hi]at e1;rw[<-e1]at e2;exact e2
 .simp only[A0n,hm,hl];rw[Z0d (by simp[AV.storable,AV.cells];omega)];simp only[AV.cells];rw[k]
 .unfold A1A;rw[Z1o];exact A4w _ hl
def D6L:B7o prog 27=some 120:=by kernel_rfl
def C8z{ks:List A0a}{M:Mem}(hl:ks.length<=1000):∃zs,A4r prog 25 (I ks.length) (I ks.length) M=some (.vref M.length 0 8 0 ks.length,M++[.vec 27 8 zs 0 [(0,ks.length)]])/\A5H prog 25 25 (M++[.vec 27 8 zs 0 [(0,ks.length)]]) (.vref M.length 0 8 0 ks.length) (.list 8 (A0r ks) .no)=some (I ks.length,M++[.vec 27 8 (ks.flatMap A0a.row) 0 [(0,ks.length)]]):=by
 have hz:((List.replicate ks.length (zU)).flatten).length=ks.length*8:=by simp[List.length_flatten,zU]
 refine⟨(List.replicate ks.length zU).flatten,?_,?_⟩
 .have h1:(ks.length:Int).toNat*8<=16777216:=by omega
  have h2:ks.length*8<=16777216:=by omega
  have h3:(120:Int)*ks.length<=281474976710656:=by omega
  simp[A4r,zU,D6L,h2,h3]
 .have a:(ks.flatMap A0a.row).length=ks.length*8:=A3C A0a.row_len ks;have c:A0e (List.replicate ks.length zU).flatten 0 (ks.flatMap A0a.row)=ks.flatMap A0a.row:=by unfold A0e;rw[Z2w,Z2d,Z0I,Z1Z (by rw[hz,a];exact Z0o _),Z1F]
  have b:(M++[A0l.vec 27 8 (List.replicate ks.length zU).flatten 0 [(0,ks.length)]])[M.length]?=some (.vec 27 8 (List.replicate ks.length zU).flatten 0 [(0,ks.length)]):=by simp
  have hu:=E7f;simp only[A5H,A8n,D9E,A0z,B2q,B0i,b,List.lookup,Z2O];by_cases h0:ks.length=0
  .have:ks=[]:=Z0z h0;subst this;simp
  .simp only[Z2q];simp[h0,A1A,a,-List.length_flatMap]
def C9n{o:Option Nat}{M0 M:Mem}(h:A0c o M0 M):A0c o M0 (A5I M M0.length):=by refine⟨by simpa using h.1,λi hi ho=>?_⟩;have h2:=h.2 i hi ho;rw[<-h2];have:i<M.length:=Z1r hi h.1;rw[Z0l this];exact A8G (Z0l this) λ_ _ _ _ _ _=>hi
def D6K{α:Type}(xs ys:List α)(x y:α):(xs++x::ys).set xs.length y=xs++y::ys:=by simp
def Still.any{M:Mem}{n:Nat}{ok:AV->Prop}{a d:List AV}(h:Still M n ok a d):Still M n (λ_=>True) a d:=by
 induction h with
 |nil=>exact .nil
 |same _ _ ih=>exact .same trivial ih
 |nilS _ ih=>exact .nilS ih
 |vec h1 h2 h3 h3' h4 h5 _ _ ih1 ih2=>exact .vec h1 h2 h3 h3' h4 h5 ih1 ih2
 |dis _ _ ih=>exact .dis trivial ih
 |agg _ _ ih1 ih2=>exact .agg ih1 ih2
 |tuple _ _ ih1 ih2=>exact .tuple ih1 ih2
structure TrM (M Mi:Mem) (b c:Nat) (sb:A0l) (cc:List AV):Prop where
 kb:A0c (some b) M Mi
 hb:Mi[b]?=some sb
 hc:Mi[c]?=some (.cells 27 cc)
 hr:Mi[c+1]?=some z8
section
variable {M Mi:Mem} {b c:Nat} {sb:A0l} {cc:List AV}
def TrM.setb(h:TrM M Mi b c sb cc)(a:b<c)(s':A0l):TrM M (Mi.set b s') b c s' cc:=by have hl:=(Z0b.1 h.hb).1;exact⟨h.kb.trans (A0c.set _ _ _),by simp[hl],by rw[Z0f (by omega)];exact h.hc,by rw[Z0f (by omega)];exact h.hr⟩
def TrM.setc(h:TrM M Mi b c sb cc)(a:b<c)(d:M.length<=c)(c':List AV):TrM M (Mi.set c (.cells 27 c')) b c sb c':=by have hl:=(Z0b.1 h.hc).1;refine⟨⟨by simpa using h.kb.1,λi hi ho=>by rw[Z0f (by omega)];exact h.kb.2 i hi ho⟩,by rw[Z0f (by omega)];exact h.hb,by simp[hl],by rw[Z0f (by omega)];exact h.hr⟩
def TrM.app(h:TrM M Mi b c sb cc)(X:Mem):TrM M (Mi++X) b c sb cc:=by have hk:Grow Mi (Mi++X):=A0c.app none _ _;exact⟨h.kb.trans hk.of_none,hk.get h.hb (by simp),hk.get h.hc (by simp),hk.get h.hr (by simp)⟩
end
def hTr:A2x:=⟨λd=>d !=3,λ_=>false,λ_=>false⟩
@[simp] def E5S:hTr.imm=λd=>d !=3:=rfl
def E2s{a b c:Int}:A0D prog 23 [(0,I a),(1,I b),(2,I c)]=some (.agg [I a,I b,I c]):=by simp[A0D,A1l,A1H,AV.cells,AV.storable]
section
variable (gl:Nat->AV)
set_option maxHeartbeats 1000000 in
def B8K:∀(u:A0a) (d a:Int) (n w b:Nat) (M:Mem),u.good->u.lims->A0o u<=1000->n+A0o u<=1000000->w+wcU u<=1000000000->M[b]?=some (A8K d a n w)->
 A0d (WC gl) 353 [.ptr b 0,.agg u.row] M (λv M'=>v=.agg (A2g d a u n w).row/\A0c (some b) M M'/\M'[b]?=some (A8K d a (n+A0o u) (w+wcU u)))
 |.mk id kind lab hd ws ks,d,a,n,w,b,M,hg,hlm,a7,hn,hw,hb=>by
  obtain⟨_,_,bh,_,b7,_,bb,b4,a8⟩:=(A0a.good_iff _).1 hg;have a8:∀k∈ks,k.good:=a8;obtain⟨⟨ac,a9,bj,-⟩,ab⟩:=A3f _ hlm;have ac:hd.length<=100000000:=ac;have a9:ws.length<=100000000:=a9;have ab:=A2Z.1 ab;have bg:1+A0u ks<=1000:=by rwa[A0o]at a7
  have bi:n+(1+A0u ks)<=1000000:=by rwa[A0o]at hn
  have be:w+(hd.length+ws.length+wcL ks)<=1000000000:=by rwa[wcU]at hw
  have bf:=A1O ks;have am:(A0a.mk id kind lab hd ws ks).row=[I id.act,I id.item,I id.n,I kind,S lab,.list 4 (A0g hd) .no,.list 4 (A0g ws) .no,.list 8 (A0r ks) .no]:=by rw[A0a.row]
  refine A0d.stillN ?_;rw[am];have an:b<M.length:=(Z0b.1 hb).1;obtain⟨c,hc⟩:∃c,c=M.length:=⟨_,rfl⟩;obtain⟨M1,aa⟩:∃M1,M1=M++[A0l.cells 27 [I id.act,I id.item,I id.n,I kind,S lab,.list 4 (A0g hd) .no,.list 4 (A0g ws) .no,.list 8 (A0r ks) .no],z8]:=⟨_,rfl⟩;have f1:TrM M M1 b c (A8K d a n w) [I id.act,I id.item,I id.n,I kind,S lab,.list 4 (A0g hd) .no,.list 4 (A0g ws) .no,.list 8 (A0r ks) .no]:=by rw[aa,hc];exact⟨A0c.app _ _ _,by rw[Z0h an];exact hb,by simp,by simp[]⟩
  have m:b<c:=by omega
  have z:M.length<=c:=by omega
  have w1:IntKind.i64.wrap ((n:Int)+1)=(n:Int)+1:=by rw[A0T (by omega) (by omega)]
  refine A0j hTr func353 ?_;simp -dsimp -implicitDefEqProofs[A0m];rw[<-aa,<-hc];clear aa;simp -dsimp -implicitDefEqProofs[A0b f1.hb,A0h f1.hb,w1];have f2:=f1.setb m (A8K d a (n+1) w);rw[show(A0l.cells 339 [I d,I a,I ((n:Int)+1),I w])=A8K d a (n+1) w by simp[A8K]];generalize M1.set b (A8K d a (n+1) w)=M2 at*;refine A1i hTr (A0G gl) (λk=>if k=3\/k=7\/k=11 then 1 else if k=14 then 2 else 0) (λ_=>b) (by rfl) (by kernel_rfl) ?_;simp -dsimp -implicitDefEqProofs[A0b f2.hb,A6w,E2s,A0h f2.hc];have f3:=f2.setc m z [I d,I a,I ((n:Int)+1),I kind,S lab,.list 4 (A0g hd) .no,.list 4 (A0g ws) .no,.list 8 (A0r ks) .no];generalize M2.set c (.cells 27 [I d,I a,I ((n:Int)+1),I kind,S lab,.list 4 (A0g hd) .no,.list 4 (A0g ws) .no,.list 8 (A0r ks) .no])=M3 at*;simp -dsimp -implicitDefEqProofs[A0b f3.hc];refine A0s func385 (C2x gl hd .no d a (n+1) w b M3 ac (by omega) f3.hb) ?_;rintro _ _ ⟨rfl,rfl⟩;have f4:=f3.setb m (A8K d a (n+1) (w+hd.length));generalize M3.set b (A8K d a (n+1) (w+hd.length))=M4 at*;obtain⟨g,a0⟩:∃g,g=A4J d a w (A0Y hd):=⟨_,rfl⟩;rw[<-a0];simp -dsimp -implicitDefEqProofs[A0h f4.hc];have f5:=f4.setc m z [I d,I a,I ((n:Int)+1),I kind,S lab,.list 4 (A0g g) .no,.list 4 (A0g ws) .no,.list 8 (A0r ks) .no];generalize M4.set c (.cells 27 [I d,I a,I ((n:Int)+1),I kind,S lab,.list 4 (A0g g) .no,.list 4 (A0g ws) .no,.list 8 (A0r ks) .no])=M5 at*;simp -dsimp -implicitDefEqProofs[A0b f5.hc];refine A0s func385 (C2x gl ws .no d a (n+1) (w+hd.length) b M5 a9 (by omega) f5.hb) ?_;rintro _ _ ⟨rfl,rfl⟩;have f6:=f5.setb m (A8K d a (n+1) (w+hd.length+ws.length));generalize M5.set b (A8K d a (n+1) (w+hd.length+ws.length))=M6 at*;obtain⟨l,a6⟩:∃l,l=A4J d a (w+hd.length) (A0Y ws):=⟨_,rfl⟩;rw[<-a6];simp -dsimp -implicitDefEqProofs[A0h f6.hc];have f7:=f6.setc m z [I d,I a,I ((n:Int)+1),I kind,S lab,.list 4 (A0g g) .no,.list 4 (A0g l) .no,.list 8 (A0r ks) .no];generalize M6.set c (.cells 27 [I d,I a,I ((n:Int)+1),I kind,S lab,.list 4 (A0g g) .no,.list 4 (A0g l) .no,.list 8 (A0r ks) .no])=M7 at*;obtain⟨zs,ar,aj⟩:=C8z (ks:=ks) (M:=M7) (by omega);have f8:=f7.app [A0l.vec 27 8 zs 0 [(0,ks.length)]];simp -dsimp -implicitDefEqProofs[A0b f7.hc,ar,A0b f8.hc,aj];have f9:=f7.app [A0l.vec 27 8 (ks.flatMap A0a.row) 0 [(0,ks.length)]];have ae:A1n 27 8 A0a.row (M7++[A0l.vec 27 8 (ks.flatMap A0a.row) 0 [(0,ks.length)]]) (.vref M7.length 0 8 0 ks.length) ks:=.inr ⟨M7.length,0,[(0,ks.length)],rfl,by simp,by simp[List.lookup]⟩;have b5:M.length<=M7.length:=f7.kb.1;have bd:c+1<M7.length:=(Z0b.1 f7.hr).1;obtain⟨f,hf⟩:∃f,f=M7.length:=⟨_,rfl⟩;rw[<-hf]at ae|-;generalize M7++[A0l.vec 27 8 (ks.flatMap A0a.row) 0 [(0,ks.length)]]=M9 at*;refine A9j (.exit 0) (λT Mi=>T 3=.ptr c 0/\T 4=.ptr (c+1) 0/\T 5=.vref f 0 8 0 ks.length/\A1n 27 8 A0a.row Mi (.vref f 0 8 0 ks.length) (A2B d a ks (n+1) (w+hd.length+ws.length))/\TrM M Mi b c (A8K d a (n+1+A0u ks) (w+hd.length+ws.length+wcL ks)) [I d,I a,I ((n:Int)+1),I kind,S lab,.list 4 (A0g g) .no,.list 4 (A0g l) .no,.list 8 (A0r ks) .no]) ?_ ?_
  .refine A0v hTr ks.length 48 (λT Mi=>∃j:Nat,j<=ks.length/\T 0=.ptr b 0/\T 3=.ptr c 0/\T 4=.ptr (c+1) 0/\T 5=.vref f 0 8 0 ks.length/\T 47=I ks.length/\T 48=I j/\A1n 27 8 A0a.row Mi (.vref f 0 8 0 ks.length) (A2B d a (ks.take j) (n+1) (w+hd.length+ws.length)++ks.drop j)/\TrM M Mi b c (A8K d a (n+1+A0u (ks.take j)) (w+hd.length+ws.length+wcL (ks.take j))) [I d,I a,I ((n:Int)+1),I kind,S lab,.list 4 (A0g g) .no,.list 4 (A0g l) .no,.list 8 (A0r ks) .no]) ?_ ?_
   .exact⟨0,by omega,by simp,by simp,by simp,by simp,by simp,by simp,by simpa[A2B]using ae,by simpa[A0u,wcL]using f9⟩
   clear f1 f2 f3 f4 f5 f6 f7 f8 f9 ae ar aj;rintro T Mi ⟨j,j1,t0,t3,t4,t5,ai,ag,o,fi⟩;by_cases hj:j<ks.length;case neg=>
    (have t:¬(j:Int)<ks.length:=by omega);rw[Z0k (by omega),Z0n (by omega),Z1F]at o
    rw[Z0k (by omega)]at fi;simp -dsimp -implicitDefEqProofs[t3,t4,t5,ai,ag,t];exact⟨o,fi⟩
   (have t:(j:Int)<ks.length:=by omega);have p:ks[j]∈ks:=Z0u hj
   have bc:=A2G p;have:=A0a.kid_lt (u:=.mk id kind lab hd ws ks) p;have ba:=D0i hj;(have b6:A0u (ks.take j)+A0o ks[j]<=A0u ks:=by have:=A8g (ks.take j) (ks.drop j);rw[Z0U,Z0j hj,A0u]at this;omega);obtain⟨n',ah⟩:∃n',n'=n+1+A0u (ks.take j):=⟨_,rfl⟩;obtain⟨w',s⟩:∃w',w'=w+hd.length+ws.length+wcL (ks.take j):=⟨_,rfl⟩;have ad:=B8K ks[j] d a n' w' b Mi (a8 _ p) (ab _ p) (by omega) (by omega) (by omega) (by rw[ah,s];exact fi.hb);have b2:=B0h d a (ks.take j) (n+1) (w+hd.length+ws.length);(have b8:(ks.take j).length=j:=by rw[Z0F,Z1E (by omega)]);obtain⟨xs,ap⟩:∃xs,xs=A2B d a (ks.take j) (n+1) (w+hd.length+ws.length):=⟨_,rfl⟩;rw[<-ap]at o b2;(have ao:xs.length=j:=by omega);(have a5:(xs++ks.drop j).length=ks.length:=by simp;omega);(have ay:(xs++ks.drop j)[j]'(by omega)=ks[j]:=by rw[Z2J (by omega)];simp[ao]);obtain⟨f0,g0,-,e0,al,-,-,-,-⟩:=C5o o (i:=j) (by omega) ks[j];rw[a5]at e0;simp only[AV.vref.injEq,Z1N]at e0;obtain⟨rfl,rfl⟩:=e0;rw[ay]at al;(have au:(xs++ks.drop j).set j (A2g d a ks[j] n' w')=A2B d a (ks.take (j+1)) (n+1) (w+hd.length+ws.length)++ks.drop (j+1):=by have e1:=D6K xs (ks.drop (j+1)) ks[j] (A2g d a ks[j] n' w');rw[ao]at e1;rw[Z0j hj,e1,Z1k,Z0l hj,B9D,<-ap];simp[A2B,ah,s]);(have a7:n'+A0o ks[j]=n+1+A0u (ks.take (j+1)):=by rw[Z1k,Z0l hj,A8g];simp[A0u,ah];omega);(have az:w'+wcU ks[j]=w+hd.length+ws.length+wcL (ks.take (j+1)):=by rw[Z1k,Z0l hj,D0s];simp[wcL,s];omega);simp -dsimp -implicitDefEqProofs[t0,t5,ai,ag,t,al];refine A0s func353 ad ?_;rintro _ M3 ⟨rfl,k1,k2⟩;have b0:=o.keep k1 (λq hq e=>by simp at hq e;omega);obtain⟨f4,g4,M4,e4,-,af,aq,b9,y⟩:=C5o b0 (i:=j) (by omega) (A2g d a ks[j] n' w');rw[a5]at e4;simp only[AV.vref.injEq,Z1N]at e4;obtain⟨rfl,rfl⟩:=e4;rw[au]at aq;have b1:TrM M M4 b c (A8K d a (n+1+A0u (ks.take (j+1))) (w+hd.length+ws.length+wcL (ks.take (j+1)))) [I d,I a,I ((n:Int)+1),I kind,S lab,.list 4 (A0g g) .no,.list 4 (A0g l) .no,.list 8 (A0r ks) .no]:=by
    have a1:=k1.1;have a2:=(Z0b.1 fi.hc).1;have a3:=(Z0b.1 fi.hr).1;have a4:=fi.kb.1;refine⟨⟨by omega,λq hq ho=>?_⟩,?_,?_,?_⟩
    .rw[y q (by omega),k1.2 q (by omega) ho];exact fi.kb.2 q hq ho
    .rw[y b (by omega),k2,a7,az]
    .rw[y c (by omega)];exact k1.get fi.hc (by simp;omega)
    .rw[y (c+1) (by omega)];exact k1.get fi.hr (by simp;omega)
   have w2:=A1y (i:=j) (by omega);simp -dsimp -implicitDefEqProofs[t0,t3,t4,t5,ai,ag,t,af,w2];exact⟨⟨j+1,by clear w2;omega,rfl,aq,b1⟩,by clear w2;omega⟩
  .rintro T Mi ⟨t3,t4,t5,o,fi⟩;have r:=fi.setc m z [I d,I a,I ((n:Int)+1),I kind,S lab,.list 4 (A0g g) .no,.list 4 (A0g l) .no,.vref f 0 8 0 ks.length];have bk:=(Z0b.1 fi.hr).1;have aw:A1n 27 8 A0a.row (Mi.set c (.cells 27 [I d,I a,I ((n:Int)+1),I kind,S lab,.list 4 (A0g g) .no,.list 4 (A0g l) .no,.vref f 0 8 0 ks.length])) (.vref f 0 8 0 ks.length) (A2B d a ks (n+1) (w+hd.length+ws.length)):=o.keep (A0c.set _ _ _) (λq hq e=>by simp at hq e;omega);simp -dsimp -implicitDefEqProofs[t3,t5,A0h fi.hc];generalize Mi.set c (.cells 27 [I d,I a,I ((n:Int)+1),I kind,S lab,.list 4 (A0g g) .no,.list 4 (A0g l) .no,.vref f 0 8 0 ks.length])=Mj at*;have ak:c+1<Mj.length:=(Z0b.1 r.hr).1;simp -dsimp -implicitDefEqProofs[t4,A0b r.hc,A0h r.hr,A0y ak,A0k];have av:=aw.keep (A0c.set Mj (c+1) (.cells 27 [I d,I a,I ((n:Int)+1),I kind,S lab,.list 4 (A0g g) .no,.list 4 (A0g l) .no,.vref f 0 8 0 ks.length])) (λq hq e=>by simp at hq e;omega);have ax:A0c (some b) M (Mj.set (c+1) (.cells 27 [I d,I a,I ((n:Int)+1),I kind,S lab,.list 4 (A0g g) .no,.list 4 (A0g l) .no,.vref f 0 8 0 ks.length])):=⟨by simpa using r.kb.1,λi hi ho=>by rw[Z0f (by omega)];exact r.kb.2 i hi ho⟩;(have b3:(Mj.set (c+1) (.cells 27 [I d,I a,I ((n:Int)+1),I kind,S lab,.list 4 (A0g g) .no,.list 4 (A0g l) .no,.vref f 0 8 0 ks.length]))[b]?=some (A8K d a (n+1+A0u ks) (w+hd.length+ws.length+wcL ks)):=by rw[Z0f (by omega)];exact r.hb);refine⟨M.length,.agg (A2g d a (.mk id kind lab hd ws ks) n w).row,.agg ?_ .nil,rfl,C9n ax,?_⟩
   .rw[A2g,A0a.row,<-a0,<-a6];have af:=(A8W av (n:=M.length) (λq hq=>by simp at hq;omega)).any;simp only[Int.natCast_add,Int.cast_ofNat_Int];exact .same trivial (.same trivial (.same trivial (.same trivial (.same trivial (.same trivial (.same trivial af))))))
   .rw[A8G b3 (λ_ _ _ _ _ h=>by simp at h),A0o,wcU];simp[A8K];omega
termination_by u=>SizeOf.sizeOf u
end
section
variable (gl:Nat->AV)
def D5I(u:A0a)(c a:Int)(M:Mem)(hf:Fit u)(hw:wcU u<=1000000000):A0d (WC gl) 283 [.agg u.row,I c,I a] M (λv M'=>v=.agg (A2g c a u 0 0).row/\M'=M):=by
 refine A0d.dataX ?_;obtain⟨b,hb⟩:∃b,b=M.length:=⟨_,rfl⟩;obtain⟨M1,e⟩:∃M1,M1=M++[z8,A8K c a 0 0]:=⟨_,rfl⟩;have h1:M1[b]?=some z8:=by rw[e,hb];simp
 have h2:M1[b+1]?=some (A8K c a 0 0):=by rw[e,hb];simp[]
 have f:Grow M M1:=by rw[e];exact A0c.app none _ _
 have h:A0D prog 339 [(0,I c),(1,I a)]=some (.agg [I c,I a,I 0,I 0]):=by simp[A0D,A1l,A1H,AV.cells,AV.storable]
 have d:=B8K gl u c a 0 0 (b+1) M1 hf.1 hf.2.1 hf.2.2 (by have:=hf.2.2;omega) (by omega) h2;rw[u.row_eq]at d|-;refine A0j hB func283 ?_;simp -dsimp -implicitDefEqProofs[A0m,h,A0n,A0e,AV.storable,AV.cells];rw[show M++[z8,A0l.cells 339 [I c,I a,I 0,I 0]]=M1 by rw[e];simp[A8K],<-hb];refine A0s func353 d ?_;rintro _ M2 ⟨rfl,k1,k2⟩;have h3:=k1.get h1 (by simp);have g:b<M2.length:=(Z0b.1 h3).1;have j:Grow M M2:=⟨by have:=f.1;have:=k1.1;omega,λi hi _=>by rw[k1.2 i (by have:=f.1;omega) (by simp;omega)];exact f.2 i hi (by simp)⟩;simp -dsimp -implicitDefEqProofs[A0h h3,A0y g,A0k];exact⟨A1e j (by omega),.same (by simp only[bdd];exact A2J _ _) .nil⟩
end
def B5R(s:A0I):Bool:=decide (s.k=0)&&decide (s.lab=⟨#[]⟩)
def B3r(i:Nat)(s:A0I):Prop:=(i=0/\s=A3k)\/(0<s.k/\s.k<=7/\A0N s.lab=true)
section
variable (gl:Nat->AV)
def B9c(s:A0I)(M:Mem):A0d (WC gl) 324 [.agg s.row] M (λv M'=>v=B (B5R s)/\M'=M):=by
 obtain⟨k,a⟩:=s;have hr:(A0I.mk k a).row=[I k,S a]:=rfl;rw[hr];refine A0j hB func324 ?_;by_cases h1:k=0
 .by_cases h2:a=⟨#[]⟩
  .simp -dsimp -implicitDefEqProofs[h1,h2,B5R]
  .simp -dsimp -implicitDefEqProofs[h1,h2,B5R]
 .simp -dsimp -implicitDefEqProofs[h1,B5R]
set_option maxHeartbeats 1000000 in
def B6H(p:List A0I)(o:Own)(M:Mem)(hl:p.length<=9)(hp:∀i (h:i<p.length),B3r i p[i]):A0d (WC gl) 240 [.list 2 (A1K p) o] M (λv M'=>v=B true/\M'=M):=by
 refine A4j (λ_=>trivial) ?_;refine A0j hB func240 ?_;simp -dsimp -implicitDefEqProofs;refine A0v hB p.length 7 (λT M1=>∃i:Nat,i<=p.length/\T 0=.list 2 (A1K p) o/\T 5=.list 2 (A1K p) o/\T 6=I p.length/\T 7=I i/\Grow M M1) ?_ ?_
 .exact⟨0,by omega,by simp,by simp,by simp,by simp,Grow.refl _⟩
 rintro T M1 ⟨i,i1,t0,t5,t6,t7,hg⟩;by_cases hi:i<p.length;case neg=>
  have a:¬(i:Int)<p.length:=by omega
  have h9:(p.length:Int)<=9:=by omega
  simp -dsimp -implicitDefEqProofs[t0,t6,t7,a,h9];exact hg
 have a:(i:Int)<p.length:=by omega
 have w1:=A1y (i:=i) (by omega);obtain⟨s,hs⟩:∃s,s=p[i]:=⟨_,rfl⟩;have g:=hp i hi;rw[<-hs]at g;have l:p[i]=s:=hs.symm;have m:(A1K p)[i]?=some [I s.k,S s.lab]:=by simp[A1K,hi,hs,A0I.row]
 obtain⟨M2,b⟩:∃M2,M2=M1++[A0l.cells 159 [I s.k,S s.lab]]:=⟨_,rfl⟩;have hX:M2[M1.length]?=some (A0l.cells 159 [I s.k,S s.lab]):=by rw[b];simp
 have e:Grow M M2:=by rw[b];exact hg.trans (A0c.app none _ _)
 have j:=B9c gl s M2;rw[show s.row=[I s.k,S s.lab]from rfl]at j;have c:∀M,A4d (WC gl) 112 [S s.lab] M (λv M'=>v=B (A0N s.lab)/\M'=M):=λM=>A1Y func112 rfl rfl (A4j (λ_=>trivial) (A9J gl M s.lab));have r:IntKind.i64.wrap 1=1:=by decide
 by_cases h0:i=0
 .have t:(i:Int)=0:=by omega
  subst h0;simp -dsimp -implicitDefEqProofs[t5,t6,t7,hi,l,A0m,A0n,A0e];rw[<-b];simp -dsimp -implicitDefEqProofs[A0b hX];refine A0f func324 j ?_;cases hb:B5R s
  .rcases g with⟨_,rfl⟩|⟨q1,q2,q3⟩
   .simp[B5R,A3k]at hb
   (have d:¬s.k<=0:=by omega);have f:¬s.k>7:=by omega
   rw[q3]at c;simp -dsimp -implicitDefEqProofs[A0b hX,d,f];refine A4A (c M2) ?_;rintro _ _ ⟨rfl,rfl⟩;simp -dsimp -implicitDefEqProofs[t0,t5,t6,t7,r];exact⟨⟨1,by omega,rfl,e⟩,by omega⟩
  .simp -dsimp -implicitDefEqProofs[t0,t5,t6,t7,r];exact⟨⟨1,by omega,rfl,e⟩,by omega⟩
 .rcases g with⟨q,_⟩|⟨q1,q2,q3⟩
  .exact absurd q h0
  have d:¬s.k<=0:=by omega
  have f:¬s.k>7:=by omega
  rw[q3]at c;simp -dsimp -implicitDefEqProofs[t5,t6,t7,a,hi,l,A0m,A0n,A0e];rw[<-b];simp -dsimp -implicitDefEqProofs[A0b hX,h0,d,f];refine A4A (c M2) ?_;rintro _ _ ⟨rfl,rfl⟩;simp -dsimp -implicitDefEqProofs[t0,t5,t6,t7,w1];exact⟨⟨i+1,by clear w1;omega,rfl,e⟩,by clear w1;omega⟩
end
end Go.Abs
