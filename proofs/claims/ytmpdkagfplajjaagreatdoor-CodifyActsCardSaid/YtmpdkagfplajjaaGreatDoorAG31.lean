/- The texts CbL, CbM, CbJ. -/
import Derived.Test.YtmpdkagfplajjaaGreatDoorAG30
import Derived.Test.YtmpdkagfplajjaaGreatDoorAG20
import Derived.Test.YtmpdkagfplajjaaGreatDoorAG29
set_option linter.all false
set_option maxRecDepth 100000
namespace Go.Abs
open Go.Proofs TryTypes Tryz
def A3Y{α:Type}(e sz:Nat)(enc:α->List AV)(n:Nat)(M:Mem)(v:AV)(l:List α):Prop:=(v=.list sz [] .no/\l=[])\/Arr e sz enc n M v l
section
variable {α:Type} {e sz n:Nat} {enc:α->List AV} {M M':Mem} {v:AV} {l:List α}
def A3Y.store(h:A3Y e sz enc n M v l):v.storable=true:=by
 rcases h with⟨rfl,rfl⟩|h
 .rfl
 .exact h.own.store
def A3Y.cells(h:A3Y e sz enc n M v l):v.cells=[v]:=by
 rcases h with⟨rfl,rfl⟩|h
 .rfl
 .exact h.own.cells
def A3Y.len(h:A3Y e sz enc n M v l){P}{t e':TypeId}(ht:P.underlying t=some (.slice e')):A1H P t v=some l.length:=by
 rcases h with⟨rfl,rfl⟩|h
 .simp[A1H,ht]
 .exact h.own.len ht
def A3Y.keep(h:A3Y e sz enc n M v l)(hk:Grow M M'):A3Y e sz enc n M' v l:=by
 rcases h with h|h
 .exact .inl h
 .exact .inr (h.keep hk)
def A3Y.stay(h:A3Y e sz enc n M v l)(hk:∀f,obj v=some f->M'[f]?=M[f]?):A3Y e sz enc n M' v l:=by
 rcases h with h|⟨h1,h2⟩
 .exact .inl h
 .refine .inr ⟨?_,h2⟩;rcases h1 with h1|⟨f,g,a,rfl,hm,hl⟩
  .exact .inl h1
  .exact .inr ⟨f,g,a,rfl,by rw[hk f rfl];exact hm,hl⟩
def A3Y.still(h:A3Y e sz enc n M v l)(he:∀x,(enc x).length=sz)(hb:∀n x,A2l n (enc x)){cs ds}(hr:Still M n (bdd n) cs ds):Still M n (bdd n) (v::cs) (.list sz (l.map enc) .no::ds):=by
 rcases h with⟨rfl,rfl⟩|h
 .exact .same (by simp[bdd,A9W]) hr
 .exact Still.append (a:=[v]) (b:=[.list sz (l.map enc) .no]) (A4u he hb h.own h.lat) hr
end
def A3Y.lat{α:Type}{e sz n}{enc:α->List AV}{M}{v}{l}(h:A3Y e sz enc n M v l):A1n n v:=by
 rcases h with⟨rfl,rfl⟩|h
 .intro f hf;simp[obj]at hf
 .exact h.lat
def A3Y.lt{α:Type}{e sz n}{enc:α->List AV}{M}{v}{l}(h:A3Y e sz enc n M v l){f}(hf:obj v=some f):f<M.length:=by
 rcases h with⟨rfl,rfl⟩|h
 .simp[obj]at hf
 .exact h.own.lt hf
def A3Y.weak{α:Type}{e sz n m}{enc:α->List AV}{M}{v}{l}(h:A3Y e sz enc n M v l)(hm:m<=n):A3Y e sz enc m M v l:=by
 rcases h with h|⟨h1,h2⟩
 .exact .inl h
 .exact .inr ⟨h1,λf hf=>by have:=h2 f hf;omega⟩
def Arr.stay{α:Type}{e sz n}{enc:α->List AV}{M M'}{v}{l}(h:Arr e sz enc n M v l)(hk:∀f,obj v=some f->M'[f]?=M[f]?):Arr e sz enc n M' v l:=by
 obtain⟨h1,h2⟩:=h;refine⟨?_,h2⟩;rcases h1 with h1|⟨f,g,a,rfl,hm,hl⟩
 .exact .inl h1
 .exact .inr ⟨f,g,a,rfl,by rw[hk f rfl];exact hm,hl⟩
def C8n{cs part}{off}(h:(cs.drop off).take part.length=part):A0d cs off part=cs:=by
 unfold A0d;rw[<-h,Z0I,Z0O];have e:(cs.drop off).take part.length++cs.drop (off+min part.length (cs.drop off).length)=cs.drop off:=by
  rcases Nat.le_total part.length (cs.drop off).length with hl|hl
  .rw[Z2g hl,<-Z1X,Z1o]
  .rw[Nat.min_eq_right hl,<-Z1X,List.drop_length,Z1f,Z0l hl]
 rw[e,Z1o]
abbrev C4a(u:A0b)(kv:AV):List AV:=[I u.id.act,I u.id.item,I u.id.n,I u.kind,S u.label,.list 4 (A0g u.head) .no,.list 4 (A0g u.words) .no,kv]
def B9N(ks:List A0b)(kv:AV):Prop:=kv=.list 8 (A0O ks) .no\/(ks=[]/\kv=A0Z)
def B9N.len{ks}{kv}(h:B9N ks kv):A1H prog 25 kv=some ks.length:=by rcases h with rfl|⟨rfl,rfl⟩<;>simp
def B9N.store{ks}{kv}(h:B9N ks kv):kv.storable=true:=by rcases h with rfl|⟨rfl,rfl⟩<;>rfl
def B9N.cells{ks}{kv}(h:B9N ks kv):kv.cells=[kv]:=by rcases h with rfl|⟨rfl,rfl⟩<;>rfl
structure D1B (M:Mem) (u:A0b) (hv wv kv:AV) (M':Mem):Prop where
 grow:Grow M M'
 h:A3Y 152 4 A0G.row M.length M' hv u.head
 w:A3Y 152 4 A0G.row M.length M' wv u.words
 k:Arr 27 8 A0b.row M.length M' kv u.kids
 a12:A8v hv wv
 a13:A8v hv kv
 a23:A8v wv kv
abbrev D4j(u:A0b)(hv wv kv:AV):List AV:=[I u.id.act,I u.id.item,I u.id.n,I u.kind,S u.label,hv,wv,kv]
def D1B.still{M M'}{u}{hv wv kv}(h:D1B M u hv wv kv M'):Grow M M'/\Still M' M.length (bdd M.length) [.agg (D4j u hv wv kv)] [.agg u.row]:=by refine⟨h.grow,?_⟩;rw[u.row_eq,A6o];exact .agg (.same trivial (.same trivial (.same trivial (.same trivial (.same trivial (h.h.still (λ_=>rfl) A5M (h.w.still (λ_=>rfl) A5M (A4u A0b.row_len A8s h.k.own h.k.lat)))))))) .nil
def hCp:A2I:=⟨λd=>d !=1,λ_=>false,λd=>d==25⟩
@[simp] def E0s:hCp.imm=λd=>d !=1:=rfl
@[simp] def E1o:hCp.own=λ_=>false:=rfl
@[simp] def E0V:hCp.vec=λd=>d==25:=rfl
section
variable (gl:Nat->AV)
def C0U(l:List A0G)(M:Mem)(hl:l.length<=1000000000):A0e (WC gl) 141 [.list 4 (A0g l) .no] M (λv M'=>A1z 152 4 A0G.row M' v l/\Grow M M'/\A1n M.length v):=by
 refine A0k hW func141 ?_;have tail:∀(K:AV->Mem->Prop) (tg:Tag K),(∀v M',(A1z 152 4 A0G.row M' v l/\Grow M M'/\A1n M.length v)->K v M')->A7o (WC gl) (A1R hW.own (some 7)) (A1R hW.vec (some 7)) 24 24 (.vref M.length 0 4 0 0) (.list 4 (A0g l) .no) (M++[.vec 152 4 [] 0 [(0,0)]]) K tg:=by intro K tg hk;have ho:A1z 152 4 A0G.row (M++[.vec 152 4 [] 0 [(0,0)]]) (.vref M.length 0 4 0 0) []:=.inr ⟨M.length,0,[(0,0)],rfl,by simp,by simp[List.lookup]⟩;refine A3E (C:=WC gl) (enc:=A0G.row) (e:=152) (sz:=4) (news:=l) B8B C3P B7c (λ_=>rfl) ho (by simp[A0B,A0g,List.flatMap]) (by simp;omega) rfl ?_;intro v' M' h1 h2 h3 _;obtain⟨r1,r2⟩:=A4T (X:=[]) (A0c.app none M [.vec 152 4 [] 0 [(0,0)]]) (v:=.vref M.length 0 4 0 0) (λf hf=>by simp at hf;omega) (by simpa using h2) (by simpa using h3);exact hk _ _ ⟨h1,r1,r2⟩
 cases l with
 |nil=>
  simp -dsimp -implicitDefEqProofs[A0g];rw[B2T (.inl rfl) underlying24];intro b;cases b
  .simp -dsimp -implicitDefEqProofs[A1v,A0J];refine tail _ _ λv M' h=>?_;simp -dsimp -implicitDefEqProofs;exact h
  .simp -dsimp -implicitDefEqProofs;exact⟨.nil,A0c.refl _ _,λf h=>by simp at h⟩
 |cons a l=>simp -dsimp -implicitDefEqProofs[A0g,A1v,A0J];refine tail _ _ λv M' h=>?_;simp -dsimp -implicitDefEqProofs;exact h
def B9s(l:List A0G)(M:Mem)(hl:l.length<=1000000000):∃r M1,A0e (WC gl) 141 [.list 4 (A0g l) .no] M (λv M'=>v=r/\M'=M1)/\Grow M M1/\A3Y 152 4 A0G.row M.length M1 r l/\M1.length<=M.length+1:=by
 by_cases h:l=[]
 .exact⟨_,_,A0e.still (enc:=A0G.row) (λ_=>rfl) A5M (C0U gl l M hl),Grow.refl _,.inl ⟨by rw[h];rfl,h⟩,by omega⟩
 .exact⟨_,_,A0e.repack (enc:=A0G.row) (λ_=>rfl) A5M h (C0U gl l M hl),A0c.app none _ _,.inr ⟨.inr ⟨M.length,0,[(0,l.length)],rfl,by simp,by simp[List.lookup]⟩,λf hf=>by simp at hf;omega⟩,by simp⟩
set_option maxHeartbeats 1000000 in
def C0u:∀(u:A0b) (kv:AV) (M:Mem),B9N u.kids kv->u.good->u.lims->A0x u<=1000->
 A0e (WC gl) 89 [.agg (C4a u kv)] M (λv M'=>∃hv wv kw,v=.agg (D4j u hv wv kw)/\D1B M u hv wv kw M')
 |.mk id kind lab hd ws ks,kv,M,t,hg,hlm,hc=>by
  obtain⟨_,_,bi,_,be,_,bf,bg,ah⟩:=(A0b.good_iff _).1 hg;have ah:∀k∈ks,k.good:=ah;obtain⟨⟨b0,ay,bm,-⟩,ak⟩:=A7B _ hlm;have b0:hd.length<=100000000:=b0;have ay:ws.length<=100000000:=ay;have ak:=A7d.1 ak;have bk:1+A0V ks<=1000:=by rwa[A0x]at hc
  have al:=A2t ks;have t:B9N ks kv:=t;have b2:C4a (.mk id kind lab hd ws ks) kv=[I id.act,I id.item,I id.n,I kind,S lab,.list 4 (A0g hd) .no,.list 4 (A0g ws) .no,kv]:=rfl;have b7:∀a b c,D4j (.mk id kind lab hd ws ks) a b c=[I id.act,I id.item,I id.n,I kind,S lab,a,b,c]:=λ_ _ _=>rfl;rw[b2];simp only[b7];refine A0k hCp func89 ?_;obtain⟨b,hb⟩:∃b,b=M.length:=⟨_,rfl⟩;obtain⟨M1,s⟩:∃M1,M1=M++[A0p.cells 27 [I id.act,I id.item,I id.n,I kind,S lab,.list 4 (A0g hd) .no,.list 4 (A0g ws) .no,kv],z8]:=⟨_,rfl⟩;have a4:M1[b]?=some (A0p.cells 27 [I id.act,I id.item,I id.n,I kind,S lab,.list 4 (A0g hd) .no,.list 4 (A0g ws) .no,kv]):=by rw[s,hb];simp
  have az:M1[b+1]?=some z8:=by rw[s,hb];simp[Z1B]
  have a6:Grow M M1:=by rw[s];exact A0c.app none _ _
  have b9:M1.length=b+2:=by rw[s,hb];simp
  have bh:=t.store;have bd:=t.cells;simp -dsimp -implicitDefEqProofs[A0o];rw[<-s,<-hb];clear s;obtain⟨hv,M2,ar,o,g,bb⟩:=B9s gl hd M1 (by omega);obtain⟨wv,M3,aq,r,l,ba⟩:=B9s gl ws M2 (by omega);have w:=o.get a4 (by simp);have a5:=r.get w (by simp);have a7:M2[b]?=M1[b]?:=by rw[a4,w]
  have a9:M3[b]?=M2[b]?:=by rw[w,a5]
  have ad:b<M3.length:=(Z0c.1 a5).1;have a8:A0l (some 1) M3 (.ptr b 5) hv=some (M3.set b (.cells 27 [I id.act,I id.item,I id.n,I kind,S lab,hv,.list 4 (A0g ws) .no,kv])):=by rw[A0f a5,g.cells,Z0d ⟨g.store,by simp,rfl⟩];rfl
  have ac:(M3.set b (.cells 27 [I id.act,I id.item,I id.n,I kind,S lab,hv,.list 4 (A0g ws) .no,kv]))[b]?=some (.cells 27 [I id.act,I id.item,I id.n,I kind,S lab,hv,.list 4 (A0g ws) .no,kv]):=by simp[ad]
  have ab:A0l (some 1) (M3.set b (.cells 27 [I id.act,I id.item,I id.n,I kind,S lab,hv,.list 4 (A0g ws) .no,kv])) (.ptr b 6) wv=some (M3.set b (.cells 27 [I id.act,I id.item,I id.n,I kind,S lab,hv,wv,kv])):=by rw[A0f ac,l.cells,Z0d ⟨l.store,by simp,rfl⟩,Z3D];rfl
  refine B8R hCp (A0w gl) (λk=>if k=1\/k=4 then 1 else if k=2\/k=5\/k=7\/k=9 then 2 else 0) (λ_=>b) (λ_ k=>k==7||k==9) (λk=>if k=7\/k=9 then[]else[b]) (by intro i k _ h;simp at h;simp[h]) (by rfl) (by kernel_rfl) ?_;simp -dsimp -implicitDefEqProofs[A0a a4,A0y,A4e];refine A6x (A2B func141 rfl rfl ar) ?_;refine⟨by simpa using a7,?_⟩;simp -dsimp -implicitDefEqProofs[A0a w,A0y,A4e];refine A6x (A2B func141 rfl rfl aq) ?_;refine⟨by simpa using a9,?_⟩;simp -dsimp -implicitDefEqProofs[a8,ab];obtain⟨M4,z⟩:∃M4,M4=M3.set b (.cells 27 [I id.act,I id.item,I id.n,I kind,S lab,hv,wv,kv]):=⟨_,rfl⟩;have q:∀f,f≠b->M4[f]?=M3[f]?:=λf hf=>by rw[z,Z0g (λe=>hf e.symm)]
  have b1:M4[b]?=some (.cells 27 [I id.act,I id.item,I id.n,I kind,S lab,hv,wv,kv]):=by rw[z];simp[ad]
  have b6:M4[b+1]?=some z8:=by rw[q _ (by omega)];exact r.get (o.get az (by simp)) (by simp)
  have bj:M4.length=M3.length:=by rw[z];simp
  have e1:=((g.keep r).stay (M':=M4) (λf hf=>q f (by have:=g.lat f hf;omega))).weak (m:=M.length) (by have:=a6.1;omega);have e2:=(l.stay (M':=M4) (λf hf=>q f (by have:=l.lat f hf;have:=o.1;omega))).weak (m:=M.length) (by have:=a6.1;have:=o.1;omega);have ap:A8v hv wv:=λf h1 h2=>by have:=g.lt h1;have:=l.lat f h2;omega
  have a3:Grow M M4:=⟨by have:=a6.1;have:=o.1;have:=r.1;omega,λj hj _=>by rw[q j (by omega)];exact((a6.trans o).trans r).2 j hj (by simp)⟩;have ae:=g.lat;have aa:=l.lat;have bl:=g.store;have b8:=o.1;have bc:b+2<=M4.length:=by have:=r.1;omega
  rw[<-z];clear z a8 ab ac a5 w a7 a9 a4 az ar aq g l;have al:=t.len;simp -dsimp -implicitDefEqProofs[A0a b1,al];refine A0s hCp ks.length 17 (λT M5=>∃i:Nat,i<=ks.length/\T 1=.ptr b 0/\T 2=.ptr (b+1) 0/\T 15=kv/\T 16=I ks.length/\T 17=I i/\Grow M4 M5/\Arr 27 8 A0b.row M4.length M5 (T 3) (ks.take i)) ?_ ?_
  .refine⟨0,by omega,by simp,by simp,by simp,by simp,by simp,A0c.refl _ _,?_⟩;simp -dsimp -implicitDefEqProofs;exact .nil
  rintro T M5 ⟨i,i1,t1,t2,a0,a1,a2,d,hf⟩;generalize am:T 3=ov at*;by_cases hi:i<ks.length;case neg=>
   (have ai:¬(i:Int)<ks.length:=by omega);rw[Z0l (by omega)]at hf
   have au:=d.get b1 (by simp);have aw:=d.get b6 (by simp);have ax:b<M5.length:=(Z0c.1 au).1;have ao:b+1<M5.length:=(Z0c.1 aw).1;(have an:A0l (some 1) M5 (.ptr b 7) ov=some (M5.set b (.cells 27 [I id.act,I id.item,I id.n,I kind,S lab,hv,wv,ov])):=by rw[A0f au,hf.own.cells,Z0d ⟨hf.own.store,by simp,rfl⟩];rfl);(have b3:(M5.set b (.cells 27 [I id.act,I id.item,I id.n,I kind,S lab,hv,wv,ov]))[b]?=some (.cells 27 [I id.act,I id.item,I id.n,I kind,S lab,hv,wv,ov]):=by simp[ax]);(have b4:(M5.set b (.cells 27 [I id.act,I id.item,I id.n,I kind,S lab,hv,wv,ov]))[b+1]?=some z8:=by rw[Z0g (by omega)];exact aw);simp -dsimp -implicitDefEqProofs[t1,t2,a0,a1,a2,ai,am,an,A0a b3,A0f b4,A0C,ao];refine⟨hv,wv,ov,⟨rfl,rfl,rfl⟩,?_⟩;(have hs:∀X Y f,f≠b->f≠b+1->((M5.set b X).set (b+1) Y)[f]?=M5[f]?:=λX Y f h1 h2=>by rw[Z0g (by omega),Z0g (by omega)]);refine⟨⟨by have:=a3.1;have:=d.1;simp;omega,λj hj _=>by rw[hs _ _ j (by omega) (by omega)];exact(a3.trans d).2 j hj (by simp)⟩,?_,?_,?_,ap,?_,?_⟩
   .exact(e1.keep d).stay λf h=>hs _ _ f (by have:=ae f h;omega) (by have:=ae f h;omega)
   .exact(e2.keep d).stay λf h=>hs _ _ f (by have:=aa f h;omega) (by have:=aa f h;omega)
   .have av:=hf.stay (M':=(M5.set b (.cells 27 [I id.act,I id.item,I id.n,I kind,S lab,hv,wv,ov])).set (b+1) (.cells 27 [I id.act,I id.item,I id.n,I kind,S lab,hv,wv,ov])) (λf h=>hs _ _ f (by have:=hf.lat f h;omega) (by have:=hf.lat f h;omega));exact⟨av.own,λf h=>by have:=av.lat f h;have:=a3.1;omega⟩
   .intro f h1 h2;have:=e1.lt h1;have:=hf.lat f h2;omega
   .intro f h1 h2;have:=e2.lt h1;have:=hf.lat f h2;omega
  have ai:(i:Int)<ks.length:=by omega
  have w1:=A1i (i:=i) (by omega);have p:ks[i]∈ks:=Z0v hi;have bn:=A3Q p;rcases t with rfl|⟨rfl,_⟩;case inr=>simp at hi
  obtain⟨M6,af⟩:∃M6,M6=M5++[A0p.cells 27 ks[i].row]:=⟨_,rfl⟩;have ag:Grow M5 M6:=by rw[af];exact A0c.app none _ _
  have b5:M6[M5.length]?=some (A0p.cells 27 ks[i].row):=by rw[af];simp
  have:=A0b.kid_lt (u:=.mk id kind lab hd ws ks) p;have y:=A0e.dataX ((C0u ks[i] (.list 8 (A0O ks[i].kids) .no) M6 (.inl rfl) (ah _ p) (ak _ p) (by omega)).mono λv M' ⟨hv,wv,kw,e,h⟩=>by subst e;exact h.still);rw[show C4a ks[i] (.list 8 (A0O ks[i].kids) .no)=ks[i].row from(ks[i].row_eq).symm]at y;have aj:=hf.keep ag;simp -dsimp -implicitDefEqProofs[t1,t2,a0,a1,a2,hi,ai,A0o,A0l,A0d,AV.storable,AV.cells];rw[<-af];simp -dsimp -implicitDefEqProofs[t1,t2,a0,a1,a2,A0a b5];refine A0i func89 y ?_;simp -dsimp -implicitDefEqProofs[t1,t2,a0,a1,a2,am,A0h,A0J,AV.storable,AV.cells];refine A3E (C:=WC gl) (enc:=A0b.row) (e:=27) (sz:=8) (news:=[ks[i]]) C7I D2q D2Y A0b.row_len aj.own (by simp[A0B]) (by simp;omega) rfl ?_;intro v' M7 q1 q2 q3 _;simp -dsimp -implicitDefEqProofs[t1,t2,a0,a1,a2,w1];refine⟨⟨i+1,by clear w1;omega,rfl,aj.grow (d.trans ag) q2,?_⟩,by clear w1;omega⟩;rw[Z0A hi];exact⟨q1,aj.later (d.trans ag).1 q3⟩
termination_by u=>SizeOf.sizeOf u
end
def hSt:A2I:=⟨λd=>d !=1,λ_=>false,λ_=>false⟩
@[simp] def E1x:hSt.imm=λd=>d !=1:=rfl
@[simp] def E1q:hSt.vec=λ_=>false:=rfl
def C7V:A0S prog 256=some 24:=by kernel_rfl
attribute [simp] underlying256 C7V
def D1j{n m}{M}{hv wv}{a b}(h:A3Y 152 4 A0G.row n M hv a)(w:A3Y 152 4 A0G.row m M wv b):A0h prog 256 2 [(0,hv),(1,wv)]=some (.list 1 [[hv],[wv]] .full):=by rcases h with⟨rfl,_⟩|⟨⟨rfl,_⟩|⟨f,g,hist,rfl,_,_⟩,_⟩<;>rcases w with⟨rfl,_⟩|⟨⟨rfl,_⟩|⟨f2,g2,c,rfl,_,_⟩,_⟩<;>simp[A0h,C7V,A0J]
def D0C:A0Q prog 150 []=some (.agg [I 0,I 0,I 0]):=by simp[A0Q,A1G]
def C9c{n}{M}{v}{l}(h:Arr 152 4 A0G.row n M v l){i}(hi:i<l.length)(hb:B4T l[i]):∃f g M',v=.vref f g 4 0 l.length/\A0l (some 3) M (.vptr f g (i*4+1)) (.agg [I 0,I 0,I 0])=some M'/\Arr 152 4 A0G.row n M' v l/\M'.length=M.length/\∀j,j≠f->M'[j]?=M[j]?:=by
 obtain⟨h1,h2⟩:=h
 rcases h1 with⟨rfl,rfl⟩|⟨f,g,a,rfl,hm,hl⟩
 .simp at hi
 have b:f<M.length:=(Z0c.1 hm).1
 have c:A0d (l.flatMap A0G.row) (i*4+1) [I 0,I 0,I 0]=l.flatMap A0G.row:=by refine C8n ?_;rw[<-Z1X,A8d (enc:=A0G.row) (sz:=4) (λ_=>rfl),Z0h hi,Z1v,D0i hb];rfl
 refine⟨f,g,M.set f (.vec 152 4 (l.flatMap A0G.row) g (A2q 4 g (i*4+1) a)),rfl,?_,⟨.inr ⟨f,g,A2q 4 g (i*4+1) a,rfl,by simp[b],?_⟩,h2⟩,by simp,λj hj=>Z0g (by omega)⟩
 .simp only[A0l,hm,hl];rw[Z0d (by simp;omega)];simp only[AV.cells];rw[c]
 .unfold A2q;exact A5R _ hl
def D0y{n}{M}{v}{l}(h:Arr 27 8 A0b.row n M v l){i}(hi:i<l.length):∃f g M',v=.vref f g 8 0 l.length/\A2u prog 27 M (.vptr f g (i*8))=some (.agg l[i].row)/\A0l (some 8) M (.vptr f g (i*8)) (.agg l[i].row)=some M'/\Arr 27 8 A0b.row n M' v l/\M'.length=M.length/\∀j,j≠f->M'[j]?=M[j]?:=by
 obtain⟨h1,h2⟩:=h
 have d:=h1.at_ (P:=prog) (t:=27) A0b.row_len D9e E2l hi
 rcases h1 with⟨rfl,rfl⟩|⟨f,g,a,rfl,hm,hl⟩
 .simp at hi
 have b:f<M.length:=(Z0c.1 hm).1
 have c:A0d (l.flatMap A0b.row) (i*8) l[i].row=l.flatMap A0b.row:=by refine C8n ?_;rw[A8d A0b.row_len,Z0h hi,Z1v,A0b.row_len,Z2T (by simp)];simp
 refine⟨f,g,M.set f (.vec 27 8 (l.flatMap A0b.row) g (A2q 8 g (i*8) a)),rfl,?_,?_,⟨.inr ⟨f,g,A2q 8 g (i*8) a,rfl,by simp[b],?_⟩,h2⟩,by simp,λj hj=>Z0g (by omega)⟩
 .obtain⟨p,e1,_,e2,_⟩:=d;simp[hi]at e1;rw[<-e1]at e2;exact e2
 .simp only[A0l,hm,hl];rw[Z0d (by simp[AV.storable,AV.cells];omega)];simp only[AV.cells];rw[c]
 .unfold A2q;exact A5R _ hl
section
variable (gl:Nat->AV)
set_option maxHeartbeats 1000000 in
def B7M:∀(u:A0b) (kv:AV) (M:Mem),B9N u.kids kv->u.good->u.lims->A0x u<=1000->A5p u->
 A0e (WC gl) 180 [.agg (C4a u kv)] M (λv M'=>v=.agg u.row/\M'=M)
 |.mk id kind lab hd ws ks,kv,M,ag,hg,hlm,hc,hbt=>by
  obtain⟨_,_,bx,_,bs,_,bt,bu,an⟩:=(A0b.good_iff _).1 hg;have an:∀k∈ks,k.good:=an;obtain⟨⟨bh,bd,c0,-⟩,az⟩:=A7B _ hlm;have bh:hd.length<=100000000:=bh;have bd:ws.length<=100000000:=bd;have az:=A7d.1 az;have bz:1+A0V ks<=1000:=by rwa[A0x]at hc
  have bp:=A2t ks;have ag:B9N ks kv:=ag;obtain⟨av,b4,b0,ao⟩:=(A9J _).1 hbt;have av:id=idZ:=av;have b4:∀x∈hd,B4T x:=b4;have b0:∀x∈ws,B4T x:=b0;have ao:∀k∈ks,A5p k:=ao;subst av;refine A0e.dataX ?_;have b6:C4a (.mk idZ kind lab hd ws ks) kv=[I 0,I 0,I 0,I kind,S lab,.list 4 (A0g hd) .no,.list 4 (A0g ws) .no,kv]:=rfl;have bm:∀a b c,D4j (.mk idZ kind lab hd ws ks) a b c=[I 0,I 0,I 0,I kind,S lab,a,b,c]:=λ_ _ _=>rfl;rw[b6];refine A0k hSt func180 ?_;obtain⟨b,hb⟩:∃b,b=M.length:=⟨_,rfl⟩;obtain⟨M1,a7⟩:∃M1,M1=M++[A0p.cells 27 [I 0,I 0,I 0,I kind,S lab,.list 4 (A0g hd) .no,.list 4 (A0g ws) .no,kv],z8]:=⟨_,rfl⟩;have ab:M1[b]?=some (A0p.cells 27 [I 0,I 0,I 0,I kind,S lab,.list 4 (A0g hd) .no,.list 4 (A0g ws) .no,kv]):=by rw[a7,hb];simp
  have be:M1[b+1]?=some z8:=by rw[a7,hb];simp[Z1B]
  have b7:Grow M M1:=by rw[a7];exact A0c.app none _ _
  have bn:M1.length=b+2:=by rw[a7,hb];simp
  have bv:=ag.store;have br:=ag.cells;have aj:=C0u gl (.mk idZ kind lab hd ws ks) kv M1 ag hg hlm hc;rw[b6]at aj;simp only[bm]at aj;simp -dsimp -implicitDefEqProofs[A0o];rw[<-a7,<-hb];clear a7;simp -dsimp -implicitDefEqProofs[A0a ab];refine A0j func89 aj ?_;rintro _ M2 ⟨hv,wv,kw,rfl,ad,e1,e2,e3,b8,bc,b9⟩;have e1:A3Y 152 4 A0G.row M1.length M2 hv hd:=e1;have e2:A3Y 152 4 A0G.row M1.length M2 wv ws:=e2;have e3:Arr 27 8 A0b.row M1.length M2 kw ks:=e3;have a8:=ad.get ab (by simp);have b5:=ad.get be (by simp);have bf:b<M2.length:=(Z0c.1 a8).1;obtain⟨M3,ae⟩:∃M3,M3=M2.set b (.cells 27 [I 0,I 0,I 0,I kind,S lab,hv,wv,kw]):=⟨_,rfl⟩;have a6:∀f,f≠b->M3[f]?=M2[f]?:=λf hf=>by rw[ae,Z0g (λe=>hf e.symm)]
  have z:M3[b]?=some (.cells 27 [I 0,I 0,I 0,I kind,S lab,hv,wv,kw]):=by rw[ae];simp[bf]
  have ax:M3[b+1]?=some z8:=by rw[a6 _ (by omega)];exact b5
  have bo:M3.length=M2.length:=by rw[ae];simp
  have f1:=e1.stay (M':=M3) (λf h=>a6 f (by have:=e1.lat f h;omega));have f2:=e2.stay (M':=M3) (λf h=>a6 f (by have:=e2.lat f h;omega));have f3:=e3.stay (M':=M3) (λf h=>a6 f (by have:=e3.lat f h;omega));have ac:M3.set b (.cells 27 [I 0,I 0,I 0,I kind,S lab,hv,wv,kw])=M3:=List.set_eq_of_getElem? z;simp -dsimp -implicitDefEqProofs[A0f a8];rw[<-ae];have b1:=D1j f1 f2;simp -dsimp -implicitDefEqProofs[C8l,A0f z,ac,A0a z,b1];have bb:∀M5,(∀j,j<b->M5[j]?=M3[j]?)->M3.length<=M5.length->Grow M M5:=λM5 h1 h2=>⟨by have:=b7.1;have:=ad.1;omega,λj hj _=>by rw[h1 j (by omega),a6 j (by omega)];exact(b7.trans ad).2 j hj (by simp)⟩;have bw:b+2<=M3.length:=by have:=ad.1;omega
  clear b1 ac ae a6 a8 b5 aj ab be;refine A7i (.exit 0) (λT M5=>T 1=.ptr b 0/\T 2=.ptr (b+1) 0/\M5[b]?=some (.cells 27 [I 0,I 0,I 0,I kind,S lab,hv,wv,kw])/\M5[b+1]?=some z8/\M5.length=M3.length/\(∀j,j<b->M5[j]?=M3[j]?)/\A3Y 152 4 A0G.row M1.length M5 hv hd/\A3Y 152 4 A0G.row M1.length M5 wv ws/\Arr 27 8 A0b.row M1.length M5 kw ks) ?_ ?_
  .refine A0s hSt 2 17 (λT M5=>∃k:Nat,k<=2/\T 1=.ptr b 0/\T 2=.ptr (b+1) 0/\T 15=.list 1 [[hv],[wv]] .full/\T 16=I 2/\T 17=I k/\M5[b]?=some (.cells 27 [I 0,I 0,I 0,I kind,S lab,hv,wv,kw])/\M5[b+1]?=some z8/\M5.length=M3.length/\(∀j,j<b->M5[j]?=M3[j]?)/\A3Y 152 4 A0G.row M1.length M5 hv hd/\A3Y 152 4 A0G.row M1.length M5 wv ws/\Arr 27 8 A0b.row M1.length M5 kw ks) ?_ ?_
   .exact⟨0,by omega,by simp,by simp,by simp,by simp,by simp,z,ax,rfl,λ_ _=>rfl,f1,f2,f3⟩
   clear z ax f1 f2 f3;rintro T M5 ⟨k,k1,t1,t2,w,y,s,d,l,p,o,f1,f2,f3⟩;by_cases hk:k<2;case neg=>
    (have au:¬(k:Int)<2:=by omega);simp -dsimp -implicitDefEqProofs[t1,t2,w,y,s,au]
    exact⟨d,l,p,o,f1,f2,f3⟩
   (have au:(k:Int)<2:=by omega);have w1:=A1i (i:=k) (by omega)
   obtain⟨xv,ai⟩:∃xv,xv=if k=0 then hv else wv:=⟨_,rfl⟩;obtain⟨xs,aa⟩:∃xs,xs=if k=0 then hd else ws:=⟨_,rfl⟩;(have bj:∀x∈xs,B4T x:=by rw[aa];split<;>assumption);(have bq:xs.length<=100000000:=by rw[aa];split<;>assumption);(have af:∀M6:Mem,A3Y 152 4 A0G.row M1.length M6 hv hd->A3Y 152 4 A0G.row M1.length M6 wv ws->A3Y 152 4 A0G.row M1.length M6 xv xs:=λM6 h1 h2=>by rw[ai,aa];by_cases c:k=0<;>simp only[c,Z0G,Z0Y]<;>assumption);have ay:∀(M6 M7:Mem) (f:Nat),obj xv=some f->A3Y 152 4 A0G.row M1.length M7 xv xs->(∀j,j≠f->M7[j]?=M6[j]?)->A3Y 152 4 A0G.row M1.length M6 hv hd->A3Y 152 4 A0G.row M1.length M6 wv ws->Arr 27 8 A0b.row M1.length M6 kw ks->A3Y 152 4 A0G.row M1.length M7 hv hd/\A3Y 152 4 A0G.row M1.length M7 wv ws/\Arr 27 8 A0b.row M1.length M7 kw ks:=λM6 M7 f hf hx hj g1 g2 g3=>by
    by_cases c:k=0
    .rw[ai,Z0d c]at hf hx;rw[aa,Z0d c]at hx;exact⟨hx,g2.stay λq hq=>hj q λe=>b8 f hf (e▸hq),g3.stay λq hq=>hj q λe=>bc f hf (e▸hq)⟩
    .rw[ai,Z0e c]at hf hx;rw[aa,Z0e c]at hx;exact⟨g1.stay λq hq=>hj q λe=>b8 f (e▸hq) hf,hx,g3.stay λq hq=>hj q λe=>b9 f hf (e▸hq)⟩
   have a4:([[hv],[wv]]:List (List AV))[k]?=some [xv]:=by rw[ai];(have:k=0\/k=1:=by omega);rcases this with rfl|rfl<;>rfl
   (have a3:([[hv],[wv]]:List (List AV)).getD k []=[xv]:=by rw[Z1d,a4];rfl);have aw:=(af M5 f1 f2).len (P:=prog) (t:=24) (e':=152) (by simp)
   simp -dsimp -implicitDefEqProofs[t1,t2,w,y,s,au,a4,a3,aw];refine A7i (.exit 2) (λT M6=>T 1=.ptr b 0/\T 2=.ptr (b+1) 0/\T 15=.list 1 [[hv],[wv]] .full/\T 16=I 2/\T 17=I k/\M6[b]?=some (.cells 27 [I 0,I 0,I 0,I kind,S lab,hv,wv,kw])/\M6[b+1]?=some z8/\M6.length=M3.length/\(∀j,j<b->M6[j]?=M3[j]?)/\A3Y 152 4 A0G.row M1.length M6 hv hd/\A3Y 152 4 A0G.row M1.length M6 wv ws/\Arr 27 8 A0b.row M1.length M6 kw ks) ?_ ?_
   .refine A0s hSt xs.length 23 (λT M6=>∃i:Nat,i<=xs.length/\T 1=.ptr b 0/\T 2=.ptr (b+1) 0/\T 15=.list 1 [[hv],[wv]] .full/\T 16=I 2/\T 17=I k/\T 4=xv/\T 22=I xs.length/\T 23=I i/\M6[b]?=some (.cells 27 [I 0,I 0,I 0,I kind,S lab,hv,wv,kw])/\M6[b+1]?=some z8/\M6.length=M3.length/\(∀j,j<b->M6[j]?=M3[j]?)/\A3Y 152 4 A0G.row M1.length M6 hv hd/\A3Y 152 4 A0G.row M1.length M6 wv ws/\Arr 27 8 A0b.row M1.length M6 kw ks) ?_ ?_
    .exact⟨0,by omega,by simp[t1],by simp[t2],by simp[w],by simp[y],by simp[s],by simp,by simp,by simp,d,l,p,o,f1,f2,f3⟩
    clear d l p o f1 f2 f3 t1 t2 w y s aw a4 a3;rintro T M5 ⟨i,i1,t1,t2,w,y,s,t4,ba,b2,d,l,p,o,f1,f2,f3⟩;by_cases hi:i<xs.length;case neg=>
     (have a0:¬(i:Int)<xs.length:=by omega);simp -dsimp -implicitDefEqProofs[t1,t2,w,y,s,t4,ba,b2,a0]
     exact⟨d,l,p,o,f1,f2,f3⟩
    (have a0:(i:Int)<xs.length:=by omega);have w2:IntKind.i64.wrap ((i:Int)+1)=((i+1:Nat):Int):=by rw[A0H (by omega) (by omega)];omega
    have hx:Arr 152 4 A0G.row M1.length M5 xv xs:=by
     rcases af M5 f1 f2 with⟨_,h⟩|h
     .rw[h]at hi;simp at hi
     .exact h
    obtain⟨f,g,M6,a2,am,ar,bi,r⟩:=C9c hx hi (bj _ (Z0v hi));(have a5:obj xv=some f:=by rw[a2];rfl);have bk:=hx.lat f a5;obtain⟨g1,g2,g3⟩:=ay M5 M6 f a5 (.inr ar) r f1 f2 f3;(have ap:M6[b]?=some (.cells 27 [I 0,I 0,I 0,I kind,S lab,hv,wv,kw]):=by rw[r b (by omega)];exact d);(have aq:M6[b+1]?=some z8:=by rw[r (b+1) (by omega)];exact l);rw[a2]at t4;simp -dsimp -implicitDefEqProofs[t1,t2,w,y,s,t4,ba,b2,a0,hi,D0C,am,w2];refine⟨⟨i+1,by clear w2;omega,a2.symm,rfl,ap,aq,by omega,λj hj=>by rw[r j (by omega)];exact o j hj,g1,g2,g3⟩,by clear w2;omega⟩
   have bg:=s;clear d l p o f1 f2 f3 t1 t2 w y s aw a4 a3;rintro T M5 ⟨t1,t2,w,y,s,d,l,p,o,f1,f2,f3⟩;simp -dsimp -implicitDefEqProofs[t1,t2,w,y,s,bg,w1];refine⟨⟨k+1,by clear w1;omega,rfl,d,l,p,o,f1,f2,f3⟩,by clear w1;omega⟩
  clear z ax f1 f2 f3;rintro T M5 ⟨t1,t2,d,l,p,o,f1,f2,f3⟩;have al:=f3.own.len (P:=prog) (t:=25) (e:=27) underlying25;simp -dsimp -implicitDefEqProofs[t1,t2,A0a d,al];refine A0s hSt ks.length 36 (λT M6=>∃i:Nat,i<=ks.length/\T 1=.ptr b 0/\T 2=.ptr (b+1) 0/\T 35=I ks.length/\T 36=I i/\M6[b]?=some (.cells 27 [I 0,I 0,I 0,I kind,S lab,hv,wv,kw])/\M6[b+1]?=some z8/\M3.length<=M6.length/\(∀j,j<b->M6[j]?=M3[j]?)/\A3Y 152 4 A0G.row M1.length M6 hv hd/\A3Y 152 4 A0G.row M1.length M6 wv ws/\Arr 27 8 A0b.row M1.length M6 kw ks) ?_ ?_
  .exact⟨0,by omega,by simp[t1],by simp[t2],by simp,rfl,d,l,by omega,o,f1,f2,f3⟩
  clear d l p o f1 f2 f3 t1 t2 al;rintro T M5 ⟨i,i1,t1,t2,ak,ah,d,l,p,o,f1,f2,f3⟩;by_cases hi:i<ks.length;case neg=>
   (have a0:¬(i:Int)<ks.length:=by omega);have b3:b+1<M5.length:=(Z0c.1 l).1
   (have hs:∀X f,f≠b+1->(M5.set (b+1) X)[f]?=M5[f]?:=λX f h1=>by rw[Z0g (by omega)]);simp -dsimp -implicitDefEqProofs[t1,t2,ak,ah,a0,A0a d,A0f l,A0C,b3]
   refine⟨bb _ (λj hj=>by rw[hs _ j (by omega)];exact o j hj) (by simpa using p),?_⟩;rw[A0b.row_eq,A6o];have l1:=f1.lat;have l2:=f2.lat;have l3:=f3.lat;have g1:=(f1.stay (M':=M5.set (b+1) (.cells 27 [I 0,I 0,I 0,I kind,S lab,hv,wv,kw])) (λf h=>hs _ f (by have:=l1 f h;omega))).weak (m:=b) (by omega);have g2:=(f2.stay (M':=M5.set (b+1) (.cells 27 [I 0,I 0,I 0,I kind,S lab,hv,wv,kw])) (λf h=>hs _ f (by have:=l2 f h;omega))).weak (m:=b) (by omega);have g3:=f3.stay (M':=M5.set (b+1) (.cells 27 [I 0,I 0,I 0,I kind,S lab,hv,wv,kw])) (λf h=>hs _ f (by have:=l3 f h;omega));exact .agg (.same trivial (.same trivial (.same trivial (.same trivial (.same trivial (g1.still (λ_=>rfl) A5M (g2.still (λ_=>rfl) A5M (A4u A0b.row_len A8s g3.own (λf h=>by have:=l3 f h;omega))))))))) .nil
  have a0:(i:Int)<ks.length:=by omega
  have w1:=A1i (i:=i) (by omega);have a1:ks[i]∈ks:=Z0v hi;have c1:=A3Q a1;have:=A0b.kid_lt (u:=.mk idZ kind lab hd ws ks) a1;have a9:=λM=>B7M ks[i] (.list 8 (A0O ks[i].kids) .no) M (.inl rfl) (an _ a1) (az _ a1) (by omega) (ao _ a1);rw[show C4a ks[i] (.list 8 (A0O ks[i].kids) .no)=ks[i].row from(ks[i].row_eq).symm]at a9;obtain⟨f,g,M6,a2,bl,am,ar,bi,r⟩:=D0y f3 hi;have a5:obj kw=some f:=by rw[a2];rfl
  have bk:=f3.lat f a5;simp -dsimp -implicitDefEqProofs[t1,t2,ak,ah,a0];refine B8R hSt (A0w gl) (λk=>if k=1\/k=4\/k=7 then 1 else if k=10 then 2 else 0) (λk=>if k=7 then f else b) (λi k=>i==7&&k==10) (λk=>if k=10 then[b]else[b,f]) (by intro i k _ h;by_cases h7:i=7<;>by_cases h10:k=10<;>simp[h7,h10]at h|-) (by rfl) (by kernel_rfl) ?_;rw[a2]at d;simp -dsimp -implicitDefEqProofs[t1,t2,ak,ah,A0a d,A0y,A4e,bl];refine⟨hi,A1j func180 a9 ?_⟩;simp -dsimp -implicitDefEqProofs[t1,t2,ak,ah,a0,hi,am,w1];have ap:M6[b]?=some (.cells 27 [I 0,I 0,I 0,I kind,S lab,hv,wv,kw]):=by rw[r b (by omega),a2];exact d
  have aq:M6[b+1]?=some z8:=by rw[r (b+1) (by omega)];exact l
  exact⟨r b (by omega),⟨i+1,by clear w1;omega,by simp,ap,aq,by omega,λj hj=>by rw[r j (by omega)];exact o j hj,f1.stay λq hq=>r q λe=>bc q hq (e▸a5),f2.stay λq hq=>r q λe=>b9 q hq (e▸a5),ar⟩,by clear w1;omega⟩
termination_by u=>SizeOf.sizeOf u
end
mutual
def A8F(x:IdD):A0b->Option (List A0u)
 |.mk id _ _ _ _ ks=>if id=x then some []else B3v x ks
def B3v(x:IdD):List A0b->Option (List A0u)
 |[]=>none
 |k::ks=>match A8F x k with
  |some p=>some (⟨k.kind,k.label⟩::p)
  |none=>B3v x ks
end
mutual
def A9O(x:IdD):∀u:A0b,((A8F x u).getD []).length<=A0x u
 |.mk id _ _ _ _ ks=>by
  have:=B8M x ks;rw[A8F,A0x];split
  .simp
  .omega
def B8M(x:IdD):∀ks:List A0b,((B3v x ks).getD []).length<=A0V ks
 |[]=>by rw[B3v];simp
 |k::ks=>by
  have h1:=A9O x k;have h2:=B8M x ks;have h3:=A3R k;rw[B3v,A0V];cases hk:A8F x k with
  |none=>simp only;omega
  |some p=>rw[hk]at h1;simp only[Z1p,Z0B]at h1|-;have h4:=C8R x k p hk;omega
def C8R(x:IdD):∀(u:A0b) (p:List A0u),A8F x u=some p->p.length+1<=A0x u
 |.mk id _ _ _ _ ks,p,h=>by
  rw[A8F]at h;rw[A0x];split at h
  .cases h;simp
  .have:=B8M x ks;rw[h,Z1p]at this;omega
end
abbrev D3h(o:Option (List A0u)):AV:=.tuple [A5G (o.getD []),B o.isSome]
def B0p(p:List A0u):(p.map A0u.row).flatten=p.flatMap A0u.row:=by simp[List.flatMap]
def B2d{M}{n}{v}{p}(h:A1z 159 2 A0u.row M v p)(hn:A1n n v):Still M n (bdd n) [.tuple [v,B true]] [D3h (some p)]:=.tuple (Still.append (a:=[v]) (b:=[A5G p]) (c:=[B true]) (d:=[B true]) (A4u (enc:=A0u.row) (λ_=>rfl) B1N h hn) (.same trivial .nil)) .nil
section
variable (gl:Nat->AV)
def B4g{s:A0u}{M:Mem}:A1v prog 40 1 [(0,.agg [I s.k,S s.lab])] M=some (.vref M.length 0 2 0 1,M++[.vec 159 2 [I s.k,S s.lab] 0 [(0,1)]]):=by simp[A1v,A0J,AV.storable,AV.cells]
def D2A:∀(u:A0b) (x:IdD) (M:Mem),u.good->A0x u<=1000->A0e (WC gl) 124 [.agg u.row,.agg x.row] M (λv M'=>v=D3h (A8F x u)/\M'=M)
 |.mk id kind lab hd ws ks,x,M,hg,hc=>by
  obtain⟨_,_,a5,_,a1,_,a2,a4,m⟩:=(A0b.good_iff _).1 hg;have m:∀k∈ks,k.good:=m;have a3:1+A0V ks<=1000:=by rwa[A0x]at hc
  have a0:=A2t ks;have t:(A0b.mk id kind lab hd ws ks).row=[I id.act,I id.item,I id.n,I kind,S lab,.list 4 (A0g hd) .no,.list 4 (A0g ws) .no,.list 8 (A0O ks) .no]:=by rw[A0b.row]
  have hx:x.row=[I x.act,I x.item,I x.n]:=rfl;have he:=B2E id x;refine A0e.dataX ?_;rw[t,hx];refine A0k (hQ [33,35]) func124 ?_;by_cases h0:id=x
  .rw[Z0p h0]at he;(have hr:A8F x (.mk id kind lab hd ws ks)=some []:=by rw[A8F,Z0d h0]);rw[hr];simp -dsimp -implicitDefEqProofs[he];exact⟨Grow.refl _,.tuple (.nilS (.same trivial .nil)) .nil⟩
  rw[Z0k h0]at he;have hr:A8F x (.mk id kind lab hd ws ks)=B3v x ks:=by rw[A8F,Z0e h0]
  rw[hr];generalize hR:B3v x ks=R;simp -dsimp -implicitDefEqProofs[he];refine A0s (hQ [33,35]) ks.length 17 (λT M1=>∃i:Nat,Grow M M1/\i<=ks.length/\T 3=.cptr [I x.act,I x.item,I x.n]/\T 15=.list 8 (A0O ks) .no/\T 16=I ks.length/\T 17=I i/\R=B3v x (ks.drop i)) ?_ ?_
  .exact⟨0,Grow.refl _,by omega,by simp,by simp,by simp,by simp,by simp[hR]⟩
  rintro T M1 ⟨i,h,i1,t3,c,d,g,ho⟩;by_cases hi:i<ks.length;case neg=>
   (have q:¬(i:Int)<ks.length:=by omega);rw[show ks.drop i=[]from Z0n (by omega),B3v]at ho
   subst ho;simp -dsimp -implicitDefEqProofs[t3,c,d,g,q];exact⟨h,.tuple (.nilS (.same trivial .nil)) .nil⟩
  have q:(i:Int)<ks.length:=by omega
  have w1:=A1i (i:=i) (by omega);have b:ks[i]∈ks:=Z0v hi;have a6:=A3Q b;rw[Z0h hi,B3v]at ho;obtain⟨M2,l⟩:∃M2,M2=M1++[A0p.cells 27 ks[i].row]:=⟨_,rfl⟩;have r:Grow M1 M2:=by rw[l];exact A0c.app none _ _
  have o:M2[M1.length]?=some (A0p.cells 27 ks[i].row):=by rw[l];simp
  have:=A0b.kid_lt (u:=.mk id kind lab hd ws ks) b;have a:=D2A ks[i] x M2 (m _ b) (by omega);have j:=A9O x ks[i];rw[hx]at a;simp -dsimp -implicitDefEqProofs[t3,c,d,g,hi,q,A0o,A0l,A0d,AV.storable,AV.cells];rw[<-l];simp -dsimp -implicitDefEqProofs[t3,c,d,g,A0a o];refine A0i func124 a ?_;rw[A0b.row_eq]at o;cases hw:A8F x ks[i]with
  |none=>rw[hw]at ho;simp -dsimp -implicitDefEqProofs[t3,c,d,g,w1];exact⟨⟨h.trans r,i+1,by clear w1;omega,rfl,ho⟩,by clear w1;omega⟩
  |some p=>rw[hw]at ho j;simp only[Z1p]at j;subst ho;obtain⟨s,hs⟩:∃s:A0u,s=⟨ks[i].kind,ks[i].label⟩:=⟨_,rfl⟩;(have y:ks[i].kind=s.k:=by rw[hs]);(have z:ks[i].label=s.lab:=by rw[hs]);simp -dsimp -implicitDefEqProofs[t3,c,d,g,A0a o,y,z,B4g];have w:A1z 159 2 A0u.row (M2++[.vec 159 2 [I s.k,S s.lab] 0 [(0,1)]]) (.vref M2.length 0 2 0 1) [s]:=.inr ⟨M2.length,0,[(0,1)],rfl,by simp[A0u.row],by simp[List.lookup]⟩;refine A3E (C:=WC gl) (enc:=A0u.row) (e:=159) (sz:=2) (news:=p) A7K B0S A7J (λ_=>rfl) w (by simp[A0B,B0p]) (by simp;omega) rfl ?_;intro v' M3 q1 q2 q3 _;obtain⟨r1,r2⟩:=A4T (X:=[]) ((h.trans r).trans (A0c.app none _ [.vec 159 2 [I s.k,S s.lab] 0 [(0,1)]])) (v:=.vref M2.length 0 2 0 1) (λf hf=>by simp at hf;have:=(h.trans r).1;omega) (by simpa using q2) (by simpa using q3);rw[<-hs];simp -dsimp -implicitDefEqProofs;exact⟨r1,B2d q1 r2⟩
termination_by u=>SizeOf.sizeOf u
def C3B:∀(u:A0b) (x:IdD) (M:Mem),u.good->A0x u<=1000->A0e (WC gl) 94 [.agg u.row,.agg x.row] M (λv M'=>v=D3h (A8F x u)/\M'=M)
 |.mk id kind lab hd ws ks,x,M,hg,hc=>by
  obtain⟨_,_,z,_,r,_,t,y,h⟩:=(A0b.good_iff _).1 hg;have h:∀k∈ks,k.good:=h;have w:1+A0V ks<=1000:=by rwa[A0x]at hc
  have q:=A2t ks;have j:(A0b.mk id kind lab hd ws ks).row=[I id.act,I id.item,I id.n,I kind,S lab,.list 4 (A0g hd) .no,.list 4 (A0g ws) .no,.list 8 (A0O ks) .no]:=by rw[A0b.row]
  have hx:x.row=[I x.act,I x.item,I x.n]:=rfl;have he:=B2E id x;refine A0e.dataX ?_;rw[j,hx];refine A0k (hQ [45,47]) func94 ?_;by_cases h0:id=x
  .rw[Z0p h0]at he;(have hr:A8F x (.mk id kind lab hd ws ks)=some []:=by rw[A8F,Z0d h0]);rw[hr];simp -dsimp -implicitDefEqProofs[he];exact⟨Grow.refl _,.tuple (.dis (A8w _ []) (.same trivial .nil)) .nil⟩
  rw[Z0k h0]at he;have hr:A8F x (.mk id kind lab hd ws ks)=B3v x ks:=by rw[A8F,Z0e h0]
  rw[hr];generalize hR:B3v x ks=R;simp -dsimp -implicitDefEqProofs[he];refine A0s (hQ [45,47]) ks.length 6 (λT M1=>∃i:Nat,Grow M M1/\i<=ks.length/\T 2=.cptr [I id.act,I id.item,I id.n,I kind,S lab,.list 4 (A0g hd) .no,.list 4 (A0g ws) .no,.list 8 (A0O ks) .no]/\T 3=.cptr [I x.act,I x.item,I x.n]/\T 6=I i/\R=B3v x (ks.drop i)) ?_ ?_
  .exact⟨0,Grow.refl _,by omega,by simp,by simp,by simp,by simp[hR]⟩
  rintro T M1 ⟨i,d,i1,t2,t3,t6,ho⟩;by_cases hi:i<ks.length;case neg=>
   (have c:¬(i:Int)<ks.length:=by omega);rw[show ks.drop i=[]from Z0n (by omega),B3v]at ho
   subst ho;simp -dsimp -implicitDefEqProofs[t2,t3,t6,c];exact⟨d,.tuple (.nilS (.same trivial .nil)) .nil⟩
  have c:(i:Int)<ks.length:=by omega
  have w1:=A1i (i:=i) (by omega);have b:ks[i]∈ks:=Z0v hi;have a0:=A3Q b;rw[Z0h hi,B3v]at ho;have:=A0b.kid_lt (u:=.mk id kind lab hd ws ks) b;have a:=λM=>C3B ks[i] x M (h _ b) (by omega);have g:=A9O x ks[i];rw[hx]at a;simp -dsimp -implicitDefEqProofs[t2,t3,t6,hi,c];refine A1h (hQ [45,47]) (A0w gl) (λ_=>0) (λ_=>0) (by rfl) (by kernel_rfl) ?_;simp -dsimp -implicitDefEqProofs[t2,t3,t6,hi,c];refine A1j func94 a ?_;cases hw:A8F x ks[i]with
  |none=>rw[hw]at ho;simp -dsimp -implicitDefEqProofs[t2,t3,t6,w1];exact⟨⟨d,i+1,by clear w1;omega,rfl,ho⟩,by clear w1;omega⟩
  |some p=>rw[hw]at ho g;simp only[Z1p]at g;subst ho;obtain⟨s,hs⟩:∃s:A0u,s=⟨ks[i].kind,ks[i].label⟩:=⟨_,rfl⟩;(have m:ks[i].kind=s.k:=by rw[hs]);(have o:ks[i].label=s.lab:=by rw[hs]);simp -dsimp -implicitDefEqProofs[t2,t3,t6];refine A1h (hQ [45,47]) (A0w gl) (λk=>if k=13\/k=15 then 2 else 0) (λ_=>0) (by rfl) (by kernel_rfl) ?_;simp -dsimp -implicitDefEqProofs[t2,t3,t6,hi,c,A0b.row_eq,m,o,B4g];have l:A1z 159 2 A0u.row (M1++[.vec 159 2 [I s.k,S s.lab] 0 [(0,1)]]) (.vref M1.length 0 2 0 1) [s]:=.inr ⟨M1.length,0,[(0,1)],rfl,by simp[A0u.row],by simp[List.lookup]⟩;refine A3E (C:=WC gl) (enc:=A0u.row) (e:=159) (sz:=2) (news:=p) A7K B0S A7J (λ_=>rfl) l (by simp[A0B,B0p]) (by simp;omega) rfl ?_;intro v' M3 q1 q2 q3 _;obtain⟨r1,r2⟩:=A4T (X:=[]) (d.trans (A0c.app none _ [.vec 159 2 [I s.k,S s.lab] 0 [(0,1)]])) (v:=.vref M1.length 0 2 0 1) (λf hf=>by simp at hf;have:=d.1;omega) (by simpa using q2) (by simpa using q3);rw[<-hs];simp -dsimp -implicitDefEqProofs;exact⟨r1,B2d q1 r2⟩
termination_by u=>SizeOf.sizeOf u
def A8y(u:A0b)(x:IdD):Option (List A0u):=(A8F x u).map (A3N::·)
def D4E(u:A0b)(x:IdD)(M:Mem)(hg:u.good)(hc:A0x u<=1000):A0e (WC gl) 70 [.agg u.row,.agg x.row] M (λv M'=>v=D3h (A8y u x)/\M'=M):=by
 refine A0e.dataX ?_;have hx:x.row=[I x.act,I x.item,I x.n]:=rfl;have a:=D2A gl u x M hg hc;have b:=A9O x u;rw[hx]at a|-;refine A0k (hQ [17,19]) func70 ?_;simp -dsimp -implicitDefEqProofs;refine A0i func124 a ?_;cases hw:A8F x u with
 |none=>simp -dsimp -implicitDefEqProofs[A8y,hw];exact⟨Grow.refl _,.tuple (.nilS (.same trivial .nil)) .nil⟩
 |some p=>
  rw[hw]at b;simp only[Z1p]at b;have hf:A8y u x=some (A3N::p):=by simp[A8y,hw]
  rw[hf];have hv:=B4g (s:=A3N) (M:=M);simp only[A3N]at hv;simp -dsimp -implicitDefEqProofs[hv,B0h];have c:A1z 159 2 A0u.row (M++[.vec 159 2 [I 0,S ⟨#[]⟩] 0 [(0,1)]]) (.vref M.length 0 2 0 1) [A3N]:=.inr ⟨M.length,0,[(0,1)],rfl,by simp[A0u.row,A3N],by simp[List.lookup]⟩;refine A3E (C:=WC gl) (enc:=A0u.row) (e:=159) (sz:=2) (news:=p) A7K B0S A7J (λ_=>rfl) c (by simp[A0B,B0p]) (by simp;omega) rfl ?_;intro v' M3 q1 q2 q3 _;obtain⟨r1,r2⟩:=A4T (X:=[]) ((Grow.refl M).trans (A0c.app none _ [.vec 159 2 [I 0,S ⟨#[]⟩] 0 [(0,1)]])) (v:=.vref M.length 0 2 0 1) (λf hf=>by simp at hf;omega) (by simpa using q2) (by simpa using q3);simp -dsimp -implicitDefEqProofs;exact⟨r1,B2d q1 r2⟩
def D2H(u:A0b)(x:IdD)(M:Mem)(hg:u.good)(hc:A0x u<=1000):A0e (WC gl) 36 [.agg u.row,.agg x.row] M (λv M'=>v=D3h (A8y u x)/\M'=M):=by
 refine A0e.dataX ?_;have hx:x.row=[I x.act,I x.item,I x.n]:=rfl;have a:=C3B gl u x M hg hc;have b:=A9O x u;rw[hx]at a|-;refine A0k (hQ [17,19]) func36 ?_;simp -dsimp -implicitDefEqProofs;refine A0i func94 a ?_;cases hw:A8F x u with
 |none=>simp -dsimp -implicitDefEqProofs[A8y,hw];exact⟨Grow.refl _,.tuple (.nilS (.same trivial .nil)) .nil⟩
 |some p=>
  rw[hw]at b;simp only[Z1p]at b;have hf:A8y u x=some (A3N::p):=by simp[A8y,hw]
  rw[hf];have hv:=B4g (s:=A3N) (M:=M);simp only[A3N]at hv;simp -dsimp -implicitDefEqProofs[hv];have c:A1z 159 2 A0u.row (M++[.vec 159 2 [I 0,S ⟨#[]⟩] 0 [(0,1)]]) (.vref M.length 0 2 0 1) [A3N]:=.inr ⟨M.length,0,[(0,1)],rfl,by simp[A0u.row,A3N],by simp[List.lookup]⟩;refine A3E (C:=WC gl) (enc:=A0u.row) (e:=159) (sz:=2) (news:=p) A7K B0S A7J (λ_=>rfl) c (by simp[A0B,B0p]) (by simp;omega) rfl ?_;intro v' M3 q1 q2 q3 _;obtain⟨r1,r2⟩:=A4T (X:=[]) ((Grow.refl M).trans (A0c.app none _ [.vec 159 2 [I 0,S ⟨#[]⟩] 0 [(0,1)]])) (v:=.vref M.length 0 2 0 1) (λf hf=>by simp at hf;omega) (by simpa using q2) (by simpa using q3);simp -dsimp -implicitDefEqProofs;exact⟨r1,B2d q1 r2⟩
end
end Go.Abs
