/- The texts AbsX2, AbsK. -/
import Derived.Test.YtjmjekcaifkboaaGreatDoorQG02
import Derived.Laws.StructEq
set_option linter.all false
namespace Go.Abs
section
variable {C:Ctx} {G:A0q} {M:Mem} {w:World}
def C3h{P}{op}{k yk}{a b}{v}(h:C8q op k a b=some v)(t:TypeId)(w:World):(binOp op t (.int k a) (.int yk b)).run P w=.ok v w:=by
 unfold C8q at h;split at h
 .simp at h
 rename_i hb;split at h
 .simp only[Z0b]at h;subst h;simp[binOp,Op.shift,hb]
 .simp only[Z0b]at h;subst h;simp[binOp,Op.shift,hb]
 .simp at h
def C4t(a b:ByteArray):(a==b)=(a.data.toList==b.data.toList):=by obtain⟨⟨x⟩⟩:=a;obtain⟨⟨y⟩⟩:=b;show((⟨x⟩:Array UInt8)==⟨y⟩)=(x==y);simp
def A6Z{P}(hP:C.P=P):∀(d:Nat) (t:TypeId) (x y:AV) (b:Bool) (n:Nat) (xv yv:Value),B0m P d t x y=some b->Rep G x xv->Rep G y yv->(Op.equalIn (d+n) t xv yv).run C.P w=.ok b w
 |0,t,x,y,b,n,xv,yv,h,_,_=>by simp[B0m]at h
 |d+1,t,x,y,b,n,xv,yv,h,hx,hy=>by
  subst hP;rw[show d+1+n=(d+n)+1 from by omega];unfold B0m at h;split at h
  .rename_i hu;simp only[Z0b]at h;subst h;simp only[Rep]at hx hy;subst hx;subst hy;exact run_equalIn_bool w _ t _ _ hu
  .rename_i hu;split at h
   .rename_i hk;subst hk;simp only[Z0b]at h;subst h;simp only[Rep]at hx hy;subst hx;subst hy;exact run_equalIn_int w _ t _ _ _ _ hu
   .simp at h
  .rename_i hu;simp only[Z0b]at h;subst h;simp only[Rep]at hx hy;subst hx;subst hy;rw[run_equalIn_string w _ t _ _ hu,<-beq_toListBytes,C4t]
  .rename_i fs xs ys hu;split at h
   .simp at h
   rename_i hp;simp only[Rep]at hx hy;obtain⟨ax,rfl,m,o⟩:=hx;obtain⟨ay,rfl,j,k⟩:=hy;(have hf:C.P.fieldsOf t=fs:=by simp[Program.fieldsOf,hu]);rw[run_equalIn_struct w (d+n) t ax ay (by rw[hf];exact hu) ZDF,hf];generalize fs.toList=l at h;clear hu hf;induction l with
   |nil=>simp only[A2P,Z0b]at h;subst h;simp[Op.eqFields]
   |cons f l ih=>
    simp only[A2P]at h;simp only[Op.eqFields];by_cases hn:f.name≠ "_"
    .rw[Z0c hn]at h|-;split at h;(case isFalse=>simp at h);rename_i hfit;simp only[Z0h]at hfit;split at h;(case h_2=>simp at h);rename_i a b' ha hb;obtain⟨u,g,c⟩:=A8w (C:=C) (w:=w) m o hfit.1 ha;obtain⟨u',i,e⟩:=A8w (C:=C) (w:=w) j k hfit.2 hb;simp only[Z0E,g,i,Z0u];split at h
     .rename_i he;have:=A6Z rfl d f.type a b' true n u u' he c e;simp only[this,Z0u,Z3j,Z1I,Z2f];exact ih h
     .rename_i he;have:=A6Z rfl d f.type a b' false n u u' he c e;simp only[Z0b]at h;subst h;simp[this]
     .simp at h
    .rw[Z0d hn]at h|-;exact ih h
  .simp at h
def C0f{x y}{xv yv}(hx:Rep G x xv)(hy:Rep G y yv){op}{t:TypeId}{v}(h:A4B C.P op t x y=some v)(ox oy:Operand):∃u,(do eqGuard op t ox oy xv yv;binOp op t xv yv:Sem Value).run C.P w=.ok u w/\Rep G v u:=by
 unfold A4B at h
 split at h
 .rename_i k a yk b;simp only[Rep]at hx hy;subst hx;subst hy;have hg:(eqGuard op t ox oy (.int k a) (.int yk b)).run C.P w=.ok () w:=by unfold eqGuard;split<;>rfl
  split at h
  .simp at h
  simp only[Z0l]at h;obtain⟨u,hu,rfl⟩:=h;exact⟨u,by simp only[Z0E,hg,Z0u];exact C3h hu t w,ZAE⟩
 .rename_i xs ys;split at h
  .simp at h
  rename_i hgt;have c:C.P.eqGuardType C.P.depth t=false:=by simpa using hgt
  have i:=hx;have j:=hy;simp only[Rep]at hx hy;obtain⟨ax,rfl,_,_⟩:=hx;obtain⟨ay,rfl,_,_⟩:=hy;split at h
  .rename_i b he;simp only[Z0b]at h;subst h;have:=A6Z (C:=C) (w:=w) rfl 30 t _ _ b 9970 _ _ he i j;refine⟨.bool b,?_,ZAE⟩;(have hg:(eqGuard .eql t ox oy (.agg ax) (.agg ay)).run C.P w=.ok () w:=by simp[eqGuard,c]);simp only[Z0E,hg,Z0u,run_eql_struct,this]
  .rename_i b he;simp only[Z0b]at h;subst h;have:=A6Z (C:=C) (w:=w) rfl 30 t _ _ b 9970 _ _ he i j;refine⟨.bool (!b),?_,ZAE⟩;(have hg:(eqGuard .neq t ox oy (.agg ax) (.agg ay)).run C.P w=.ok () w:=by simp[eqGuard,c]);simp only[Z0E,hg,Z0u,run_neq_struct,this]
  .simp at h
 .rename_i f g sz lo len;simp only[Rep]at hx hy;obtain⟨_,_,a,a',cap,_,_,_,rfl,_⟩:=hx;subst hy;split at h
  .rename_i e hu;simp only[Z0b]at h;subst h;have hr:=A3E (P:=C.P) (t:=t) (xv:=.slice (some a') len (cap-lo)) (yv:=.slice none 0 0) (ox:=ox) (oy:=oy) (b:=false) (w:=w) (λd=>A5A hu d (some a') _ _ w) (.inr (.inl ⟨_,_,_,rfl⟩)) (.inr (.inl ⟨_,_,_,rfl⟩));exact⟨_,hr.1,ZAE⟩
  .rename_i e hu;simp only[Z0b]at h;subst h;have hr:=A3E (P:=C.P) (t:=t) (xv:=.slice (some a') len (cap-lo)) (yv:=.slice none 0 0) (ox:=ox) (oy:=oy) (b:=false) (w:=w) (λd=>A5A hu d (some a') _ _ w) (.inr (.inl ⟨_,_,_,rfl⟩)) (.inr (.inl ⟨_,_,_,rfl⟩));exact⟨_,hr.2,ZAE⟩
  .simp at h
 .simp at h
def C7W{src dst:TypeId}{x v}{xv}(hx:Rep G x xv)(h:A5X C.P src dst x=some v):∃u,(convert src dst xv).run C.P w=.ok u w/\Rep G v u:=by
 unfold A5X at h;split at h
 .rename_i k0 k j n h1 h2;cases h;simp only[Rep]at hx;subst hx;exact⟨.int k (k.wrap n),by simp[convert,Z0q h1,Z0q h2,Conv.intToInt],ZAE⟩
 .rename_i s h1 h2;cases h;simp only[Rep]at hx;subst hx;exact⟨.string s,by simp[convert,Z0q h1,Z0q h2],ZAE⟩
 .simp at h
def C3v(hi:Inv C G M w){x y}{xv yv}(hx:Rep G x xv)(hy:Rep G y yv){op}{t:TypeId}{v}(h:A1K C.P op t x y=some v)(ox oy:Operand):∃u,(do eqGuard op t ox oy xv yv;binOp op t xv yv:Sem Value).run C.P w=.ok u w/\Rep G v u:=by
 unfold A1K at h
 split at h
 .rename_i v' hb;cases h;exact C2i hi hx hy hb ox oy
 .exact C0f hx hy h ox oy
end
section
variable {C:Ctx} {G:A0q} {M:Mem} {w:World}
def A8x{σ:Operand->Value}{ρ:Operand->AV}:∀(l:List Operand),(∀x∈l,Rep G (ρ x) (σ x))->A0v G (l.map ρ) (l.map σ)
 |[],_=>by simp[A0v]
 |x::l,h=>by simp only[Z0x,A0v];exact⟨_,_,rfl,h x Q1,A8x l (λy hy=>h y (by simp[hy]))⟩
def C3E{t:TypeId}{x}{xv}(hr:Rep G x xv){n}(h:A3k C.P t x=some n)(ts:Array TypeId)(a:ts[0]?=some t)(ty:TypeId):(Builtin.len_ ts ty #[xv]).run C.P w=.ok (goInt n) w:=by
 unfold A3k at h;split at h
 .simp only[Rep]at hr;subst hr;split at h
  .rename_i hu;simp at h;subst h;simp[Builtin.len_,a,Z0q hu]
  .simp at h
 .simp only[Rep]at hr;subst hr;split at h
  .rename_i hu;simp at h;subst h;simp[Builtin.len_,a,Z0q hu]
  .simp at h
 .simp only[Rep]at hr;subst hr;split at h
  .rename_i hu;simp at h;subst h;simp[Builtin.len_,a,Z0q hu]
  .simp at h
 .simp only[Rep]at hr;obtain⟨base,cap,rfl,_⟩:=hr;split at h
  .rename_i hu;simp at h;subst h;simp[Builtin.len_,a,Z0q hu]
  .simp at h
 .simp only[Rep]at hr;obtain⟨_,_,_,a',cap,_,_,_,rfl,_⟩:=hr;split at h
  .rename_i hu;simp at h;subst h;simp[Builtin.len_,a,Z0q hu]
  .simp at h
 .simp at h
def B8p{mx}{x y v}{xv yv}(hx:Rep G x xv)(hy:Rep G y yv)(h:A7J mx x y=some v):∃u,(if mx then Builtin.max2 xv yv else Builtin.min2 xv yv).run C.P w=.ok u w/\Rep G v u:=by
 unfold A7J at h
 split at h
 case h_2=>simp at h
 simp only[Rep]at hx hy
 subst hx;subst hy
 split at h
 case isFalse=>simp at h
 simp at h;subst h
 cases mx
 .exact⟨_,by simp[Builtin.min2];rfl,ZAE⟩
 .exact⟨_,by simp[Builtin.max2];rfl,ZAE⟩
def B7o{hint}{b}{ts}{args}{xs}{v}(hr:A0v G args xs.toList)(h:A8C C.P hint b ts args=some v)(ty:TypeId)(a:Array Bool):∃u,(builtin b ts ty a xs).run C.P w=.ok (.value u) w/\Rep G v u:=by
 obtain⟨xs⟩:=xs
 simp only at hr
 unfold A8C at h
 split at h
 .rename_i x;simp only[A0v]at hr;obtain⟨y,ys,rfl,hy,rfl⟩:=hr;split at h
  .rename_i t ht;simp only[Z0l]at h;obtain⟨n,hn,rfl⟩:=h;exact⟨goInt n,by simp[builtin,C3E (C:=C) (w:=w) hy hn ts ht ty],ZAE⟩
  .simp at h
 .simp only[A0v]at hr;obtain⟨y,_,rfl,hy,y2,_,rfl,c,rfl⟩:=hr;obtain⟨u,hu,d⟩:=B8p (C:=C) (w:=w) hy c h;exact⟨u,by simp at hu;simp[builtin,Builtin.max_,List.foldlM,hu],d⟩
 .simp only[A0v]at hr;obtain⟨y,_,rfl,hy,y2,_,rfl,c,rfl⟩:=hr;obtain⟨u,hu,d⟩:=B8p (C:=C) (w:=w) hy c h;exact⟨u,by simp at hu;simp[builtin,Builtin.min_,List.foldlM,hu],d⟩
 .simp at h
def C9N(hi:Inv C G M w){x}{xv}(hx:Rep G x xv)(hs:x.storable=true)(e:TypeId):∃u w' G',(Instr.box e xv).run C.P w=.ok u w'/\G.le G'/\Inv C G' M w'/\Rep G' (.cptr x.cells) u/\Ext w w':=by
 obtain⟨h1,h2⟩:=hx.cells hs
 have a:=A0q.le_fix hi xv.cells.toList
 refine⟨.pointer (some ⟨w.heap.size,0,none⟩),w.alloc (.cells xv.cells e),G.fix w.heap.size xv.cells.toList,?_,a,hi.fix xv.cells e xv.cells.toList (λi v hv=>by simpa using hv),?_,Ext.alloc _ _⟩
 .simp only[Instr.box,newVar,newRow,Z0E,Z3T,Z0u,Z0O];rfl
 .simp only[Rep];exact⟨_,_,rfl,A0S.fix hi h1 h2⟩
def C6j(hi:Inv C G M w){o}{ρ:Operand->AV}{σ:Operand->Value}(hρ:∀x∈o.op.operands.toList,Rep G (ρ x) (σ x)){hn}{v}(h:A0J C hn o ρ=some v):A3z C G w (execOp σ o) v M:=by
 obtain⟨dst,op,type,pos,after,guard⟩:=o;simp only at hρ;unfold A0J at h;simp only at h;split at h
 ·-- move
  cases h;exact A3z.same hi (by simp[execOp]) (hρ _ ZAA)
 .cases h;exact A3z.same hi (by simp[execOp]) (hρ _ ZAA)
 ·-- pick
  rename_i c a b;split at h;case h_2=>simp at h
  rename_i t hc;cases h;have h1:=hρ c ZAA;rw[hc]at h1;simp only[Rep]at h1;have h2:=hρ a ZAA;have h3:=hρ b ZAA;cases t
  .exact A3z.same hi (x:=σ b) (by simp[execOp,h1,asBool]) ZBR
  .exact A3z.same hi (x:=σ a) (by simp[execOp,h1,asBool]) ZAU
 ·-- box
  rename_i e x;split at h;case isFalse=>simp at h
  rename_i hc;simp only[Z0h]at hc;cases h;obtain⟨u,w',G',h1,h2,h3,h4,h5⟩:=C9N hi (hρ x ZAA) hc.2 e;exact⟨_,w',G',A3L h1,.inl ⟨u,rfl,h4⟩,h2,h3,h5⟩
 ·-- nilCheck
  rename_i x;have hx:=hρ x ZAA;split at h
  .rename_i b off he;cases h;rw[he]at hx;have m:=hx;simp only[Rep]at hx;exact A3z.same hi (x:=σ x) (by simp[execOp,hx.2]) m
  .rename_i cs he;cases h;rw[he]at hx;have m:=hx;simp only[Rep]at hx;obtain⟨b,i,hp,_⟩:=hx;exact A3z.same hi (x:=σ x) (by simp[execOp,hp]) m
  .rename_i f a c he;cases h;rw[he]at hx;have m:=hx;simp only[Rep]at hx;obtain⟨fs,cs,hp,_⟩:=hx;exact A3z.same hi (x:=σ x) (by simp[execOp,hp]) m
  .rename_i f g off he;cases h;rw[he]at hx;have m:=hx;simp only[Rep]at hx;obtain⟨_,_,a,cap,_,hp⟩:=hx;exact A3z.same hi (x:=σ x) (by simp[execOp,hp]) m
  .simp at h
 ·-- binOp
  rename_i op t x y _;obtain⟨u,h1,h2⟩:=C3v hi (hρ x ZAA) (hρ y ZAA) h x y;exact A3z.same hi (x:=u) (A3L h1) h2
 ·-- not
  rename_i t x;have hx:=hρ x ZAA;split at h;case h_2=>simp at h
  rename_i b he;cases h;rw[he]at hx;simp only[Rep]at hx;exact A3z.same hi (x:=.bool !b) (by simp[execOp,hx,Op.unary]) ZAE
 .rename_i t x;have hx:=hρ x ZAA;split at h;case h_2=>simp at h
  rename_i k n he;cases h;rw[he]at hx;simp only[Rep]at hx;exact A3z.same hi (x:=.int k (k.wrap (0-n))) (by simp[execOp,hx,Op.unary,Op.intArith]) ZAE
 ·-- fieldAddr
  rename_i t x f;have hx:=hρ x ZAA;split at h
  .rename_i k b off ho he;cases h;rw[he]at hx;simp only[Rep]at hx;refine A3z.same hi (x:=.pointer (some ⟨G.blk b,off+k,none⟩)) ?_ (by simp only[Rep];exact⟨hx.1,trivial⟩);have:=B4T ho ⟨G.blk b,off,none⟩ w;rw[Z1k]at this;simp only[execOp,hx.2];exact A3L this
  .rename_i k cs ho he;cases h;rw[he]at hx;simp only[Rep]at hx;obtain⟨b,i,hp,hm⟩:=hx;refine A3z.same hi (x:=.pointer (some ⟨b,i+k,none⟩)) ?_ (by simp only[Rep];exact⟨b,i+k,rfl,hm.drop k⟩);have:=B4T ho ⟨b,i,none⟩ w;rw[Z1k]at this;simp only[execOp,hp];exact A3L this
  .rename_i k f' g off ho he;cases h;rw[he]at hx;simp only[Rep]at hx;obtain⟨q1,q2,a,cap,q3,hp⟩:=hx;refine A3z.same hi (x:=.pointer (some ⟨a.block,a.off+(off+k),none⟩)) ?_ (by simp only[Rep];exact⟨q1,q2,a,cap,q3,rfl⟩);have:=B4T ho ⟨a.block,a.off+off,none⟩ w;rw[Z1k,Z2F]at this;simp only[execOp,hp];exact A3L this
  .simp at h
 ·-- field
  rename_i t x f;have hx:=hρ x ZAA;split at h;case h_2=>simp at h
  rename_i k ft cs hfo he;split at h;case isFalse=>simp at h
  rename_i hfit;rw[he]at hx;simp only[Rep]at hx;obtain⟨ys,hp,hr,h1⟩:=hx;obtain⟨u,hu,d⟩:=A8w (C:=C) (w:=w) hr h1 hfit h;refine A3z.same hi (x:=u) ?_ d;unfold A0U at hfo;split at hfo;case h_2=>simp at hfo
  rename_i fs hund;simp only[Z0l]at hfo;obtain⟨fx,ak,ae⟩:=hfo;simp at ae;obtain⟨rfl,rfl⟩:=ae;simp[execOp,Instr.field,hp,Z0q hund,ak,asAgg,hu]
 ·-- indexAddr
  rename_i t x ix;have hx:=hρ x ZAA;have l:=hρ ix ZAA;split at h;case h_3=>simp at h
  .rename_i e sz rows own k i hel he hei;split at h;(case isFalse=>simp at h);rename_i hc;obtain⟨a9,h0,hlt⟩:=hc;cases h;rw[he]at hx;rw[hei]at l;simp only[Rep]at hx l;obtain⟨base,cap,hp,an,am,a4,al⟩:=hx;cases base with
   |none=>obtain⟨rfl,_⟩:=a4;simp at hlt;omega
   |some a=>
    obtain⟨ab,a0⟩:=a4;have a3:i.toNat<rows.length:=Q0;have ab:=ab (λe=>by subst e;simp at a3);have ac:=a0.row (j:=i.toNat) (r:=rows[i.toNat]) (by simp[a3]);(have ea:a.add (i.toNat*sz)=⟨a.block,a.off+i.toNat*sz,none⟩:=by(have ea:a=⟨a.block,a.off,none⟩:=by cases a;simp_all);rw[ea,Z1k]);refine A3z.same hi (x:=.pointer (some ⟨a.block,a.off+i.toNat*sz,none⟩)) ?_ ?_
    .have hu:=A2q hel;simp[execOp,Instr.indexAt,hp,l,asIntOf,Z0q hu,h0,hlt,A1U a9,ea]
    ·(have:rows.getD i.toNat []=rows[i.toNat]:=by simp[List.getD,a3]);rw[this]
     simp only[Rep];exact⟨_,_,rfl,ac.2⟩
  .rename_i e f g sz lo len k i hel he hei;split at h;(case isFalse=>simp at h);rename_i hc;obtain⟨a9,h0,hlt⟩:=hc;cases h;rw[he]at hx;rw[hei]at l;simp only[Rep]at hx l;obtain⟨q1,q2,a,a',cap,q3,q4,q5,hp,q6,q7,q8⟩:=hx;have ha:=q8 Q0;refine A3z.same hi (x:=.pointer (some ⟨a.block,a.off+(lo+i.toNat)*sz,none⟩)) ?_ (by simp only[Rep];exact⟨q1,q2,a,cap,q3,rfl⟩);(have af:a'.add (i.toNat*sz)=⟨a.block,a.off+(lo+i.toNat)*sz,none⟩:=by rw[ha,Z1k,Z0R,Z2F]);simp[execOp,Instr.indexAt,hp,l,asIntOf,Z0q (A2q hel),h0,hlt,A1U a9,af]
 ·-- index of a string
  rename_i t x ix;have hx:=hρ x ZAA;have l:=hρ ix ZAA;split at h;case h_2=>simp at h
  rename_i s k i hu he hei;split at h;case isFalse=>simp at h
  rename_i hc;cases h;rw[he]at hx;rw[hei]at l;simp only[Rep]at hx l;refine A3z.same hi (x:=.int .u8 (s.data.getD i.toNat 0).toNat) ?_ ZAE;have hlt:i.toNat<s.size:=Q0;have ad:i.toNat<s.data.size:=hlt;have e1:s[i.toNat]?=some (s.data.getD i.toNat 0):=by rw[getElem?_pos s i.toNat hlt];simp only[Array.getD];rw[dif_pos ad];rfl
  simp[execOp,Instr.index,hx,l,asIntOf,Z0q hu,hc.1,e1]
 ·-- load
  rename_i t x;have hx:=hρ x ZAA;split at h;case h_2=>simp at h
  rename_i cs he;rw[he]at hx;obtain⟨u,hu,d⟩:=B3l hi hx (t:=t) (cs:=cs) (by simp[A2g]) h;exact A3z.same hi (x:=u) (A3L hu) d
 ·-- extract
  rename_i x i;have hx:=hρ x ZAA;split at h;case h_2=>simp at h
  rename_i vs he;rw[he]at hx;simp only[Rep]at hx;obtain⟨ys,hp,hr⟩:=hx;obtain⟨y,hy,ag⟩:=hr.get h;have:ys[i]?=some y:=by simpa using hy
  exact A3z.same hi (x:=y) (by simp[execOp,Instr.extract,hp,this]) ag
 ·-- makeFunc
  rename_i fn f c;cases h;refine A3z.same hi (x:=.func fn (f.map σ) (c.map σ)) (by simp[execOp,Instr.makeFunc]) ?_;simp only[Rep];refine⟨_,_,rfl,?_,?_⟩
  .simpa using A8x (G:=G) (ρ:=ρ) (σ:=σ) f.toList (λx hx=>hρ x (by simp[Op.operands];simp at hx;simp[hx]))
  .simpa using A8x (G:=G) (ρ:=ρ) (σ:=σ) c.toList (λx hx=>hρ x (by simp[Op.operands];simp at hx;simp[hx]))
 ·-- slice
  rename_i t x lo hi' mx;have hx:=hρ x ZAA;have a5:∀a,lo.map ρ=some a->∃y,lo.map σ=some y/\Rep G a y:=λa ha=>by
   cases lo with
   |none=>simp at ha
   |some q=>simp at ha;subst ha;exact⟨_,rfl,hρ q ZAA⟩
  have a7:∀a,hi'.map ρ=some a->∃y,hi'.map σ=some y/\Rep G a y:=λa ha=>by
   cases hi' with
   |none=>simp at ha
   |some q=>simp at ha;subst ha;exact⟨_,rfl,hρ q ZAA⟩
  have a8:∀a,mx.map ρ=some a->∃y,mx.map σ=some y/\Rep G a y:=λa ha=>by
   cases mx with
   |none=>simp at ha
   |some q=>simp at ha;subst ha;exact⟨_,rfl,hρ q ZAA⟩
  by_cases a6:∃f g sz aa len,ρ x=.vref f g sz aa len
  .obtain⟨f,g,sz,aa,len,a6⟩:=a6;rw[a6]at h hx;obtain⟨u,hu,d⟩:=B4k (C:=C) (G:=G) (w:=w) hx a5 (by cases lo<;>simp) a7 ZDN a8 (by cases mx<;>simp) h;exact A3z.same hi (x:=u) (A3L hu) d
  have ah:A1Q C.P t (ρ x) (lo.map ρ) (hi'.map ρ) (mx.map ρ)=A3S C.P t (ρ x) (lo.map ρ) (hi'.map ρ) (mx.map ρ):=by
   unfold A1Q;split
   .rename_i e;exact absurd ⟨_,_,_,_,_,e⟩ a6
   .rfl
  rw[ah]at h;by_cases hs:∃s,ρ x=.val (.string s)
  .obtain⟨s,hs⟩:=hs;rw[hs]at h hx;simp only[Rep]at hx;cases mx with
   |some q=>simp[A3S]at h
   |none=>obtain⟨u,hu,d⟩:=B3s (C:=C) (G:=G) (w:=w) a5 (by cases lo<;>simp) a7 ZDN h;refine A3z.same hi (x:=u) ?_ d;simp only[execOp,hx];exact A3L hu
  .cases he:ρ x with
   |list sz rows own=>rw[he]at h hx;obtain⟨u,hu,d,_⟩:=A9W (C:=C) (G:=G) (w:=w) hx a5 (by cases lo<;>simp) a7 ZDN a8 (by cases mx<;>simp) h;exact A3z.same hi (x:=u) (A3L hu) d
   |val v=>
    cases v with
    |string s=>exact absurd ⟨s,he⟩ hs
    |slice a n c=>
     rw[he]at h hx;simp only[Rep]at hx;have a2:a=none/\n=0/\c=0:=by
      unfold A3S at h;split at h
      .rename_i heq;simp at heq
      .rename_i heq;simp at heq
      .rename_i heq;simpa using heq
      .simp at h
     obtain⟨rfl,rfl,rfl⟩:=a2;simp only[A3S]at h;split at h;(case h_2=>simp at h);split at h;(case h_2=>simp at h);rename_i sz _;(have m:Rep G (.list sz [] .full) (σ x):=by rw[hx];exact A5C Q1 (Z0j _) (by simp[maxLen]) ⟨rfl,rfl⟩ rfl);simp only[Z0l]at h;obtain⟨v',h,rfl⟩:=h;obtain⟨u,hu,d,a2⟩:=A9W (C:=C) (G:=G) (w:=w) m a5 (by cases lo<;>simp) a7 ZDN a8 (by cases mx<;>simp) h;exact A3z.same hi (x:=u) (A3L hu) (by rw[a2 hx];simp[Rep])
    |_=>rw[he]at h;simp[A3S]at h
   |_=>rw[he]at h;simp[A3S]at h
 ·-- convert
  rename_i src dst x;obtain⟨u,h1,h2⟩:=C7W (C:=C) (w:=w) (hρ x ZAA) h;exact A3z.same hi (x:=u) (A3L h1) h2
 ·-- build
  rename_i t parts;split at h;case h_2=>simp at h
  rename_i z fs hz hu;split at h
  .simp at h
  rename_i hc;simp only[Z1V,Z2C,Z4F,Bool.not_eq_false]at hc;simp only[Z0l]at h;obtain⟨cs,aj,rfl⟩:=h;obtain⟨u,ai,d⟩:=C5v (C:=C) (G:=G) (w:=w) hu hc.1 hz hc.2 (xs:=parts.map λ(i,x)=>(i,σ x)) Q1 (λj p x hp hx=>by simp only[Z1i,Z0l]at hp;obtain⟨q,hq,rfl⟩:=hp;simp only[Z3L,Z1i,Z0l]at hx;obtain⟨q',a1,rfl⟩:=hx;rw[hq]at a1;simp at a1;subst a1;exact⟨rfl,hρ _ ZAN⟩) aj;exact A3z.same hi (x:=u) (A3L ai) d
 ·-- buildSlice
  rename_i t n parts;split at h;case isTrue=>simp at h
  split at h;case h_2=>simp at h
  rename_i e he;split at h;case h_2=>simp at h
  rename_i sz z hs hz;split at h;case isFalse=>simp at h
  rename_i hc;obtain⟨c1,c2,c3,c4⟩:=hc;simp only[Z0l]at h;obtain⟨rows,a0,rfl⟩:=h;obtain⟨u,w',G',h1,h2,h3,h4,h5⟩:=B5d (C:=C) (G:=G) (w:=w) hi he hs hz c3 c2 c4 c1 (xs:=parts.map λ(i,x)=>(i,σ x)) Q1 (λj p x hp hx=>by simp only[Z1i,Z0l]at hp;obtain⟨q,hq,rfl⟩:=hp;simp only[Z3L,Z1i,Z0l]at hx;obtain⟨q',a1,rfl⟩:=hx;rw[hq]at a1;simp at a1;subst a1;exact⟨rfl,hρ _ ZAN⟩) a0;exact⟨_,w',G',A3L h1,.inl ⟨u,rfl,h4⟩,h2,h3,h5⟩
 ·-- a builtin
  rename_i b args ts;obtain⟨u,hu,d⟩:=B7o (C:=C) (w:=w) (xs:=args.map σ) (by simpa using A8x (G:=G) (ρ:=ρ) (σ:=σ) args.toList (λx hx=>hρ x ZBV)) h type (args.map λ|.const _=>true|_=>false);exact A3z.same hi (x:=u) (by simp only[execOp,resolve,invoke,Z0E,Z0O,Z0u];exact hu) d
 .simp at h
end
end Go.Abs
