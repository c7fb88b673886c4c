/- The texts AbsX2, AbsK. -/
import Derived.Test.YtmihnfpinnfnfaaGreatDoorPG03
import Derived.Laws.StructEq
set_option linter.all false
namespace Go.Abs
section
variable {C:Ctx} {G:A0p} {M:Mem} {w:World}
def C1Z{P}{op}{k yk}{a b}{v}(h:C6K op k a b=some v)(t:TypeId)(w:World):(binOp op t (.int k a) (.int yk b)).run P w=.ok v w:=by
 unfold C6K at h;split at h
 .simp at h
 rename_i hb;split at h
 .simp only[Z0b]at h;subst h;simp[binOp,Op.shift,hb]
 .simp only[Z0b]at h;subst h;simp[binOp,Op.shift,hb]
 .simp at h
def C3d(a b:ByteArray):(a==b)=(a.data.toList==b.data.toList):=by obtain⟨⟨x⟩⟩:=a;obtain⟨⟨y⟩⟩:=b;show((⟨x⟩:Array UInt8)==⟨y⟩)=(x==y);simp
def A6z{P}(hP:C.P=P):∀(d:Nat) (t:TypeId) (x y:AV) (b:Bool) (n:Nat) (xv yv:Value),A9N P d t x y=some b->Rep G x xv->Rep G y yv->(Op.equalIn (d+n) t xv yv).run C.P w=.ok b w
 |0,t,x,y,b,n,xv,yv,h,_,_=>by simp[A9N]at h
 |d+1,t,x,y,b,n,xv,yv,h,hx,hy=>by
  subst hP;rw[show d+1+n=(d+n)+1 from by omega];unfold A9N at h;split at h
  .rename_i hu;simp only[Z0b]at h;subst h;simp only[Rep]at hx hy;subst hx;subst hy;exact run_equalIn_bool w _ t _ _ hu
  .rename_i hu;split at h
   .rename_i hk;subst hk;simp only[Z0b]at h;subst h;simp only[Rep]at hx hy;subst hx;subst hy;exact run_equalIn_int w _ t _ _ _ _ hu
   .simp at h
  .rename_i hu;simp only[Z0b]at h;subst h;simp only[Rep]at hx hy;subst hx;subst hy;rw[run_equalIn_string w _ t _ _ hu,<-beq_toListBytes,C3d]
  .rename_i fs xs ys hu;split at h
   .simp at h
   rename_i hp;simp only[Rep]at hx hy;obtain⟨ax,rfl,m,o⟩:=hx;obtain⟨ay,rfl,j,k⟩:=hy;(have hf:C.P.fieldsOf t=fs:=by simp[Program.fieldsOf,hu]);rw[run_equalIn_struct w (d+n) t ax ay (by rw[hf];exact hu) (by simpa using hp),hf];generalize fs.toList=l at h;clear hu hf;induction l with
   |nil=>simp only[A2H,Z0b]at h;subst h;simp[Op.eqFields]
   |cons f l ih=>
    simp only[A2H]at h;simp only[Op.eqFields];by_cases hn:f.name≠ "_"
    .rw[Z0c hn]at h|-;split at h;(case isFalse=>simp at h);rename_i hfit;simp only[Z0h]at hfit;split at h;(case h_2=>simp at h);rename_i a b' ha hb;obtain⟨u,g,c⟩:=A7W (C:=C) (w:=w) m o hfit.1 ha;obtain⟨u',i,e⟩:=A7W (C:=C) (w:=w) j k hfit.2 hb;simp only[Z0E,g,i,Z0t];split at h
     .rename_i he;have:=A6z rfl d f.type a b' true n u u' he c e;simp only[this,Z0t,Z3x,Z1L,Z2b];exact ih h
     .rename_i he;have:=A6z rfl d f.type a b' false n u u' he c e;simp only[Z0b]at h;subst h;simp[this]
     .simp at h
    .rw[Z0d hn]at h|-;exact ih h
  .simp at h
def B9r{x y}{xv yv}(hx:Rep G x xv)(hy:Rep G y yv){op}{t:TypeId}{v}(h:A4t C.P op t x y=some v)(ox oy:Operand):∃u,(do eqGuard op t ox oy xv yv;binOp op t xv yv:Sem Value).run C.P w=.ok u w/\Rep G v u:=by
 unfold A4t at h
 split at h
 .rename_i k a yk b;simp only[Rep]at hx hy;subst hx;subst hy;have hg:(eqGuard op t ox oy (.int k a) (.int yk b)).run C.P w=.ok () w:=by unfold eqGuard;split<;>rfl
  split at h
  .simp at h
  simp only[Z0l]at h;obtain⟨u,hu,rfl⟩:=h;exact⟨u,by simp only[Z0E,hg,Z0t];exact C1Z hu t w,by simp[Rep]⟩
 .rename_i xs ys;split at h
  .simp at h
  rename_i hgt;have c:C.P.eqGuardType C.P.depth t=false:=by simpa using hgt
  have i:=hx;have j:=hy;simp only[Rep]at hx hy;obtain⟨ax,rfl,_,_⟩:=hx;obtain⟨ay,rfl,_,_⟩:=hy;split at h
  .rename_i b he;simp only[Z0b]at h;subst h;have:=A6z (C:=C) (w:=w) rfl 30 t _ _ b 9970 _ _ he i j;refine⟨.bool b,?_,by simp[Rep]⟩;(have hg:(eqGuard .eql t ox oy (.agg ax) (.agg ay)).run C.P w=.ok () w:=by simp[eqGuard,c]);simp only[Z0E,hg,Z0t,run_eql_struct,this]
  .rename_i b he;simp only[Z0b]at h;subst h;have:=A6z (C:=C) (w:=w) rfl 30 t _ _ b 9970 _ _ he i j;refine⟨.bool (!b),?_,by simp[Rep]⟩;(have hg:(eqGuard .neq t ox oy (.agg ax) (.agg ay)).run C.P w=.ok () w:=by simp[eqGuard,c]);simp only[Z0E,hg,Z0t,run_neq_struct,this]
  .simp at h
 .rename_i f g sz lo len;simp only[Rep]at hx hy;obtain⟨_,_,a,a',cap,_,_,_,rfl,_⟩:=hx;subst hy;split at h
  .rename_i e hu;simp only[Z0b]at h;subst h;have hr:=A3o (P:=C.P) (t:=t) (xv:=.slice (some a') len (cap-lo)) (yv:=.slice none 0 0) (ox:=ox) (oy:=oy) (b:=false) (w:=w) (λd=>A5l hu d (some a') _ _ w) (.inr (.inl ⟨_,_,_,rfl⟩)) (.inr (.inl ⟨_,_,_,rfl⟩));exact⟨_,hr.1,by simp[Rep]⟩
  .rename_i e hu;simp only[Z0b]at h;subst h;have hr:=A3o (P:=C.P) (t:=t) (xv:=.slice (some a') len (cap-lo)) (yv:=.slice none 0 0) (ox:=ox) (oy:=oy) (b:=false) (w:=w) (λd=>A5l hu d (some a') _ _ w) (.inr (.inl ⟨_,_,_,rfl⟩)) (.inr (.inl ⟨_,_,_,rfl⟩));exact⟨_,hr.2,by simp[Rep]⟩
  .simp at h
 .simp at h
def C6t{src dst:TypeId}{x v}{xv}(hx:Rep G x xv)(h:A5C C.P src dst x=some v):∃u,(convert src dst xv).run C.P w=.ok u w/\Rep G v u:=by
 unfold A5C at h;split at h
 .rename_i k0 k j n h1 h2;cases h;simp only[Rep]at hx;subst hx;exact⟨.int k (k.wrap n),by simp[convert,Z0p h1,Z0p h2,Conv.intToInt],by simp[Rep]⟩
 .rename_i s h1 h2;cases h;simp only[Rep]at hx;subst hx;exact⟨.string s,by simp[convert,Z0p h1,Z0p h2],by simp[Rep]⟩
 .simp at h
def C2l(hi:Inv C G M w){x y}{xv yv}(hx:Rep G x xv)(hy:Rep G y yv){op}{t:TypeId}{v}(h:A1A C.P op t x y=some v)(ox oy:Operand):∃u,(do eqGuard op t ox oy xv yv;binOp op t xv yv:Sem Value).run C.P w=.ok u w/\Rep G v u:=by
 unfold A1A at h
 split at h
 .rename_i v' hb;cases h;exact C1n hi hx hy hb ox oy
 .exact B9r hx hy h ox oy
end
section
variable {C:Ctx} {G:A0p} {M:Mem} {w:World}
def A7X{σ:Operand->Value}{ρ:Operand->AV}:∀(l:List Operand),(∀x∈l,Rep G (ρ x) (σ x))->A0s G (l.map ρ) (l.map σ)
 |[],_=>by simp[A0s]
 |x::l,h=>by simp only[Z0w,A0s];exact⟨_,_,rfl,h x Q1,A7X l (λy hy=>h y (by simp[hy]))⟩
def C2u{t:TypeId}{x}{xv}(hr:Rep G x xv){n}(h:A2W C.P t x=some n)(ts:Array TypeId)(a:ts[0]?=some t)(ty:TypeId):(Builtin.len_ ts ty #[xv]).run C.P w=.ok (goInt n) w:=by
 unfold A2W at h;split at h
 .simp only[Rep]at hr;subst hr;split at h
  .rename_i hu;simp at h;subst h;simp[Builtin.len_,a,Z0p hu]
  .simp at h
 .simp only[Rep]at hr;subst hr;split at h
  .rename_i hu;simp at h;subst h;simp[Builtin.len_,a,Z0p hu]
  .simp at h
 .simp only[Rep]at hr;subst hr;split at h
  .rename_i hu;simp at h;subst h;simp[Builtin.len_,a,Z0p hu]
  .simp at h
 .simp only[Rep]at hr;obtain⟨base,cap,rfl,_⟩:=hr;split at h
  .rename_i hu;simp at h;subst h;simp[Builtin.len_,a,Z0p hu]
  .simp at h
 .simp only[Rep]at hr;obtain⟨_,_,_,a',cap,_,_,_,rfl,_⟩:=hr;split at h
  .rename_i hu;simp at h;subst h;simp[Builtin.len_,a,Z0p hu]
  .simp at h
 .simp at h
def B7E{mx}{x y v}{xv yv}(hx:Rep G x xv)(hy:Rep G y yv)(h:A7n mx x y=some v):∃u,(if mx then Builtin.max2 xv yv else Builtin.min2 xv yv).run C.P w=.ok u w/\Rep G v u:=by
 unfold A7n at h
 split at h
 case h_2=>simp at h
 simp only[Rep]at hx hy
 subst hx;subst hy
 split at h
 case isFalse=>simp at h
 simp at h;subst h
 cases mx
 .exact⟨_,by simp[Builtin.min2];rfl,by simp[Rep]⟩
 .exact⟨_,by simp[Builtin.max2];rfl,by simp[Rep]⟩
def B6G{hint}{b}{ts}{args}{xs}{v}(hr:A0s G args xs.toList)(h:A8b C.P hint b ts args=some v)(ty:TypeId)(a:Array Bool):∃u,(builtin b ts ty a xs).run C.P w=.ok (.value u) w/\Rep G v u:=by
 obtain⟨xs⟩:=xs
 simp only at hr
 unfold A8b at h
 split at h
 .rename_i x;simp only[A0s]at hr;obtain⟨y,ys,rfl,hy,rfl⟩:=hr;split at h
  .rename_i t ht;simp only[Z0l]at h;obtain⟨n,hn,rfl⟩:=h;exact⟨goInt n,by simp[builtin,C2u (C:=C) (w:=w) hy hn ts ht ty],by simp[Rep]⟩
  .simp at h
 .simp only[A0s]at hr;obtain⟨y,_,rfl,hy,y2,_,rfl,c,rfl⟩:=hr;obtain⟨u,hu,d⟩:=B7E (C:=C) (w:=w) hy c h;exact⟨u,by simp at hu;simp[builtin,Builtin.max_,List.foldlM,hu],d⟩
 .simp only[A0s]at hr;obtain⟨y,_,rfl,hy,y2,_,rfl,c,rfl⟩:=hr;obtain⟨u,hu,d⟩:=B7E (C:=C) (w:=w) hy c h;exact⟨u,by simp at hu;simp[builtin,Builtin.min_,List.foldlM,hu],d⟩
 .simp at h
def C7X(hi:Inv C G M w){x}{xv}(hx:Rep G x xv)(hs:x.storable=true)(e:TypeId):∃u w' G',(Instr.box e xv).run C.P w=.ok u w'/\G.le G'/\Inv C G' M w'/\Rep G' (.cptr x.cells) u/\Ext w w':=by
 obtain⟨h1,h2⟩:=hx.cells hs
 have a:=A0p.le_fix hi xv.cells.toList
 refine⟨.pointer (some ⟨w.heap.size,0,none⟩),w.alloc (.cells xv.cells e),G.fix w.heap.size xv.cells.toList,?_,a,hi.fix xv.cells e xv.cells.toList (λi v hv=>by simpa using hv),?_,Ext.alloc _ _⟩
 .simp only[Instr.box,newVar,newRow,Z0E,Z3G,Z0t,Z0M];rfl
 .simp only[Rep];exact⟨_,_,rfl,A0Q.fix hi h1 h2⟩
def C4R(hi:Inv C G M w){o}{ρ:Operand->AV}{σ:Operand->Value}(hρ:∀x∈o.op.operands.toList,Rep G (ρ x) (σ x)){hn}{v}(h:A0I C hn o ρ=some v):A3j C G w (execOp σ o) v M:=by
 obtain⟨dst,op,type,pos,after,guard⟩:=o;simp only at hρ;unfold A0I at h;simp only at h;split at h
 ·-- move
  cases h;exact A3j.same hi (by simp[execOp]) (hρ _ (by simp[Op.operands]))
 .cases h;exact A3j.same hi (by simp[execOp]) (hρ _ (by simp[Op.operands]))
 ·-- pick
  rename_i c a b;split at h;case h_2=>simp at h
  rename_i t hc;cases h;have h1:=hρ c (by simp[Op.operands]);rw[hc]at h1;simp only[Rep]at h1;have h2:=hρ a (by simp[Op.operands]);have h3:=hρ b (by simp[Op.operands]);cases t
  .exact A3j.same hi (x:=σ b) (by simp[execOp,h1,asBool]) (by simpa using h3)
  .exact A3j.same hi (x:=σ a) (by simp[execOp,h1,asBool]) (by simpa using h2)
 ·-- box
  rename_i e x;split at h;case isFalse=>simp at h
  rename_i hc;simp only[Z0h]at hc;cases h;obtain⟨u,w',G',h1,h2,h3,h4,h5⟩:=C7X hi (hρ x (by simp[Op.operands])) hc.2 e;exact⟨_,w',G',A3w h1,.inl ⟨u,rfl,h4⟩,h2,h3,h5⟩
 ·-- nilCheck
  rename_i x;have hx:=hρ x (by simp[Op.operands]);split at h
  .rename_i b off he;cases h;rw[he]at hx;have m:=hx;simp only[Rep]at hx;exact A3j.same hi (x:=σ x) (by simp[execOp,hx.2]) m
  .rename_i cs he;cases h;rw[he]at hx;have m:=hx;simp only[Rep]at hx;obtain⟨b,i,hp,_⟩:=hx;exact A3j.same hi (x:=σ x) (by simp[execOp,hp]) m
  .rename_i f a c he;cases h;rw[he]at hx;have m:=hx;simp only[Rep]at hx;obtain⟨fs,cs,hp,_⟩:=hx;exact A3j.same hi (x:=σ x) (by simp[execOp,hp]) m
  .rename_i f g off he;cases h;rw[he]at hx;have m:=hx;simp only[Rep]at hx;obtain⟨_,_,a,cap,_,hp⟩:=hx;exact A3j.same hi (x:=σ x) (by simp[execOp,hp]) m
  .simp at h
 ·-- binOp
  rename_i op t x y _;obtain⟨u,h1,h2⟩:=C2l hi (hρ x (by simp[Op.operands])) (hρ y (by simp[Op.operands])) h x y;exact A3j.same hi (x:=u) (A3w h1) h2
 ·-- not
  rename_i t x;have hx:=hρ x (by simp[Op.operands]);split at h;case h_2=>simp at h
  rename_i b he;cases h;rw[he]at hx;simp only[Rep]at hx;exact A3j.same hi (x:=.bool !b) (by simp[execOp,hx,Op.unary]) (by simp[Rep])
 .rename_i t x;have hx:=hρ x (by simp[Op.operands]);split at h;case h_2=>simp at h
  rename_i k n he;cases h;rw[he]at hx;simp only[Rep]at hx;exact A3j.same hi (x:=.int k (k.wrap (0-n))) (by simp[execOp,hx,Op.unary,Op.intArith]) (by simp[Rep])
 ·-- fieldAddr
  rename_i t x f;have hx:=hρ x (by simp[Op.operands]);split at h
  .rename_i k b off ho he;cases h;rw[he]at hx;simp only[Rep]at hx;refine A3j.same hi (x:=.pointer (some ⟨G.blk b,off+k,none⟩)) ?_ (by simp only[Rep];exact⟨hx.1,trivial⟩);have:=B4p ho ⟨G.blk b,off,none⟩ w;rw[Z1h]at this;simp only[execOp,hx.2];exact A3w this
  .rename_i k cs ho he;cases h;rw[he]at hx;simp only[Rep]at hx;obtain⟨b,i,hp,hm⟩:=hx;refine A3j.same hi (x:=.pointer (some ⟨b,i+k,none⟩)) ?_ (by simp only[Rep];exact⟨b,i+k,rfl,hm.drop k⟩);have:=B4p ho ⟨b,i,none⟩ w;rw[Z1h]at this;simp only[execOp,hp];exact A3w this
  .rename_i k f' g off ho he;cases h;rw[he]at hx;simp only[Rep]at hx;obtain⟨q1,q2,a,cap,q3,hp⟩:=hx;refine A3j.same hi (x:=.pointer (some ⟨a.block,a.off+(off+k),none⟩)) ?_ (by simp only[Rep];exact⟨q1,q2,a,cap,q3,rfl⟩);have:=B4p ho ⟨a.block,a.off+off,none⟩ w;rw[Z1h,Z2z]at this;simp only[execOp,hp];exact A3w this
  .simp at h
 ·-- field
  rename_i t x f;have hx:=hρ x (by simp[Op.operands]);split at h;case h_2=>simp at h
  rename_i k ft cs hfo he;split at h;case isFalse=>simp at h
  rename_i hfit;rw[he]at hx;simp only[Rep]at hx;obtain⟨ys,hp,hr,h1⟩:=hx;obtain⟨u,hu,d⟩:=A7W (C:=C) (w:=w) hr h1 hfit h;refine A3j.same hi (x:=u) ?_ d;unfold A0U at hfo;split at hfo;case h_2=>simp at hfo
  rename_i fs hund;simp only[Z0l]at hfo;obtain⟨fx,al,af⟩:=hfo;simp at af;obtain⟨rfl,rfl⟩:=af;simp[execOp,Instr.field,hp,Z0p hund,al,asAgg,hu]
 ·-- indexAddr
  rename_i t x ix;have hx:=hρ x (by simp[Op.operands]);have l:=hρ ix (by simp[Op.operands]);split at h;case h_3=>simp at h
  .rename_i e sz rows own k i hel he hei;split at h;(case isFalse=>simp at h);rename_i hc;obtain⟨aa,h0,a2⟩:=hc;cases h;rw[he]at hx;rw[hei]at l;simp only[Rep]at hx l;obtain⟨base,cap,hp,ao,an,a5,am⟩:=hx;cases base with
   |none=>obtain⟨rfl,_⟩:=a5;simp at a2;omega
   |some a=>
    obtain⟨ac,a0⟩:=a5;have a4:i.toNat<rows.length:=Q0;have ac:=ac (λe=>by subst e;simp at a4);have ad:=a0.row (j:=i.toNat) (r:=rows[i.toNat]) (by simp[a4]);(have ea:a.add (i.toNat*sz)=⟨a.block,a.off+i.toNat*sz,none⟩:=by(have ea:a=⟨a.block,a.off,none⟩:=by cases a;simp_all);rw[ea,Z1h]);refine A3j.same hi (x:=.pointer (some ⟨a.block,a.off+i.toNat*sz,none⟩)) ?_ ?_
    .have hu:=A2i hel;simp[execOp,Instr.indexAt,hp,l,asIntOf,Z0p hu,h0,a2,A1N aa,ea]
    ·(have:rows.getD i.toNat []=rows[i.toNat]:=by simp[List.getD,a4]);rw[this]
     simp only[Rep];exact⟨_,_,rfl,ad.2⟩
  .rename_i e f g sz lo len k i hel he hei;split at h;(case isFalse=>simp at h);rename_i hc;obtain⟨aa,h0,a2⟩:=hc;cases h;rw[he]at hx;rw[hei]at l;simp only[Rep]at hx l;obtain⟨q1,q2,a,a',cap,q3,q4,q5,hp,q6,q7,q8⟩:=hx;have ha:=q8 Q0;refine A3j.same hi (x:=.pointer (some ⟨a.block,a.off+(lo+i.toNat)*sz,none⟩)) ?_ (by simp only[Rep];exact⟨q1,q2,a,cap,q3,rfl⟩);(have ag:a'.add (i.toNat*sz)=⟨a.block,a.off+(lo+i.toNat)*sz,none⟩:=by rw[ha,Z1h,Z0Q,Z2z]);simp[execOp,Instr.indexAt,hp,l,asIntOf,Z0p (A2i hel),h0,a2,A1N aa,ag]
 ·-- index of a string
  rename_i t x ix;have hx:=hρ x (by simp[Op.operands]);have l:=hρ ix (by simp[Op.operands]);split at h;case h_2=>simp at h
  rename_i s k i hu he hei;split at h;case isFalse=>simp at h
  rename_i hc;cases h;rw[he]at hx;rw[hei]at l;simp only[Rep]at hx l;refine A3j.same hi (x:=.int .u8 (s.data.getD i.toNat 0).toNat) ?_ (by simp[Rep]);have a2:i.toNat<s.size:=Q0;have ae:i.toNat<s.data.size:=a2;have e1:s[i.toNat]?=some (s.data.getD i.toNat 0):=by rw[getElem?_pos s i.toNat a2];simp only[Array.getD];rw[dif_pos ae];rfl
  simp[execOp,Instr.index,hx,l,asIntOf,Z0p hu,hc.1,e1]
 ·-- load
  rename_i t x;have hx:=hρ x (by simp[Op.operands]);split at h;case h_2=>simp at h
  rename_i cs he;rw[he]at hx;obtain⟨u,hu,d⟩:=B2N hi hx (t:=t) (cs:=cs) (by simp[A2r]) h;exact A3j.same hi (x:=u) (A3w hu) d
 ·-- extract
  rename_i x i;have hx:=hρ x (by simp[Op.operands]);split at h;case h_2=>simp at h
  rename_i vs he;rw[he]at hx;simp only[Rep]at hx;obtain⟨ys,hp,hr⟩:=hx;obtain⟨y,hy,ah⟩:=hr.get h;have:ys[i]?=some y:=by simpa using hy
  exact A3j.same hi (x:=y) (by simp[execOp,Instr.extract,hp,this]) ah
 ·-- makeFunc
  rename_i fn f c;cases h;refine A3j.same hi (x:=.func fn (f.map σ) (c.map σ)) (by simp[execOp,Instr.makeFunc]) ?_;simp only[Rep];refine⟨_,_,rfl,?_,?_⟩
  .simpa using A7X (G:=G) (ρ:=ρ) (σ:=σ) f.toList (λx hx=>hρ x (by simp[Op.operands];simp at hx;simp[hx]))
  .simpa using A7X (G:=G) (ρ:=ρ) (σ:=σ) c.toList (λx hx=>hρ x (by simp[Op.operands];simp at hx;simp[hx]))
 ·-- slice
  rename_i t x lo hi' mx;have hx:=hρ x (by simp[Op.operands]);have a6:∀a,lo.map ρ=some a->∃y,lo.map σ=some y/\Rep G a y:=λa ha=>by
   cases lo with
   |none=>simp at ha
   |some q=>simp at ha;subst ha;exact⟨_,rfl,hρ q (by simp[Op.operands])⟩
  have a8:∀a,hi'.map ρ=some a->∃y,hi'.map σ=some y/\Rep G a y:=λa ha=>by
   cases hi' with
   |none=>simp at ha
   |some q=>simp at ha;subst ha;exact⟨_,rfl,hρ q (by simp[Op.operands])⟩
  have a9:∀a,mx.map ρ=some a->∃y,mx.map σ=some y/\Rep G a y:=λa ha=>by
   cases mx with
   |none=>simp at ha
   |some q=>simp at ha;subst ha;exact⟨_,rfl,hρ q (by simp[Op.operands])⟩
  by_cases a7:∃f g sz ab len,ρ x=.vref f g sz ab len
  .obtain⟨f,g,sz,ab,len,a7⟩:=a7;rw[a7]at h hx;obtain⟨u,hu,d⟩:=B3N (C:=C) (G:=G) (w:=w) hx a6 (by cases lo<;>simp) a8 (by cases hi'<;>simp) a9 (by cases mx<;>simp) h;exact A3j.same hi (x:=u) (A3w hu) d
  have ai:A1W C.P t (ρ x) (lo.map ρ) (hi'.map ρ) (mx.map ρ)=A3G C.P t (ρ x) (lo.map ρ) (hi'.map ρ) (mx.map ρ):=by
   unfold A1W;split
   .rename_i e;exact absurd ⟨_,_,_,_,_,e⟩ a7
   .rfl
  rw[ai]at h;by_cases hs:∃s,ρ x=.val (.string s)
  .obtain⟨s,hs⟩:=hs;rw[hs]at h hx;simp only[Rep]at hx;cases mx with
   |some q=>simp[A3G]at h
   |none=>obtain⟨u,hu,d⟩:=B2V (C:=C) (G:=G) (w:=w) a6 (by cases lo<;>simp) a8 (by cases hi'<;>simp) h;refine A3j.same hi (x:=u) ?_ d;simp only[execOp,hx];exact A3w hu
  .cases he:ρ x with
   |list sz rows own=>rw[he]at h hx;obtain⟨u,hu,d,_⟩:=A9v (C:=C) (G:=G) (w:=w) hx a6 (by cases lo<;>simp) a8 (by cases hi'<;>simp) a9 (by cases mx<;>simp) h;exact A3j.same hi (x:=u) (A3w hu) d
   |val v=>
    cases v with
    |string s=>exact absurd ⟨s,he⟩ hs
    |slice a n c=>
     rw[he]at h hx;simp only[Rep]at hx;have a3:a=none/\n=0/\c=0:=by
      unfold A3G at h;split at h
      .rename_i heq;simp at heq
      .rename_i heq;simp at heq
      .rename_i heq;simpa using heq
      .simp at h
     obtain⟨rfl,rfl,rfl⟩:=a3;simp only[A3G]at h;split at h;(case h_2=>simp at h);split at h;(case h_2=>simp at h);rename_i sz _;(have m:Rep G (.list sz [] .full) (σ x):=by rw[hx];exact A5m Q1 (Z0j _) (by simp[maxLen]) ⟨rfl,rfl⟩ rfl);simp only[Z0l]at h;obtain⟨v',h,rfl⟩:=h;obtain⟨u,hu,d,a3⟩:=A9v (C:=C) (G:=G) (w:=w) m a6 (by cases lo<;>simp) a8 (by cases hi'<;>simp) a9 (by cases mx<;>simp) h;exact A3j.same hi (x:=u) (A3w hu) (by rw[a3 hx];simp[Rep])
    |_=>rw[he]at h;simp[A3G]at h
   |_=>rw[he]at h;simp[A3G]at h
 ·-- convert
  rename_i src dst x;obtain⟨u,h1,h2⟩:=C6t (C:=C) (w:=w) (hρ x (by simp[Op.operands])) h;exact A3j.same hi (x:=u) (A3w h1) h2
 ·-- build
  rename_i t parts;split at h;case h_2=>simp at h
  rename_i z fs hz hu;split at h
  .simp at h
  rename_i hc;simp only[Z1V,Z2N,Z4r,Bool.not_eq_false]at hc;simp only[Z0l]at h;obtain⟨cs,ak,rfl⟩:=h;obtain⟨u,aj,d⟩:=C4g (C:=C) (G:=G) (w:=w) hu hc.1 hz hc.2 (xs:=parts.map λ(i,x)=>(i,σ x)) Q1 (λj p x hp hx=>by simp only[Z1i,Z0l]at hp;obtain⟨q,hq,rfl⟩:=hp;simp only[Z3z,Z1i,Z0l]at hx;obtain⟨q',a1,rfl⟩:=hx;rw[hq]at a1;simp at a1;subst a1;exact⟨rfl,hρ _ (by simp[Op.operands];exact⟨_,by simpa using List.mem_of_getElem? hq⟩)⟩) ak;exact A3j.same hi (x:=u) (A3w aj) d
 ·-- buildSlice
  rename_i t n parts;split at h;case isTrue=>simp at h
  split at h;case h_2=>simp at h
  rename_i e he;split at h;case h_2=>simp at h
  rename_i sz z hs hz;split at h;case isFalse=>simp at h
  rename_i hc;obtain⟨c1,c2,c3,c4⟩:=hc;simp only[Z0l]at h;obtain⟨rows,a0,rfl⟩:=h;obtain⟨u,w',G',h1,h2,h3,h4,h5⟩:=B4x (C:=C) (G:=G) (w:=w) hi he hs hz c3 c2 c4 c1 (xs:=parts.map λ(i,x)=>(i,σ x)) Q1 (λj p x hp hx=>by simp only[Z1i,Z0l]at hp;obtain⟨q,hq,rfl⟩:=hp;simp only[Z3z,Z1i,Z0l]at hx;obtain⟨q',a1,rfl⟩:=hx;rw[hq]at a1;simp at a1;subst a1;exact⟨rfl,hρ _ (by simp[Op.operands];exact⟨_,by simpa using List.mem_of_getElem? hq⟩)⟩) a0;exact⟨_,w',G',A3w h1,.inl ⟨u,rfl,h4⟩,h2,h3,h5⟩
 ·-- a builtin
  rename_i b args ts;obtain⟨u,hu,d⟩:=B6G (C:=C) (w:=w) (xs:=args.map σ) (by simpa using A7X (G:=G) (ρ:=ρ) (σ:=σ) args.toList (λx hx=>hρ x (by simp[Op.operands,Call.operands];simpa using hx))) h type (args.map λ|.const _=>true|_=>false);exact A3j.same hi (x:=u) (by simp only[execOp,resolve,invoke,Z0E,Z0M,Z0t];exact hu) d
 .simp at h
end
end Go.Abs
